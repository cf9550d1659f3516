/- For every trigger, the program's TriggerText and the reference's TriggerText return the same text. Conditions: none. -/
import Derived.Test.YtljnfcmcjhggfaaPureFnExactTriggerText
namespace Go.Proofs.Ytljnfcmcjhggfaa
/-- The given statement. -/
theorem fnExactTriggerText_holds : Rows.FnExactTriggerTextSaid := fnExactTriggerText.over Pure.FnExactTriggerText
#print axioms fnExactTriggerText_holds
end Go.Proofs.Ytljnfcmcjhggfaa
