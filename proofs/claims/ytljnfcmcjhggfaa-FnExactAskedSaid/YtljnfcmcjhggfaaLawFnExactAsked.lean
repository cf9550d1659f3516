/- For every list of events, the program's Asked and the reference's Asked return the same number, and the events are left as they were. Conditions: none. -/
import Derived.Test.YtljnfcmcjhggfaaPureFnExactAsked
namespace Go.Proofs.Ytljnfcmcjhggfaa
/-- The given statement. -/
theorem fnExactAsked_holds : Rows.FnExactAskedSaid := fnExactAsked.over Pure.FnExactAsked
#print axioms fnExactAsked_holds
end Go.Proofs.Ytljnfcmcjhggfaa
