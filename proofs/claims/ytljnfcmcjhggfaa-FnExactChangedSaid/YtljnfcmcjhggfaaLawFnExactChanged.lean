/- For every list of applications, the program's Changed and the reference's Changed return the same number, and the list is left as it was. Conditions: none. -/
import Derived.Test.YtljnfcmcjhggfaaPureFnExactChanged
namespace Go.Proofs.Ytljnfcmcjhggfaa
/-- The given statement. -/
theorem fnExactChanged_holds : Rows.FnExactChangedSaid := fnExactChanged.over Pure.FnExactChanged
#print axioms fnExactChanged_holds
end Go.Proofs.Ytljnfcmcjhggfaa
