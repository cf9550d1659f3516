/- For every application, the program's ChangedBy and the reference's ChangedBy return the same number, and the application is left as it was. Conditions: none. -/
import Derived.Test.YtljnfcmcjhggfaaPureFnExactChangedBy
namespace Go.Proofs.Ytljnfcmcjhggfaa
/-- The given statement. -/
theorem fnExactChangedBy_holds : Rows.FnExactChangedBySaid := fnExactChangedBy.over Pure.FnExactChangedBy
#print axioms fnExactChangedBy_holds
end Go.Proofs.Ytljnfcmcjhggfaa
