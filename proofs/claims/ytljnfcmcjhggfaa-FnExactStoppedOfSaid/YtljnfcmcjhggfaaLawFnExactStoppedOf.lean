/- For every list of applications, the program's StoppedOf and the reference's StoppedOf return the same number, and the list is left as it was. Conditions: none. -/
import Derived.Test.YtljnfcmcjhggfaaPureFnExactStoppedOf
namespace Go.Proofs.Ytljnfcmcjhggfaa
/-- The given statement. -/
theorem fnExactStoppedOf_holds : Rows.FnExactStoppedOfSaid := fnExactStoppedOf.over Pure.FnExactStoppedOf
#print axioms fnExactStoppedOf_holds
end Go.Proofs.Ytljnfcmcjhggfaa
