/- The program's UsedUp returns what the reference's returns, for all arguments. No condition. -/
import Derived.Test.YtnbmifoebaoemaaPureFnExactUsedUp
namespace Go.Proofs.Ytnbmifoebaoemaa
/-- The given statement. -/
theorem fnExactUsedUp_holds : Rows.FnExactUsedUpSaid := fnExactUsedUp.over Pure.fnExactUsedUp
#print axioms fnExactUsedUp_holds
end Go.Proofs.Ytnbmifoebaoemaa
