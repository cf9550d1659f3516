/- The law FnExactMostLeft holds. -/
import Derived.Test.YtnbmifoebaoemaaPureFnExactMostLeft
namespace Go.Proofs.Ytnbmifoebaoemaa
/-- The given statement. -/
theorem fnExactMostLeft_holds : Rows.FnExactMostLeftSaid := fnExactMostLeft.over Pure.FnExactMostLeft
#print axioms fnExactMostLeft_holds
end Go.Proofs.Ytnbmifoebaoemaa
