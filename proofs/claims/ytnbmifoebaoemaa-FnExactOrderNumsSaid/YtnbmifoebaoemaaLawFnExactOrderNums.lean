/- The law FnExactOrderNums holds: the program returns what the reference returns, for all arguments. No condition. -/
import Derived.Test.YtnbmifoebaoemaaPureFnExactOrderNums
namespace Go.Proofs.Ytnbmifoebaoemaa
/-- The given statement. -/
theorem fnExactOrderNums_holds : Rows.FnExactOrderNumsSaid := fnExactOrderNums.over Pure.fnExactOrderNums
#print axioms fnExactOrderNums_holds
end Go.Proofs.Ytnbmifoebaoemaa
