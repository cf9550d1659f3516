/- The law FnExactBalanced holds: the program returns what the reference returns, for all arguments. No condition. -/
import Derived.Test.YtnbmifoebaoemaaPureFnExactBalanced
namespace Go.Proofs.Ytnbmifoebaoemaa
/-- The given statement. -/
theorem fnExactBalanced_holds : Rows.FnExactBalancedSaid := fnExactBalanced.over Pure.fnExactBalanced
#print axioms fnExactBalanced_holds
end Go.Proofs.Ytnbmifoebaoemaa
