/- The law FnExactEffectNums holds: the program returns what the reference returns, for all arguments. No condition. -/
import Derived.Test.YtnbmifoebaoemaaPureFnExactEffectNums
namespace Go.Proofs.Ytnbmifoebaoemaa
/-- The given statement. -/
theorem fnExactEffectNums_holds : Rows.FnExactEffectNumsSaid := fnExactEffectNums.over Pure.fnExactEffectNums
#print axioms fnExactEffectNums_holds
end Go.Proofs.Ytnbmifoebaoemaa
