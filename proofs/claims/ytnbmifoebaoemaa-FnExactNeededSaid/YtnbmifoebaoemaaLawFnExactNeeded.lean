/- The law FnExactNeeded holds: the program returns what the reference returns, for all arguments. No condition. -/
import Derived.Test.YtnbmifoebaoemaaPureFnExactNeeded
namespace Go.Proofs.Ytnbmifoebaoemaa
/-- The given statement. -/
theorem fnExactNeeded_holds : Rows.FnExactNeededSaid := fnExactNeeded.over Pure.fnExactNeeded
#print axioms fnExactNeeded_holds
end Go.Proofs.Ytnbmifoebaoemaa
