/- The law FnExactTurnText holds: the program returns what the reference returns, for all arguments. No condition. -/
import Derived.Test.YtnbmifoebaoemaaPureFnExactTurnText
namespace Go.Proofs.Ytnbmifoebaoemaa
/-- The given statement. -/
theorem fnExactTurnText_holds : Rows.FnExactTurnTextSaid := fnExactTurnText.over Pure.fnExactTurnText
#print axioms fnExactTurnText_holds
end Go.Proofs.Ytnbmifoebaoemaa
