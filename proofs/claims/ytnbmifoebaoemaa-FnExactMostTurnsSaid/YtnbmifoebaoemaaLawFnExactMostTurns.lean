/- The law FnExactMostTurns holds. -/
import Derived.Test.YtnbmifoebaoemaaPureFnExactMostTurns
namespace Go.Proofs.Ytnbmifoebaoemaa
/-- The given statement. -/
theorem fnExactMostTurns_holds : Rows.FnExactMostTurnsSaid := fnExactMostTurns.over Pure.FnExactMostTurns
#print axioms fnExactMostTurns_holds
end Go.Proofs.Ytnbmifoebaoemaa
