/- The law FnExactFirstBad holds: the program returns what the reference returns, for all arguments. No condition. -/
import Derived.Test.YtahlaccdpmddbaaGreatPureFnExactFirstBad
namespace Go.Proofs.YtahlaccdpmddbaaGreat
/-- The given statement. -/
theorem fnExactFirstBad_holds : Rows.FnExactFirstBadSaid := fnExactFirstBad.over Pure.fnExactFirstBad
#print axioms fnExactFirstBad_holds
end Go.Proofs.YtahlaccdpmddbaaGreat
