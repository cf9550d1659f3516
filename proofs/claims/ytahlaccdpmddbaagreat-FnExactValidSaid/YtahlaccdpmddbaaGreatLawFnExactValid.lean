/- The law FnExactValid holds: the program returns what the reference returns, for all arguments. No condition. -/
import Derived.Test.YtahlaccdpmddbaaGreatPureFnExactValid
namespace Go.Proofs.YtahlaccdpmddbaaGreat
/-- The given statement. -/
theorem fnExactValid_holds : Rows.FnExactValidSaid := fnExactValid.over Pure.fnExactValid
#print axioms fnExactValid_holds
end Go.Proofs.YtahlaccdpmddbaaGreat
