/- The law FnInBounds holds, for all arguments. No condition. -/
import Derived.Test.YtahlaccdpmddbaaGreatPureFnInBounds
namespace Go.Proofs.YtahlaccdpmddbaaGreat
/-- The given statement. -/
theorem fnInBounds_holds : Rows.FnInBoundsSaid := fnInBounds.over Pure.fnInBounds
#print axioms fnInBounds_holds
end Go.Proofs.YtahlaccdpmddbaaGreat
