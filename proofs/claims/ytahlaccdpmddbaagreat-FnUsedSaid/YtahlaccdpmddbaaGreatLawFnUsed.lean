/- The law FnUsed holds, for all arguments. No condition. -/
import Derived.Test.YtahlaccdpmddbaaGreatPureFnUsed
namespace Go.Proofs.YtahlaccdpmddbaaGreat
/-- The given statement. -/
theorem fnUsed_holds : Rows.FnUsedSaid := fnUsed.Mm Pure.fnUsed
#print axioms fnUsed_holds
end Go.Proofs.YtahlaccdpmddbaaGreat
