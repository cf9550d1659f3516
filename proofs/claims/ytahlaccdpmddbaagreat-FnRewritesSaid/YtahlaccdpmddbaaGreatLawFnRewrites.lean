/- The law FnRewrites holds, for all arguments. No condition. -/
import Derived.Test.YtahlaccdpmddbaaGreatPureFnRewrites
namespace Go.Proofs.YtahlaccdpmddbaaGreat
/-- The given statement. -/
theorem fnRewrites_holds : Rows.FnRewritesSaid := fnRewrites.Nq Pure.fnRewrites
#print axioms fnRewrites_holds
end Go.Proofs.YtahlaccdpmddbaaGreat
