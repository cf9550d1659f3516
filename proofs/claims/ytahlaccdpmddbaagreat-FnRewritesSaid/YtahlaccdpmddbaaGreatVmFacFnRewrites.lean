/- Closed facts of the row of FnRewrites. No condition. -/
import Derived.Test.YtahlaccdpmddbaaGreatChecked
import Derived.Test.YtahlaccdpmddbaaGreatRows
import Derived.JoinedOf
import Derived.KernelRfl
namespace Go.Proofs.YtahlaccdpmddbaaGreat.fnRewrites.Fac
open Go
set_option maxRecDepth 100000
theorem jf1 : Tryz.prog.inPlace 7 = Rows.fnRewritesRow.inPlace := by kernel_rfl
theorem jf2 : Tryz.prog.unfollowed 7 = Rows.fnRewritesRow.unfollowed := by kernel_rfl
theorem jf3 : Tryz.prog.recurses 7 = Rows.fnRewritesRow.recurses := by kernel_rfl
theorem jf4 : Tryz.prog.varsNamed 7 = Rows.fnRewritesRow.named := by kernel_rfl
theorem jf5 : laidOutB Tryz.prog = true := by kernel_rfl
theorem jf6 : mapsRowed Tryz.prog = true := by kernel_rfl
theorem jf7 : Tryz.prog.stopsHeard = true := by kernel_rfl
theorem jf8 : Tryz.prog.mayEnter = true := by kernel_rfl
theorem closed : joinedFacts Tryz.pinned.checked.prog 7 Tryz.f7 Rows.fnRewritesSpec Rows.fnRewritesRow = true := by
  show joinedFacts Tryz.prog 7 Tryz.f7 Rows.fnRewritesSpec Rows.fnRewritesRow = true
  unfold joinedFacts
  rw [jf1, jf2, jf3, jf4, jf5, jf6, jf7, jf8]
  kernel_rfl
theorem named : Tryz.pinned.checked.prog.funcNamed Rows.fnRewritesRow.func = some 7 := by kernel_rfl
theorem inst : Tryz.f7.isInstance Tryz.pinned.checked.prog Rows.fnRewritesRow.origin Rows.fnRewritesRow.targs := of_decide_eq_true (by kernel_rfl)
theorem wrap : Tryz.f7.isWrapper Tryz.pinned.checked.prog Rows.fnRewritesRow.wrapper Rows.fnRewritesRow.mainSum := by unfold Func.isWrapper; first | (rw [if_pos (by decide +kernel)]; kernel_rfl) | (rw [if_neg (by decide +kernel)]; exact ⟨rfl, rfl⟩)
end Go.Proofs.YtahlaccdpmddbaaGreat.fnRewrites.Fac
