/- Closed facts of the row of FnInBounds. No condition. -/
import Derived.Test.YtahlaccdpmddbaaGreatChecked
import Derived.Test.YtahlaccdpmddbaaGreatRows
import Derived.JoinedOf
import Derived.KernelRfl
namespace Go.Proofs.YtahlaccdpmddbaaGreat.fnInBounds.Fac
open Go
set_option maxRecDepth 100000
theorem jf1 : Tryz.prog.inPlace 6 = Rows.fnInBoundsRow.inPlace := by kernel_rfl
theorem jf2 : Tryz.prog.unfollowed 6 = Rows.fnInBoundsRow.unfollowed := by kernel_rfl
theorem jf3 : Tryz.prog.recurses 6 = Rows.fnInBoundsRow.recurses := by kernel_rfl
theorem jf4 : Tryz.prog.varsNamed 6 = Rows.fnInBoundsRow.named := by kernel_rfl
theorem jf5 : laidOutB Tryz.prog = true := by kernel_rfl
theorem jf6 : mapsRowed Tryz.prog = true := by kernel_rfl
theorem jf7 : Tryz.prog.stopsHeard = true := by kernel_rfl
theorem jf8 : Tryz.prog.mayEnter = true := by kernel_rfl
theorem closed : joinedFacts Tryz.pinned.checked.prog 6 Tryz.f6 Rows.fnInBoundsSpec Rows.fnInBoundsRow = true := by
  show joinedFacts Tryz.prog 6 Tryz.f6 Rows.fnInBoundsSpec Rows.fnInBoundsRow = true
  unfold joinedFacts
  rw [jf1, jf2, jf3, jf4, jf5, jf6, jf7, jf8]
  kernel_rfl
theorem named : Tryz.pinned.checked.prog.funcNamed Rows.fnInBoundsRow.func = some 6 := by kernel_rfl
theorem inst : Tryz.f6.isInstance Tryz.pinned.checked.prog Rows.fnInBoundsRow.origin Rows.fnInBoundsRow.targs := of_decide_eq_true (by kernel_rfl)
theorem wrap : Tryz.f6.isWrapper Tryz.pinned.checked.prog Rows.fnInBoundsRow.wrapper Rows.fnInBoundsRow.mainSum := by unfold Func.isWrapper; first | (rw [if_pos (by decide +kernel)]; kernel_rfl) | (rw [if_neg (by decide +kernel)]; exact ⟨rfl, rfl⟩)
end Go.Proofs.YtahlaccdpmddbaaGreat.fnInBounds.Fac
