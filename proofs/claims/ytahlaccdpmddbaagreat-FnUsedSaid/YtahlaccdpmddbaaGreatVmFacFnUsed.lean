/- Closed facts of the row of FnUsed. No condition. -/
import Derived.Test.YtahlaccdpmddbaaGreatChecked
import Derived.Test.YtahlaccdpmddbaaGreatRows
import Derived.JoinedOf
import Derived.KernelRfl
namespace Go.Proofs.YtahlaccdpmddbaaGreat.fnUsed.Fac
open Go
set_option maxRecDepth 100000
theorem jf1 : Tryz.prog.inPlace 9 = Rows.fnUsedRow.inPlace := by kernel_rfl
theorem jf2 : Tryz.prog.unfollowed 9 = Rows.fnUsedRow.unfollowed := by kernel_rfl
theorem jf3 : Tryz.prog.recurses 9 = Rows.fnUsedRow.recurses := by kernel_rfl
theorem jf4 : Tryz.prog.varsNamed 9 = Rows.fnUsedRow.named := by kernel_rfl
theorem jf5 : laidOutB Tryz.prog = true := by kernel_rfl
theorem jf6 : mapsRowed Tryz.prog = true := by kernel_rfl
theorem jf7 : Tryz.prog.stopsHeard = true := by kernel_rfl
theorem jf8 : Tryz.prog.mayEnter = true := by kernel_rfl
theorem closed : joinedFacts Tryz.pinned.checked.prog 9 Tryz.f9 Rows.fnUsedSpec Rows.fnUsedRow = true := by
  show joinedFacts Tryz.prog 9 Tryz.f9 Rows.fnUsedSpec Rows.fnUsedRow = true
  unfold joinedFacts
  rw [jf1, jf2, jf3, jf4, jf5, jf6, jf7, jf8]
  kernel_rfl
theorem named : Tryz.pinned.checked.prog.funcNamed Rows.fnUsedRow.func = some 9 := by kernel_rfl
theorem inst : Tryz.f9.isInstance Tryz.pinned.checked.prog Rows.fnUsedRow.origin Rows.fnUsedRow.targs := of_decide_eq_true (by kernel_rfl)
theorem wrap : Tryz.f9.isWrapper Tryz.pinned.checked.prog Rows.fnUsedRow.wrapper Rows.fnUsedRow.mainSum := by unfold Func.isWrapper; first | (rw [if_pos (by decide +kernel)]; kernel_rfl) | (rw [if_neg (by decide +kernel)]; exact ⟨rfl, rfl⟩)
end Go.Proofs.YtahlaccdpmddbaaGreat.fnUsed.Fac
