/- Closed facts of the row of FnSaid. No condition. -/
import Derived.Test.YtahlaccdpmddbaaGreatChecked
import Derived.Test.YtahlaccdpmddbaaGreatRows
import Derived.JoinedOf
import Derived.KernelRfl
namespace Go.Proofs.YtahlaccdpmddbaaGreat.fnSaid.Fac
open Go
set_option maxRecDepth 100000
theorem jf1 : Tryz.prog.inPlace 5 = Rows.fnSaidRow.inPlace := by kernel_rfl
theorem jf2 : Tryz.prog.unfollowed 5 = Rows.fnSaidRow.unfollowed := by kernel_rfl
theorem jf3 : Tryz.prog.recurses 5 = Rows.fnSaidRow.recurses := by kernel_rfl
theorem jf4 : Tryz.prog.varsNamed 5 = Rows.fnSaidRow.named := by kernel_rfl
theorem jf5 : laidOutB Tryz.prog = true := by kernel_rfl
theorem jf6 : mapsRowed Tryz.prog = true := by kernel_rfl
theorem jf7 : Tryz.prog.stopsHeard = true := by kernel_rfl
theorem jf8 : Tryz.prog.mayEnter = true := by kernel_rfl
theorem closed : joinedFacts Tryz.pinned.checked.prog 5 Tryz.f5 Rows.fnSaidSpec Rows.fnSaidRow = true := by
  show joinedFacts Tryz.prog 5 Tryz.f5 Rows.fnSaidSpec Rows.fnSaidRow = true
  unfold joinedFacts
  rw [jf1, jf2, jf3, jf4, jf5, jf6, jf7, jf8]
  kernel_rfl
theorem named : Tryz.pinned.checked.prog.funcNamed Rows.fnSaidRow.func = some 5 := by kernel_rfl
theorem inst : Tryz.f5.isInstance Tryz.pinned.checked.prog Rows.fnSaidRow.origin Rows.fnSaidRow.targs := of_decide_eq_true (by kernel_rfl)
theorem wrap : Tryz.f5.isWrapper Tryz.pinned.checked.prog Rows.fnSaidRow.wrapper Rows.fnSaidRow.mainSum := by unfold Func.isWrapper; first | (rw [if_pos (by decide +kernel)]; kernel_rfl) | (rw [if_neg (by decide +kernel)]; exact ⟨rfl, rfl⟩)
end Go.Proofs.YtahlaccdpmddbaaGreat.fnSaid.Fac
