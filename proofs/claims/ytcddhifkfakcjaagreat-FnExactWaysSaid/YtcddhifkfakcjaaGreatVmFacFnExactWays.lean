/- Closed facts of the row of FnExactWays. No condition. -/
import Derived.Test.YtcddhifkfakcjaaGreatChecked
import Derived.Test.YtcddhifkfakcjaaGreatRows
import Derived.JoinedOf
import Derived.KernelRfl
namespace Go.Proofs.YtcddhifkfakcjaaGreat.fnExactWays.Fac
open Go
set_option maxRecDepth 100000
theorem jf1 : Tryz.prog.inPlace 4 = Rows.fnExactWaysRow.inPlace := by kernel_rfl
theorem jf2 : Tryz.prog.unfollowed 4 = Rows.fnExactWaysRow.unfollowed := by kernel_rfl
theorem jf3 : Tryz.prog.recurses 4 = Rows.fnExactWaysRow.recurses := by kernel_rfl
theorem jf4 : Tryz.prog.varsNamed 4 = Rows.fnExactWaysRow.named := by kernel_rfl
theorem jf5 : laidOutB Tryz.prog = true := by kernel_rfl
theorem jf6 : mapsRowed Tryz.prog = true := by kernel_rfl
theorem jf7 : Tryz.prog.stopsHeard = true := by kernel_rfl
theorem jf8 : Tryz.prog.mayEnter = true := by kernel_rfl
theorem closed : joinedFacts Tryz.pinned.checked.prog 4 Tryz.f4 Rows.fnExactWaysSpec Rows.fnExactWaysRow = true := by
  show joinedFacts Tryz.prog 4 Tryz.f4 Rows.fnExactWaysSpec Rows.fnExactWaysRow = true
  unfold joinedFacts
  rw [jf1,jf2,jf3,jf4,jf5,jf6,jf7,jf8]
  kernel_rfl
theorem named : Tryz.pinned.checked.prog.funcNamed Rows.fnExactWaysRow.func = some 4 := by kernel_rfl
theorem inst : Tryz.f4.isInstance Tryz.pinned.checked.prog Rows.fnExactWaysRow.origin Rows.fnExactWaysRow.targs := of_decide_eq_true (by kernel_rfl)
theorem wrap : Tryz.f4.isWrapper Tryz.pinned.checked.prog Rows.fnExactWaysRow.wrapper Rows.fnExactWaysRow.mainSum := by unfold Func.isWrapper; first | (rw [if_pos (by decide +kernel)]; kernel_rfl) | (rw [if_neg (by decide +kernel)]; exact ⟨rfl,rfl⟩)
end Go.Proofs.YtcddhifkfakcjaaGreat.fnExactWays.Fac
