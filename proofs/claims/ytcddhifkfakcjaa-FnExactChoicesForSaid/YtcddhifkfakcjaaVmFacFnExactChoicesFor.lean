/- Closed facts of the row of FnExactChoicesFor. No condition. -/
import Derived.Test.YtcddhifkfakcjaaChecked
import Derived.Test.YtcddhifkfakcjaaRows
import Derived.JoinedOf
import Derived.KernelRfl
namespace Go.Proofs.Ytcddhifkfakcjaa.fnExactChoicesFor.Fac
open Go
set_option maxRecDepth 100000
theorem jf1 : Try.prog.inPlace 3 = Rows.fnExactChoicesForRow.inPlace := by kernel_rfl
theorem jf2 : Try.prog.unfollowed 3 = Rows.fnExactChoicesForRow.unfollowed := by kernel_rfl
theorem jf3 : Try.prog.recurses 3 = Rows.fnExactChoicesForRow.recurses := by kernel_rfl
theorem jf4 : Try.prog.varsNamed 3 = Rows.fnExactChoicesForRow.named := by kernel_rfl
theorem jf5 : laidOutB Try.prog = true := by kernel_rfl
theorem jf6 : mapsRowed Try.prog = true := by kernel_rfl
theorem jf7 : Try.prog.stopsHeard = true := by kernel_rfl
theorem jf8 : Try.prog.mayEnter = true := by kernel_rfl
theorem closed : joinedFacts Try.pinned.checked.prog 3 Try.f3 Rows.fnExactChoicesForSpec Rows.fnExactChoicesForRow = true := by
  show joinedFacts Try.prog 3 Try.f3 Rows.fnExactChoicesForSpec Rows.fnExactChoicesForRow = true
  unfold joinedFacts
  rw [jf1, jf2, jf3, jf4, jf5, jf6, jf7, jf8]
  kernel_rfl
theorem named : Try.pinned.checked.prog.funcNamed Rows.fnExactChoicesForRow.func = some 3 := by kernel_rfl
theorem inst : Try.f3.isInstance Try.pinned.checked.prog Rows.fnExactChoicesForRow.origin Rows.fnExactChoicesForRow.targs := of_decide_eq_true (by kernel_rfl)
theorem wrap : Try.f3.isWrapper Try.pinned.checked.prog Rows.fnExactChoicesForRow.wrapper Rows.fnExactChoicesForRow.mainSum := by unfold Func.isWrapper; first | (rw [if_pos (by decide +kernel)]; kernel_rfl) | (rw [if_neg (by decide +kernel)]; exact ⟨rfl, rfl⟩)
end Go.Proofs.Ytcddhifkfakcjaa.fnExactChoicesFor.Fac
