/- Closed facts of the row of FnExactPutScript. No condition. -/
import Derived.Test.YtcddhifkfakcjaaGreatChecked
import Derived.Test.YtcddhifkfakcjaaGreatRows
import Derived.JoinedOf
import Derived.KernelRfl
namespace Go.Proofs.YtcddhifkfakcjaaGreat.fnExactPutScript.Fac
open Go
set_option maxRecDepth 100000
theorem jf1 : Tryz.prog.inPlace 3 = Rows.fnExactPutScriptRow.inPlace := by kernel_rfl
theorem jf2 : Tryz.prog.unfollowed 3 = Rows.fnExactPutScriptRow.unfollowed := by kernel_rfl
theorem jf3 : Tryz.prog.recurses 3 = Rows.fnExactPutScriptRow.recurses := by kernel_rfl
theorem jf4 : Tryz.prog.varsNamed 3 = Rows.fnExactPutScriptRow.named := by kernel_rfl
theorem jf5 : laidOutB Tryz.prog = true := by kernel_rfl
theorem jf6 : mapsRowed Tryz.prog = true := by kernel_rfl
theorem jf7 : Tryz.prog.stopsHeard = true := by kernel_rfl
theorem jf8 : Tryz.prog.mayEnter = true := by kernel_rfl
theorem closed : joinedFacts Tryz.pinned.checked.prog 3 Tryz.f3 Rows.fnExactPutScriptSpec Rows.fnExactPutScriptRow = true := by
  show joinedFacts Tryz.prog 3 Tryz.f3 Rows.fnExactPutScriptSpec Rows.fnExactPutScriptRow = true
  unfold joinedFacts
  rw [jf1, jf2, jf3, jf4, jf5, jf6, jf7, jf8]
  kernel_rfl
theorem named : Tryz.pinned.checked.prog.funcNamed Rows.fnExactPutScriptRow.func = some 3 := by kernel_rfl
theorem inst : Tryz.f3.isInstance Tryz.pinned.checked.prog Rows.fnExactPutScriptRow.origin Rows.fnExactPutScriptRow.targs := of_decide_eq_true (by kernel_rfl)
theorem wrap : Tryz.f3.isWrapper Tryz.pinned.checked.prog Rows.fnExactPutScriptRow.wrapper Rows.fnExactPutScriptRow.mainSum := by unfold Func.isWrapper; first | (rw [if_pos (by decide +kernel)]; kernel_rfl) | (rw [if_neg (by decide +kernel)]; exact ⟨rfl, rfl⟩)
end Go.Proofs.YtcddhifkfakcjaaGreat.fnExactPutScript.Fac
