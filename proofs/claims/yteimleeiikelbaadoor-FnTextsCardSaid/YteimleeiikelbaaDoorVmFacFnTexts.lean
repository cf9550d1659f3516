/- Closed facts of the row of FnTexts. No condition. -/
import Derived.Test.YteimleeiikelbaaDoorChecked
import Derived.Test.YteimleeiikelbaaDoorRows
import Derived.JoinedOf
import Derived.KernelRfl
namespace Go.Proofs.YteimleeiikelbaaDoor.fnTexts.Fac
open Go
set_option maxRecDepth 100000
theorem jf1 : Tryd.prog.inPlace 5 = Rows.fnTextsRow.inPlace := by kernel_rfl
theorem jf2 : Tryd.prog.unfollowed 5 = Rows.fnTextsRow.unfollowed := by kernel_rfl
theorem jf3 : Tryd.prog.recurses 5 = Rows.fnTextsRow.recurses := by kernel_rfl
theorem jf4 : Tryd.prog.varsNamed 5 = Rows.fnTextsRow.named := by kernel_rfl
theorem jf5 : laidOutB Tryd.prog = true := by kernel_rfl
theorem jf6 : mapsRowed Tryd.prog = true := by kernel_rfl
theorem jf7 : Tryd.prog.stopsHeard = true := by kernel_rfl
theorem jf8 : Tryd.prog.mayEnter = true := by kernel_rfl
theorem closed : joinedFacts Tryd.pinned.checked.prog 5 Tryd.f5 Rows.fnTextsSpec Rows.fnTextsRow = true := by
  show joinedFacts Tryd.prog 5 Tryd.f5 Rows.fnTextsSpec Rows.fnTextsRow = true
  unfold joinedFacts
  rw [jf1, jf2, jf3, jf4, jf5, jf6, jf7, jf8]
  kernel_rfl
theorem named : Tryd.pinned.checked.prog.funcNamed Rows.fnTextsRow.func = some 5 := by kernel_rfl
theorem inst : Tryd.f5.isInstance Tryd.pinned.checked.prog Rows.fnTextsRow.origin Rows.fnTextsRow.targs := of_decide_eq_true (by kernel_rfl)
theorem wrap : Tryd.f5.isWrapper Tryd.pinned.checked.prog Rows.fnTextsRow.wrapper Rows.fnTextsRow.mainSum := by unfold Func.isWrapper; first | (rw [if_pos (by decide +kernel)]; kernel_rfl) | (rw [if_neg (by decide +kernel)]; exact ⟨rfl, rfl⟩)
end Go.Proofs.YteimleeiikelbaaDoor.fnTexts.Fac
