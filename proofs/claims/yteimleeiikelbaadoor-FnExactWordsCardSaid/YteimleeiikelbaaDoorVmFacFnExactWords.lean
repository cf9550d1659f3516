/- Closed facts of the row of FnExactWords. No condition. -/
import Derived.Test.YteimleeiikelbaaDoorChecked
import Derived.Test.YteimleeiikelbaaDoorRows
import Derived.JoinedOf
import Derived.KernelRfl
namespace Go.Proofs.YteimleeiikelbaaDoor.fnExactWords.Fac
open Go
set_option maxRecDepth 100000
theorem jf1 : Tryd.prog.inPlace 3 = Rows.fnExactWordsRow.inPlace := by kernel_rfl
theorem jf2 : Tryd.prog.unfollowed 3 = Rows.fnExactWordsRow.unfollowed := by kernel_rfl
theorem jf3 : Tryd.prog.recurses 3 = Rows.fnExactWordsRow.recurses := by kernel_rfl
theorem jf4 : Tryd.prog.varsNamed 3 = Rows.fnExactWordsRow.named := by kernel_rfl
theorem jf5 : laidOutB Tryd.prog = true := by kernel_rfl
theorem jf6 : mapsRowed Tryd.prog = true := by kernel_rfl
theorem jf7 : Tryd.prog.stopsHeard = true := by kernel_rfl
theorem jf8 : Tryd.prog.mayEnter = true := by kernel_rfl
theorem closed : joinedFacts Tryd.pinned.checked.prog 3 Tryd.f3 Rows.fnExactWordsSpec Rows.fnExactWordsRow = true := by
  show joinedFacts Tryd.prog 3 Tryd.f3 Rows.fnExactWordsSpec Rows.fnExactWordsRow = true
  unfold joinedFacts
  rw [jf1, jf2, jf3, jf4, jf5, jf6, jf7, jf8]
  kernel_rfl
theorem named : Tryd.pinned.checked.prog.funcNamed Rows.fnExactWordsRow.func = some 3 := by kernel_rfl
theorem inst : Tryd.f3.isInstance Tryd.pinned.checked.prog Rows.fnExactWordsRow.origin Rows.fnExactWordsRow.targs := of_decide_eq_true (by kernel_rfl)
theorem wrap : Tryd.f3.isWrapper Tryd.pinned.checked.prog Rows.fnExactWordsRow.wrapper Rows.fnExactWordsRow.mainSum := by unfold Func.isWrapper; first | (rw [if_pos (by decide +kernel)]; kernel_rfl) | (rw [if_neg (by decide +kernel)]; exact ⟨rfl, rfl⟩)
end Go.Proofs.YteimleeiikelbaaDoor.fnExactWords.Fac
