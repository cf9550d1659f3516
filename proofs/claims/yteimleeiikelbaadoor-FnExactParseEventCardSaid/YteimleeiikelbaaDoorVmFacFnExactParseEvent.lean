/- Closed facts of the row of FnExactParseEvent. No condition. -/
import Derived.Test.YteimleeiikelbaaDoorChecked
import Derived.Test.YteimleeiikelbaaDoorRows
import Derived.JoinedOf
import Derived.KernelRfl
namespace Go.Proofs.YteimleeiikelbaaDoor.fnExactParseEvent.Fac
open Go
set_option maxRecDepth 100000
theorem jf1 : Tryd.prog.inPlace 4 = Rows.fnExactParseEventRow.inPlace := by kernel_rfl
theorem jf2 : Tryd.prog.unfollowed 4 = Rows.fnExactParseEventRow.unfollowed := by kernel_rfl
theorem jf3 : Tryd.prog.recurses 4 = Rows.fnExactParseEventRow.recurses := by kernel_rfl
theorem jf4 : Tryd.prog.varsNamed 4 = Rows.fnExactParseEventRow.named := by kernel_rfl
theorem jf5 : laidOutB Tryd.prog = true := by kernel_rfl
theorem jf6 : mapsRowed Tryd.prog = true := by kernel_rfl
theorem jf7 : Tryd.prog.stopsHeard = true := by kernel_rfl
theorem jf8 : Tryd.prog.mayEnter = true := by kernel_rfl
theorem closed : joinedFacts Tryd.pinned.checked.prog 4 Tryd.f4 Rows.fnExactParseEventSpec Rows.fnExactParseEventRow = true := by
  show joinedFacts Tryd.prog 4 Tryd.f4 Rows.fnExactParseEventSpec Rows.fnExactParseEventRow = true
  unfold joinedFacts
  rw [jf1, jf2, jf3, jf4, jf5, jf6, jf7, jf8]
  kernel_rfl
theorem named : Tryd.pinned.checked.prog.funcNamed Rows.fnExactParseEventRow.func = some 4 := by kernel_rfl
theorem inst : Tryd.f4.isInstance Tryd.pinned.checked.prog Rows.fnExactParseEventRow.origin Rows.fnExactParseEventRow.targs := of_decide_eq_true (by kernel_rfl)
theorem wrap : Tryd.f4.isWrapper Tryd.pinned.checked.prog Rows.fnExactParseEventRow.wrapper Rows.fnExactParseEventRow.mainSum := by unfold Func.isWrapper; first | (rw [if_pos (by decide +kernel)]; kernel_rfl) | (rw [if_neg (by decide +kernel)]; exact ⟨rfl, rfl⟩)
end Go.Proofs.YteimleeiikelbaaDoor.fnExactParseEvent.Fac
