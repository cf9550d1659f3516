/- The law FnExactParseEvent holds, for all arguments. No condition. -/
import Derived.Test.YteimleeiikelbaaDoorPureFnExactParseEvent
import Derived.Test.YteimleeiikelbaaDoorCards
import Derived.Test.YteimleeiikelbaaDoorTie
import Derived.SevenTiedAt
namespace Go.Proofs.YteimleeiikelbaaDoor
open Go
set_option maxRecDepth 100000
/-- The given statement. -/
theorem fnExactParseEvent_holds : Rows.FnExactParseEventCardSaid :=
  Claim7.holds_tied_plain_at .later [] [.data, .pinned] true (true, "22984577a7596c28fc41688b4ecef258fb7402cdb3769fd1457cae5a56e90f1c") false (fnExactParseEvent.over Pure.fnExactParseEvent) (fun _ h => by cases h) (by kernel_rfl) (fun _ h => by cases h) fnExactParseEvent_row_tie rfl ⟨rfl, rfl⟩ (by kernel_rfl) rfl
    (fun f fn hf hfn => by
      obtain rfl : f = 4 := Option.some.inj ((show Tryd.prog.funcNamed Rows.fnExactParseEventRow.func = some 4 by kernel_rfl).symm.trans hf) |>.symm
      obtain rfl : fn = Tryd.f4 := (Option.some.inj (Tryd.func4.symm.trans hfn)).symm
      exact ⟨by kernel_rfl, fun j t ht => by
        rw [Tryd.params4] at ht
        have hm : t ∈ [9] := by simpa using Array.mem_of_getElem? ht
        have hall : ([9].all fun u => !Tryd.prog.wantsStandIn u) = true := by kernel_rfl
        exact (show Tryd.prog.wantsStandIn t = false by simpa using List.all_eq_true.1 hall t hm)⟩)
    (by kernel_rfl)
#print axioms fnExactParseEvent_holds
end Go.Proofs.YteimleeiikelbaaDoor
