/- The law FnTexts holds, for all arguments. No condition. -/
import Derived.Test.YteimleeiikelbaaDoorPureFnTexts
import Derived.Test.YteimleeiikelbaaDoorCards
import Derived.Test.YteimleeiikelbaaDoorTie
import Derived.SevenTiedAt
namespace Go.Proofs.YteimleeiikelbaaDoor
open Go
set_option maxRecDepth 100000
/-- The given statement. -/
theorem fnTexts_holds : Rows.FnTextsCardSaid :=
  Claim7.holds_tied_plain_at .later [] [.data, .pinned] true (true, "22984577a7596c28fc41688b4ecef258fb7402cdb3769fd1457cae5a56e90f1c") false (fnTexts.over Pure.fnTexts) (fun _ h => by cases h) (by kernel_rfl) (fun _ h => by cases h) fnTexts_row_tie rfl ⟨rfl, rfl⟩ (by kernel_rfl) rfl
    (fun f fn hf hfn => by
      obtain rfl : f = 5 := Option.some.inj ((show Tryd.prog.funcNamed Rows.fnTextsRow.func = some 5 by kernel_rfl).symm.trans hf) |>.symm
      obtain rfl : fn = Tryd.f5 := (Option.some.inj (Tryd.func5.symm.trans hfn)).symm
      exact ⟨by kernel_rfl, fun j t ht => by
        rw [Tryd.params5] at ht
        have hm : t ∈ [32] := by simpa using Array.mem_of_getElem? ht
        have hall : ([32].all fun u => !Tryd.prog.wantsStandIn u) = true := by kernel_rfl
        exact (show Tryd.prog.wantsStandIn t = false by simpa using List.all_eq_true.1 hall t hm)⟩)
    (by kernel_rfl)
#print axioms fnTexts_holds
end Go.Proofs.YteimleeiikelbaaDoor
