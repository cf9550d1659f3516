/- The row of the law FnExactMostTurns: from what is left to prove about plain functions ('Pure') to the given statement. No condition. -/
import Derived.Test.YtnbmifoebaoemaaPFnExactMostTurnsx5
import Derived.Test.YtnbmifoebaoemaaOpen
import Derived.Test.YtnbmifoebaoemaaRows
import Derived.WalkKit
import Derived.ProofKit
import Derived.OpenShut
import Derived.ShutString
import Derived.ChangeOld
import Derived.Below
import Derived.SizedLaws
namespace Go.Proofs.Ytnbmifoebaoemaa.fnExactMostTurns
open Go.ChangeShapes Go.WideShapes Go.ChangeAt Go.RowKit
open Go.ChangeMaps (open_string shut_string)
open Go.Proofs.YtnbmifoebaoemaaW.PrintWords Go.Proofs.Ytnbmifoebaoemaa.Opening Go.Proofs.Ytnbmifoebaoemaa.PFnExactMostTurns
set_option linter.unusedVariables false
theorem own : ownKnob Try.prog.godebug = none := by kernel_rfl
theorem laidOut : laidOutB Try.prog = true := by kernel_rfl
theorem op3 : Opens Try.prog 3 (Kd.int .i64) (fun x : Int => (Lit.int .i64 x).wf = true) := opens_int Try.underlying3
def ok47 (x : S47) : Prop := (Lit.int .i64 x.f0).wf = true ∧ (Lit.int .i64 x.f1).wf = true ∧ (Lit.int .i64 x.f2).wf = true ∧ (Lit.int .i64 x.f3).wf = true ∧ (Lit.int .i64 x.f4).wf = true ∧ (Lit.int .i64 x.f5).wf = true ∧ (Lit.int .i64 x.f6).wf = true
theorem op47 : Opens Try.prog 47 k47 ok47 := opens_ok (opens_iso _ (fun y => ⟨⟨y.1, y.2.1, y.2.2.1, y.2.2.2.1, y.2.2.2.2.1, y.2.2.2.2.2.1, y.2.2.2.2.2.2⟩, rfl⟩) (opens_struct (P := Try.prog) (t := 47) Try.underlying47 (by kernel_rfl) (opensW_cons op3 (opensW_cons op3 (opensW_cons op3 (opensW_cons op3 (opensW_cons op3 (opensW_cons op3 (opensW_one op3))))))))) (fun _ h => h)
def ok49 (x : S49) : Prop := (Lit.int .i64 x.f0).wf = true ∧ (Lit.int .i64 x.f1).wf = true
theorem op49 : Opens Try.prog 49 k49 ok49 := opens_ok (opens_iso _ (fun y => ⟨⟨y.1, y.2⟩, rfl⟩) (opens_struct (P := Try.prog) (t := 49) Try.underlying49 (by kernel_rfl) (opensW_cons op3 (opensW_one op3)))) (fun _ h => h)
theorem op4 : Opens Try.prog 4 Kd.bool (fun x : Bool => True) := opens_bool Try.underlying4
def ok34 (x : S34) : Prop := (Lit.int .i64 x.f0).wf = true ∧ (Lit.int .i64 x.f1).wf = true ∧ (Lit.int .i64 x.f2).wf = true ∧ (Lit.int .i64 x.f3).wf = true ∧ (Lit.int .i64 x.f4).wf = true ∧ (Lit.int .i64 x.f5).wf = true ∧ True
theorem op34 : Opens Try.prog 34 k34 ok34 := opens_ok (opens_iso _ (fun y => ⟨⟨y.1, y.2.1, y.2.2.1, y.2.2.2.1, y.2.2.2.2.1, y.2.2.2.2.2.1, y.2.2.2.2.2.2⟩, rfl⟩) (opens_struct (P := Try.prog) (t := 34) Try.underlying34 (by kernel_rfl) (opensW_cons op3 (opensW_cons op3 (opensW_cons op3 (opensW_cons op3 (opensW_cons op3 (opensW_cons op3 (opensW_one op4))))))))) (fun _ h => h)
theorem op50 : Opens Try.prog 50 (Kd.slice 34 k34) (fun x : List (S34) => okL ok34 x) := opens_slice Try.underlying50 (by kernel_rfl) op34
def ok52 (x : S52) : Prop := (Lit.int .i64 x.f0).wf = true ∧ (Lit.int .i64 x.f1).wf = true ∧ (Lit.int .i64 x.f2).wf = true ∧ (Lit.int .i64 x.f3).wf = true ∧ (Lit.int .i64 x.f4).wf = true ∧ True ∧ okL ok34 x.f6
theorem op52 : Opens Try.prog 52 k52 ok52 := opens_ok (opens_iso _ (fun y => ⟨⟨y.1, y.2.1, y.2.2.1, y.2.2.2.1, y.2.2.2.2.1, y.2.2.2.2.2.1, y.2.2.2.2.2.2⟩, rfl⟩) (opens_struct (P := Try.prog) (t := 52) Try.underlying52 (by kernel_rfl) (opensW_cons op3 (opensW_cons op3 (opensW_cons op3 (opensW_cons op3 (opensW_cons op3 (opensW_cons op4 (opensW_one op50))))))))) (fun _ h => h)
def ok54 (x : S54) : Prop := (Lit.int .i64 x.f0).wf = true ∧ (Lit.int .i64 x.f1).wf = true ∧ (Lit.int .i64 x.f2).wf = true ∧ (Lit.int .i64 x.f3).wf = true ∧ ok47 x.f4 ∧ ok49 x.f5 ∧ ok52 x.f6 ∧ (Lit.int .i64 x.f7).wf = true ∧ (Lit.int .i64 x.f8).wf = true
theorem op54 : Opens Try.prog 54 k54 ok54 := opens_ok (opens_iso _ (fun y => ⟨⟨y.1, y.2.1, y.2.2.1, y.2.2.2.1, y.2.2.2.2.1, y.2.2.2.2.2.1, y.2.2.2.2.2.2.1, y.2.2.2.2.2.2.2.1, y.2.2.2.2.2.2.2.2⟩, rfl⟩) (opens_struct (P := Try.prog) (t := 54) Try.underlying54 (by kernel_rfl) (opensW_cons op3 (opensW_cons op3 (opensW_cons op3 (opensW_cons op3 (opensW_cons op47 (opensW_cons op49 (opensW_cons op52 (opensW_cons op3 (opensW_one op3))))))))))) (fun _ h => h)
theorem op68 : Opens Try.prog 68 (Kd.slice 54 k54) (fun x : List (S54) => okL ok54 x) := opens_slice Try.underlying68 (by kernel_rfl) op54
/-- WHAT IS LEFT: a statement over numbers and lists alone. -/
def Pure : Prop := ∀ (l0 : List (S54)), okL ok54 l0 → ∃ k, laws_FnExactMostTurns.f k l0 = some true
set_option maxRecDepth 100000 in
theorem lifted (P : Pure) (os : Os) (started : os.Started) (H : Type) (enc : TypeId × Value → H) :
    ReturnsInHanded {} Try.checked os 7 .any (Rows.fnExactMostTurnsSpec.pre6 enc Try.prog Try.f7 Rows.fnExactMostTurnsRow.domain false) (Rows.fnExactMostTurnsSpec.post enc Try.prog Try.f7 false true false false) := by
  refine returnsInHanded_of_change_sized (C := Try.checked) own started (by kernel_rfl) Try.func7
    (ChangeSpec.witness6 (enc := enc) (C := Try.checked) false ⟨#[], #[.slice none 0 0], []⟩ 8 (by kernel_rfl) (by kernel_rfl) (by kernel_rfl) (by kernel_rfl)) ?_
  intro W base args ds gs before hval0 hW hcnd hsz0 _
  have hsz : (DataW.weightsEach Try.prog (Try.f7.params.toList ++ Rows.fnExactMostTurnsSpec.plain.varTypes Try.prog) (ds ++ gs)).all (· ≤ reachBytes) = true := hsz0
  have hval : ∀ (j : Nat) t v, Try.f7.params[j]? = some t → args[j]? = some v → Value.okWide Try.prog W .any base t v := hval0
  have hW' := hW
  obtain ⟨p, q, hA0, hV, rfl, hfz, hnd⟩ := hW
  have hA : DataW.TrodAll enc Try.prog W 0 (fun _ => true) true Try.f7.params.toList args.toList ds p := hA0
  rw [Try.params7] at hA hval hsz
  obtain ⟨v0, vs0, d0, ds0, p0, q0, hargs, rfl, rfl, h0, r0⟩ := trodAll_cons hA
  obtain ⟨rfl, rfl, rfl⟩ := trodAll_nil r0
  obtain rfl : args = #[v0] := by cases args; simp_all
  obtain ⟨rfl, rfl⟩ := trodVars_none hV
  have k0 := h0
  obtain ⟨A0, c0, l0, rfl, hc0, hr0, w0⟩ := arg_slice op68 Try.underlying68 (hval 0 68 v0 rfl rfl) h0
  clear hA0 hval0 hsz0 hsz
  obtain ⟨k, h⟩ := P l0 w0
  refine (laws_FnExactMostTurns.calls k A0 c0 l0 true W hr0 hc0 h).mono fun e W' hh => ?_
  obtain ⟨he, bel⟩ := hh
  subst he
  exact ⟨_, rfl, _, _, _, [], _, [], hW', trodAll_mk1 (shut_bool Try.underlying4 _), (trodAll_cons_mk (Below.trod laidOut (by kernel_rfl) (of_decide_eq_true (by kernel_rfl)) k0 bel (placed k0)) trodAll_mk0), rfl, bel.frame _, fun h => by cases h⟩
theorem over (P : Pure) : Rows.fnExactMostTurnsRow.holds Try.pinned (OpenSpec.ofChange Rows.fnExactMostTurnsSpec) :=
  OpenClaim.holds_of_wide 7 Try.f7 rfl rfl rfl rfl rfl rfl rfl ⟨rfl, rfl, rfl, rfl, rfl⟩ rfl rfl rfl rfl rfl (by kernel_rfl) Try.func7 (by kernel_rfl)
    (of_decide_eq_true (by kernel_rfl)) (by unfold Func.isWrapper; first | (rw [if_pos (by decide +kernel)]; kernel_rfl) | (rw [if_neg (by decide +kernel)]; exact ⟨rfl, rfl⟩))
    (fun os started H enc _ => lifted P os started H enc)
end Go.Proofs.Ytnbmifoebaoemaa.fnExactMostTurns
