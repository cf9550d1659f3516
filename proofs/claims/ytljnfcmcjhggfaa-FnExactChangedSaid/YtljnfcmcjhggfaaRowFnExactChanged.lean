/- The row of the law FnExactChanged: from what is left to prove about plain functions ('Pure') to the given statement. No condition. -/
import Derived.Test.YtljnfcmcjhggfaaPFnExactChangedx5
import Derived.Test.YtljnfcmcjhggfaaOpen
import Derived.Test.YtljnfcmcjhggfaaRows
import Derived.WalkKit
import Derived.ProofKit
import Derived.OpenShut
import Derived.ShutString
import Derived.ChangeOld
import Derived.Below
import Derived.SizedLaws
namespace Go.Proofs.Ytljnfcmcjhggfaa.fnExactChanged
open Go.ChangeShapes Go.WideShapes Go.ChangeAt Go.RowKit
open Go.ChangeMaps (open_string shut_string)
open Go.Proofs.YtljnfcmcjhggfaaW.PrintWords Go.Proofs.Ytljnfcmcjhggfaa.Opening Go.Proofs.Ytljnfcmcjhggfaa.PFnExactChanged
set_option linter.unusedVariables false
theorem own : ownKnob Try.prog.godebug = none := by kernel_rfl
theorem laidOut : laidOutB Try.prog = true := by kernel_rfl
theorem op3 : Opens Try.prog 3 (Kd.int .i64) (fun x : Int => (Lit.int .i64 x).wf = true) := opens_int Try.underlying3
theorem op4 : Opens Try.prog 4 Kd.bool (fun x : Bool => True) := opens_bool Try.underlying4
def ok25 (x : S25) : Prop := (Lit.int .i64 x.f0).wf = true ∧ (Lit.int .i64 x.f1).wf = true ∧ (Lit.int .i64 x.f2).wf = true ∧ (Lit.int .i64 x.f3).wf = true ∧ (Lit.int .i64 x.f4).wf = true ∧ (Lit.int .i64 x.f5).wf = true ∧ True
theorem op25 : Opens Try.prog 25 k25 ok25 := opens_ok (opens_iso _ (fun y => ⟨⟨y.1, y.2.1, y.2.2.1, y.2.2.2.1, y.2.2.2.2.1, y.2.2.2.2.2.1, y.2.2.2.2.2.2⟩, rfl⟩) (opens_struct (P := Try.prog) (t := 25) Try.underlying25 (by kernel_rfl) (opensW_cons op3 (opensW_cons op3 (opensW_cons op3 (opensW_cons op3 (opensW_cons op3 (opensW_cons op3 (opensW_one op4))))))))) (fun _ h => h)
theorem op46 : Opens Try.prog 46 (Kd.slice 25 k25) (fun x : List (S25) => okL ok25 x) := opens_slice Try.underlying46 (by kernel_rfl) op25
def ok67 (x : S67) : Prop := (Lit.int .i64 x.f0).wf = true ∧ (Lit.int .i64 x.f1).wf = true ∧ (Lit.int .i64 x.f2).wf = true ∧ (Lit.int .i64 x.f3).wf = true ∧ ok25 x.f4 ∧ okL ok25 x.f5 ∧ (Lit.int .i64 x.f6).wf = true ∧ (Lit.int .i64 x.f7).wf = true
theorem op67 : Opens Try.prog 67 k67 ok67 := opens_ok (opens_iso _ (fun y => ⟨⟨y.1, y.2.1, y.2.2.1, y.2.2.2.1, y.2.2.2.2.1, y.2.2.2.2.2.1, y.2.2.2.2.2.2.1, y.2.2.2.2.2.2.2⟩, rfl⟩) (opens_struct (P := Try.prog) (t := 67) Try.underlying67 (by kernel_rfl) (opensW_cons op3 (opensW_cons op3 (opensW_cons op3 (opensW_cons op3 (opensW_cons op25 (opensW_cons op46 (opensW_cons op3 (opensW_one op3)))))))))) (fun _ h => h)
theorem op75 : Opens Try.prog 75 (Kd.slice 67 k67) (fun x : List (S67) => okL ok67 x) := opens_slice Try.underlying75 (by kernel_rfl) op67
/-- WHAT IS LEFT: a statement over numbers and lists alone. -/
def Pure : Prop := ∀ (l0 : List (S67)), okL ok67 l0 → ∃ k, laws_FnExactChanged.f k l0 = some true
set_option maxRecDepth 100000 in
theorem lifted (P : Pure) (os : Os) (started : os.Started) (H : Type) (enc : TypeId × Value → H) :
    ReturnsInHanded {} Try.checked os 14 .any (Rows.fnExactChangedSpec.pre6 enc Try.prog Try.f14 Rows.fnExactChangedRow.domain false) (Rows.fnExactChangedSpec.post enc Try.prog Try.f14 false true false false) := by
  refine returnsInHanded_of_change_sized (C := Try.checked) own started (by kernel_rfl) Try.func14
    (ChangeSpec.witness6 (enc := enc) (C := Try.checked) false ⟨#[], #[.slice none 0 0], []⟩ 8 (by kernel_rfl) (by kernel_rfl) (by kernel_rfl) (by kernel_rfl)) ?_
  intro W base args ds gs before hval0 hW hcnd hsz0 _
  have hsz : (DataW.weightsEach Try.prog (Try.f14.params.toList ++ Rows.fnExactChangedSpec.plain.varTypes Try.prog) (ds ++ gs)).all (· ≤ reachBytes) = true := hsz0
  have hval : ∀ (j : Nat) t v, Try.f14.params[j]? = some t → args[j]? = some v → Value.okWide Try.prog W .any base t v := hval0
  have hW' := hW
  obtain ⟨p, q, hA0, hV, rfl, hfz, hnd⟩ := hW
  have hA : DataW.TrodAll enc Try.prog W 0 (fun _ => true) true Try.f14.params.toList args.toList ds p := hA0
  rw [Try.params14] at hA hval hsz
  obtain ⟨v0, vs0, d0, ds0, p0, q0, hargs, rfl, rfl, h0, r0⟩ := trodAll_cons hA
  obtain ⟨rfl, rfl, rfl⟩ := trodAll_nil r0
  obtain rfl : args = #[v0] := by cases args; simp_all
  obtain ⟨rfl, rfl⟩ := trodVars_none hV
  have k0 := h0
  obtain ⟨A0, c0, l0, rfl, hc0, hr0, w0⟩ := arg_slice op75 Try.underlying75 (hval 0 75 v0 rfl rfl) h0
  clear hA0 hval0 hsz0 hsz
  obtain ⟨k, h⟩ := P l0 w0
  refine (laws_FnExactChanged.calls k A0 c0 l0 true W hr0 hc0 h).mono fun e W' hh => ?_
  obtain ⟨he, bel⟩ := hh
  subst he
  exact ⟨_, rfl, _, _, _, [], _, [], hW', trodAll_mk1 (shut_bool Try.underlying4 _), (trodAll_cons_mk (Below.trod laidOut (by kernel_rfl) (of_decide_eq_true (by kernel_rfl)) k0 bel (placed k0)) trodAll_mk0), rfl, bel.frame _, fun h => by cases h⟩
theorem over (P : Pure) : Rows.fnExactChangedRow.holds Try.pinned (OpenSpec.ofChange Rows.fnExactChangedSpec) :=
  OpenClaim.holds_of_wide 14 Try.f14 rfl rfl rfl rfl rfl rfl rfl ⟨rfl, rfl, rfl, rfl, rfl⟩ rfl rfl rfl rfl rfl (by kernel_rfl) Try.func14 (by kernel_rfl)
    (of_decide_eq_true (by kernel_rfl)) (by unfold Func.isWrapper; first | (rw [if_pos (by decide +kernel)]; kernel_rfl) | (rw [if_neg (by decide +kernel)]; exact ⟨rfl, rfl⟩))
    (fun os started H enc _ => lifted P os started H enc)
end Go.Proofs.Ytljnfcmcjhggfaa.fnExactChanged
