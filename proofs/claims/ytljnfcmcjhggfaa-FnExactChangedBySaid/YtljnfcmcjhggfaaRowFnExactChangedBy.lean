/- The row of the law FnExactChangedBy: from what is left to prove about plain functions ('Pure') to the given statement. No condition. -/
import Derived.Test.YtljnfcmcjhggfaaPFnExactChangedByx4
import Derived.Test.YtljnfcmcjhggfaaOpen
import Derived.Test.YtljnfcmcjhggfaaRows
import Derived.WalkKit
import Derived.ProofKit
import Derived.OpenShut
import Derived.ShutString
import Derived.ChangeOld
import Derived.Below
import Derived.SizedLaws
namespace Go.Proofs.Ytljnfcmcjhggfaa.fnExactChangedBy
open Go.ChangeShapes Go.WideShapes Go.ChangeAt Go.RowKit
open Go.ChangeMaps (open_string shut_string)
open Go.Proofs.YtljnfcmcjhggfaaW.PrintWords Go.Proofs.Ytljnfcmcjhggfaa.Opening Go.Proofs.Ytljnfcmcjhggfaa.PFnExactChangedBy
set_option linter.unusedVariables false
theorem own : ownKnob Try.prog.godebug = none := by kernel_rfl
theorem laidOut : laidOutB Try.prog = true := by kernel_rfl
theorem op3 : Opens Try.prog 3 (Kd.int .i64) (fun x : Int => (Lit.int .i64 x).wf = true) := opens_int Try.underlying3
theorem op4 : Opens Try.prog 4 Kd.bool (fun x : Bool => True) := opens_bool Try.underlying4
def ok25 (x : S25) : Prop := (Lit.int .i64 x.f0).wf = true ∧ (Lit.int .i64 x.f1).wf = true ∧ (Lit.int .i64 x.f2).wf = true ∧ (Lit.int .i64 x.f3).wf = true ∧ (Lit.int .i64 x.f4).wf = true ∧ (Lit.int .i64 x.f5).wf = true ∧ True
theorem op25 : Opens Try.prog 25 k25 ok25 := opens_ok (opens_iso _ (fun y => ⟨⟨y.1, y.2.1, y.2.2.1, y.2.2.2.1, y.2.2.2.2.1, y.2.2.2.2.2.1, y.2.2.2.2.2.2⟩, rfl⟩) (opens_struct (P := Try.prog) (t := 25) Try.underlying25 (by kernel_rfl) (opensW_cons op3 (opensW_cons op3 (opensW_cons op3 (opensW_cons op3 (opensW_cons op3 (opensW_cons op3 (opensW_one op4))))))))) (fun _ h => h)
theorem op46 : Opens Try.prog 46 (Kd.slice 25 k25) (fun x : List (S25) => okL ok25 x) := opens_slice Try.underlying46 (by kernel_rfl) op25
theorem op67 : Opens Try.prog 67 (Kd.pair (Kd.int .i64) (Kd.pair (Kd.int .i64) (Kd.pair (Kd.int .i64) (Kd.pair (Kd.int .i64) (Kd.pair k25 (Kd.pair (Kd.slice 25 k25) (Kd.pair (Kd.int .i64) (Kd.int .i64)))))))) (fun x : (Int × Int × Int × Int × S25 × List (S25) × Int × Int) => ((Lit.int .i64 x.1).wf = true ∧ (Lit.int .i64 x.2.1).wf = true ∧ (Lit.int .i64 x.2.2.1).wf = true ∧ (Lit.int .i64 x.2.2.2.1).wf = true ∧ ok25 x.2.2.2.2.1 ∧ okL ok25 x.2.2.2.2.2.1 ∧ (Lit.int .i64 x.2.2.2.2.2.2.1).wf = true ∧ (Lit.int .i64 x.2.2.2.2.2.2.2).wf = true)) := (opens_struct (P := Try.prog) (t := 67) Try.underlying67 (by kernel_rfl) (opensW_cons op3 (opensW_cons op3 (opensW_cons op3 (opensW_cons op3 (opensW_cons op25 (opensW_cons op46 (opensW_cons op3 (opensW_one op3)))))))))
/-- WHAT IS LEFT: a statement over numbers and lists alone. -/
def Pure : Prop := ∀ (a0_0 : Int) (a0_1 : Int) (a0_2 : Int) (a0_3 : Int) (a0_4 : Int) (a0_5 : Int) (a0_6 : Int) (a0_7 : Int) (a0_8 : Int) (a0_9 : Int) (a0_10 : Bool) (l0_11 : List (S25)) (a0_12 : Int) (a0_13 : Int), (Lit.int .i64 a0_0).wf = true → (Lit.int .i64 a0_1).wf = true → (Lit.int .i64 a0_2).wf = true → (Lit.int .i64 a0_3).wf = true → (Lit.int .i64 a0_4).wf = true → (Lit.int .i64 a0_5).wf = true → (Lit.int .i64 a0_6).wf = true → (Lit.int .i64 a0_7).wf = true → (Lit.int .i64 a0_8).wf = true → (Lit.int .i64 a0_9).wf = true → okL ok25 l0_11 → (Lit.int .i64 a0_12).wf = true → (Lit.int .i64 a0_13).wf = true → ∃ k, laws_FnExactChangedBy.f k a0_0 a0_1 a0_2 a0_3 a0_4 a0_5 a0_6 a0_7 a0_8 a0_9 a0_10 l0_11 a0_12 a0_13 = some true
set_option maxRecDepth 100000 in
theorem lifted (P : Pure) (os : Os) (started : os.Started) (H : Type) (enc : TypeId × Value → H) :
    ReturnsInHanded {} Try.checked os 12 .any (Rows.fnExactChangedBySpec.pre6 enc Try.prog Try.f12 Rows.fnExactChangedByRow.domain false) (Rows.fnExactChangedBySpec.post enc Try.prog Try.f12 false true false false) := by
  refine returnsInHanded_of_change_sized (C := Try.checked) own started (by kernel_rfl) Try.func12
    (ChangeSpec.witness6 (enc := enc) (C := Try.checked) false ⟨#[], #[.agg #[.int .i64 0, .int .i64 0, .int .i64 0, .int .i64 0, .int .i64 0, .int .i64 0, .int .i64 0, .int .i64 0, .int .i64 0, .int .i64 0, .bool false, .slice none 0 0, .int .i64 0, .int .i64 0]], []⟩ 8 (by kernel_rfl) (by kernel_rfl) (by kernel_rfl) (by kernel_rfl)) ?_
  intro W base args ds gs before hval0 hW hcnd hsz0 _
  have hsz : (DataW.weightsEach Try.prog (Try.f12.params.toList ++ Rows.fnExactChangedBySpec.plain.varTypes Try.prog) (ds ++ gs)).all (· ≤ reachBytes) = true := hsz0
  have hval : ∀ (j : Nat) t v, Try.f12.params[j]? = some t → args[j]? = some v → Value.okWide Try.prog W .any base t v := hval0
  have hW' := hW
  obtain ⟨p, q, hA0, hV, rfl, hfz, hnd⟩ := hW
  have hA : DataW.TrodAll enc Try.prog W 0 (fun _ => true) true Try.f12.params.toList args.toList ds p := hA0
  rw [Try.params12] at hA hval hsz
  obtain ⟨v0, vs0, d0, ds0, p0, q0, hargs, rfl, rfl, h0, r0⟩ := trodAll_cons hA
  obtain ⟨rfl, rfl, rfl⟩ := trodAll_nil r0
  obtain rfl : args = #[v0] := by cases args; simp_all
  obtain ⟨rfl, rfl⟩ := trodVars_none hV
  have k0 := h0
  obtain ⟨cs0, y0, rfl, hK0, ok0_⟩ := arg_struct op67 Try.underlying67 (hval 0 67 v0 rfl rfl) h0
  obtain ⟨a0_0, a0_1, a0_2, a0_3, ⟨a0_4, a0_5, a0_6, a0_7, a0_8, a0_9, a0_10⟩, l0_11, a0_12, a0_13⟩ := y0
  obtain ⟨_, _, rfl, rfl, ⟨_, _, rfl, rfl, ⟨_, _, rfl, rfl, ⟨_, _, rfl, rfl, ⟨_, _, rfl, ⟨_, _, rfl, rfl, ⟨_, _, rfl, rfl, ⟨_, _, rfl, rfl, ⟨_, _, rfl, rfl, ⟨_, _, rfl, rfl, ⟨_, _, rfl, rfl, rfl⟩⟩⟩⟩⟩⟩, ⟨_, _, rfl, ⟨A0_11, c0_11, rfl, hc0_11, hr0_11⟩, ⟨_, _, rfl, rfl, rfl⟩⟩⟩⟩⟩⟩⟩ := hK0
  obtain ⟨w0_0, w0_1, w0_2, w0_3, ⟨w0_4, w0_5, w0_6, w0_7, w0_8, w0_9, -⟩, w0_11, w0_12, w0_13⟩ := ok0_
  clear hA0 hval0 hsz0 hsz
  obtain ⟨k, h⟩ := P a0_0 a0_1 a0_2 a0_3 a0_4 a0_5 a0_6 a0_7 a0_8 a0_9 a0_10 l0_11 a0_12 a0_13 w0_0 w0_1 w0_2 w0_3 w0_4 w0_5 w0_6 w0_7 w0_8 w0_9 w0_11 w0_12 w0_13
  refine (laws_FnExactChangedBy.calls k a0_0 a0_1 a0_2 a0_3 a0_4 a0_5 a0_6 a0_7 a0_8 a0_9 a0_10 A0_11 c0_11 l0_11 a0_12 a0_13 true W hr0_11 hc0_11 h).mono fun e W' hh => ?_
  obtain ⟨he, bel⟩ := hh
  subst he
  exact ⟨_, rfl, _, _, _, [], _, [], hW', trodAll_mk1 (shut_bool Try.underlying4 _), (trodAll_cons_mk (Below.trod laidOut (by kernel_rfl) (of_decide_eq_true (by kernel_rfl)) k0 bel (placed k0)) trodAll_mk0), rfl, bel.frame _, fun h => by cases h⟩
theorem over (P : Pure) : Rows.fnExactChangedByRow.holds Try.pinned (OpenSpec.ofChange Rows.fnExactChangedBySpec) :=
  OpenClaim.holds_of_wide 12 Try.f12 rfl rfl rfl rfl rfl rfl rfl ⟨rfl, rfl, rfl, rfl, rfl⟩ rfl rfl rfl rfl rfl (by kernel_rfl) Try.func12 (by kernel_rfl)
    (of_decide_eq_true (by kernel_rfl)) (by unfold Func.isWrapper; first | (rw [if_pos (by decide +kernel)]; kernel_rfl) | (rw [if_neg (by decide +kernel)]; exact ⟨rfl, rfl⟩))
    (fun os started H enc _ => lifted P os started H enc)
end Go.Proofs.Ytljnfcmcjhggfaa.fnExactChangedBy
