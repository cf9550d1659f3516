/- The row of the law FnExactDeadlyIds: from what is left to prove of plain functions to the given statement. No condition. -/
import Derived.Test.YtakmjjikiefheaaVmCFnExactDeadlyIds
import Derived.HandedShaped
import Derived.Test.YtakmjjikiefheaaRows
import Derived.Test.YtakmjjikiefheaaVmFacFnExactDeadlyIds
namespace Go.Proofs.Ytakmjjikiefheaa.fnExactDeadlyIds
open Go.ChangeShapes Go.WideShapes Go.ChangeAt Go.RowKit Go.Proofs.Ytakmjjikiefheaa.Lib Go.Proofs.Ytakmjjikiefheaa.Vm
open Go.ChangeMaps (open_string shut_string)
set_option linter.unusedVariables false
set_option maxRecDepth 100000
theorem own : ownKnob Try.prog.godebug = none := by kernel_rfl
theorem laidOut : laidOutB Try.prog = true := by kernel_rfl
theorem op3 : Opens Try.prog 3 (.int .i64) := opens_int Try.underlying3
theorem op4 : Opens Try.prog 4 .bool := opens_bool Try.underlying4
theorem op60 : Opens Try.prog 60 y49 := opens_struct Try.underlying60 (by kernel_rfl) (opensW_cons op3 (opensW_cons op3 (opensW_cons op3 (opensW_cons op3 (opensW_cons op3 (opensW_cons op3 (opensW_cons op3 (opensW_cons op3 (opensW_cons op3 (opensW_cons op3 (opensW_cons op3 (opensW_cons op4 (opensW_one op4)))))))))))))
theorem op22 : Opens Try.prog 22 (.sl 60 y49) := opens_slice Try.underlying22 (by kernel_rfl) op60
theorem op73 : Opens Try.prog 73 y70 := opens_struct Try.underlying73 (by kernel_rfl) (opensW_cons op3 (opensW_cons op3 (opensW_one op4)))
theorem op23 : Opens Try.prog 23 (.sl 73 y70) := opens_slice Try.underlying23 (by kernel_rfl) op73
theorem op25 : Opens Try.prog 25 y24 := opens_struct Try.underlying25 (by kernel_rfl) (opensW_cons op22 (opensW_cons op23 (opensW_cons op3 (opensW_one op3))))
theorem op59 : Opens Try.prog 59 y47 := opens_struct Try.underlying59 (by kernel_rfl) (opensW_cons op3 (opensW_cons op3 (opensW_cons op3 (opensW_cons op3 (opensW_cons op3 (opensW_cons op3 (opensW_one op4)))))))
theorem op62 : Opens Try.prog 62 y51 := opens_struct Try.underlying62 (by kernel_rfl) (opensW_cons op3 (opensW_cons op59 (opensW_cons op3 (opensW_cons op3 (opensW_one op60)))))
theorem op26 : Opens Try.prog 26 (.sl 62 y51) := opens_slice Try.underlying26 (by kernel_rfl) op62
/-- WHAT IS LEFT. -/
def Pure : Prop := ∀ (a0 : Ty.T y24) (a1 : List (Ty.T y51)), Ty.ok y24 a0 → Ty.ok (.sl 62 y51) a1 → (p3.F (a0, a1, ())).run some = some (.one (.bool true), [])
theorem lifted (P : Pure) (os : Os) (started : os.Started) (H : Type) (enc : TypeId × Value → H) :
    ReturnsInHanded {} Try.checked os 3 .any (Rows.fnExactDeadlyIdsSpec.pre6 enc Try.prog Try.f3 Rows.fnExactDeadlyIdsRow.domain false) (Rows.fnExactDeadlyIdsSpec.post enc Try.prog Try.f3 false true false false) := by
  refine returnsInHanded_of_change_shaped (C := Try.checked) own started (by kernel_rfl) Try.func3
    (ChangeSpec.witness6 (enc := enc) (C := Try.checked) false ⟨#[], #[.agg #[.slice none 0 0, .slice none 0 0, .int .i64 0, .int .i64 0], .slice none 0 0], []⟩ 8 (by kernel_rfl) (by kernel_rfl) (by kernel_rfl) (by kernel_rfl)) ?_
  intro W base args ds gs before hval0 hW hcnd hsz0 hsh _
  have hsz : (DataW.weightsEach Try.prog (Try.f3.params.toList ++ Rows.fnExactDeadlyIdsSpec.plain.varTypes Try.prog) (ds ++ gs)).all (· ≤ reachBytes) = true := hsz0
  have hval : ∀ (j : Nat) t v, Try.f3.params[j]? = some t → args[j]? = some v → Value.okWide Try.prog W .any base t v := hval0
  have hW' := hW
  obtain ⟨p, q, hA0, hV, rfl, hfz, hnd⟩ := hW
  have hA : DataW.TrodAll enc Try.prog W 0 (fun _ => true) true Try.f3.params.toList args.toList ds p := hA0
  rw [Try.params3] at hA hval hsz
  obtain ⟨v0, vs0, d0, ds0, p0, q0, hargs, rfl, rfl, h0, r0⟩ := trodAll_cons hA
  obtain ⟨v1, vs1, d1, ds1, p1, q1, rfl, rfl, rfl, h1, r1⟩ := trodAll_cons r0
  obtain ⟨rfl, rfl, rfl⟩ := trodAll_nil r1
  obtain rfl : args = #[v0, v1] := by cases args; simp_all
  obtain ⟨rfl, rfl⟩ := trodVars_none hV
  have k0 := h0
  obtain ⟨a0, e0, w0⟩ := arg_struct' op25 Try.underlying25 (hval 0 25 v0 rfl rfl) h0
  have k1 := h1
  obtain ⟨a1, e1, w1⟩ := arg_slice op26 Try.underlying26 (hval 1 26 v1 rfl rfl) h1
  have h := P a0 a1 w0 w1
  refine (prim_calls ok3 h hsh (vs := [v0, v1]) (.cons e0 (.cons e1 .nil)) (bld_dat rfl _)).mono fun e W' hh => ?_
  obtain ⟨he, bel⟩ := hh
  subst he
  exact ⟨_, rfl, _, _, _, [], _, [], hW', trodAll_mk1 (shut_bool Try.underlying4 _), (trodAll_cons_mk (Below.trod laidOut (by kernel_rfl) (of_decide_eq_true (by kernel_rfl)) k0 bel (placed k0)) (trodAll_cons_mk (Below.trod laidOut (by kernel_rfl) (of_decide_eq_true (by kernel_rfl)) k1 bel (placed k1)) trodAll_mk0)), rfl, bel.frame _, fun h => by cases h⟩
theorem over (P : Pure) : Rows.fnExactDeadlyIdsRow.holds Try.pinned (OpenSpec.ofChange Rows.fnExactDeadlyIdsSpec) :=
  OpenClaim.holds_of_wide 3 Try.f3 rfl rfl rfl rfl rfl rfl rfl ⟨rfl, rfl, rfl, rfl, rfl⟩ rfl rfl rfl rfl rfl Fac.named Try.func3 Fac.closed Fac.inst Fac.wrap
    (fun os started H enc _ => lifted P os started H enc)
end Go.Proofs.Ytakmjjikiefheaa.fnExactDeadlyIds
