/- The row of the law FnExactTurnText: from what is left to prove of plain functions to the given statement. No condition. -/
import Derived.Test.YtnbmifoebaoemaaVmCFnExactTurnText
import Derived.Test.YtnbmifoebaoemaaRows
namespace Go.Proofs.Ytnbmifoebaoemaa.fnExactTurnText
open Go.ChangeShapes Go.WideShapes Go.ChangeAt Go.RowKit Go.Proofs.Ytnbmifoebaoemaa.Lib Go.Proofs.Ytnbmifoebaoemaa.Vm
open Go.ChangeMaps (open_string shut_string)
set_option linter.unusedVariables false
set_option maxRecDepth 100000
theorem own : ownKnob Try.prog.godebug = none := by kernel_rfl
theorem laidOut : laidOutB Try.prog = true := by kernel_rfl
theorem op3 : Opens Try.prog 3 (.int .i64) := opens_int Try.underlying3
theorem op4 : Opens Try.prog 4 .bool := opens_bool Try.underlying4
theorem op34 : Opens Try.prog 34 y33 := opens_struct Try.underlying34 (by kernel_rfl) (opensW_cons op3 (opensW_cons op3 (opensW_cons op3 (opensW_cons op3 (opensW_cons op3 (opensW_cons op3 (opensW_one op4)))))))
theorem op50 : Opens Try.prog 50 (.sl 34 y33) := opens_slice Try.underlying50 (by kernel_rfl) op34
theorem op94 : Opens Try.prog 94 y93 := opens_struct Try.underlying94 (by kernel_rfl) (opensW_cons op3 (opensW_cons op3 (opensW_cons op3 (opensW_cons op3 (opensW_cons op34 (opensW_cons op50 (opensW_cons op3 (opensW_one op3))))))))
/-- WHAT IS LEFT. -/
def Pure : Prop := ∀ (a0 : Ty.T y93), Ty.ok y93 a0 → (p9.F (a0, ())).run some = some (.one (.bool true), [])
theorem lifted (P : Pure) (os : Os) (started : os.Started) (H : Type) (enc : TypeId × Value → H) :
    ReturnsInHanded {} Try.checked os 9 .any (Rows.fnExactTurnTextSpec.pre6 enc Try.prog Try.f9 Rows.fnExactTurnTextRow.domain false) (Rows.fnExactTurnTextSpec.post enc Try.prog Try.f9 false true false false) := by
  refine returnsInHanded_of_change_sized (C := Try.checked) own started (by kernel_rfl) Try.func9
    (ChangeSpec.witness6 (enc := enc) (C := Try.checked) false ⟨#[], #[.agg #[.int .i64 0, .int .i64 0, .int .i64 0, .int .i64 0, .int .i64 0, .int .i64 0, .int .i64 0, .int .i64 0, .int .i64 0, .int .i64 0, .bool false, .slice none 0 0, .int .i64 0, .int .i64 0]], []⟩ 8 (by kernel_rfl) (by kernel_rfl) (by kernel_rfl) (by kernel_rfl)) ?_
  intro W base args ds gs before hval0 hW hcnd hsz0 _
  have hsz : (DataW.weightsEach Try.prog (Try.f9.params.toList ++ Rows.fnExactTurnTextSpec.plain.varTypes Try.prog) (ds ++ gs)).all (· ≤ reachBytes) = true := hsz0
  have hval : ∀ (j : Nat) t v, Try.f9.params[j]? = some t → args[j]? = some v → Value.okWide Try.prog W .any base t v := hval0
  have hW' := hW
  obtain ⟨p, q, hA0, hV, rfl, hfz, hnd⟩ := hW
  have hA : DataW.TrodAll enc Try.prog W 0 (fun _ => true) true Try.f9.params.toList args.toList ds p := hA0
  rw [Try.params9] at hA hval hsz
  obtain ⟨v0, vs0, d0, ds0, p0, q0, hargs, rfl, rfl, h0, r0⟩ := trodAll_cons hA
  obtain ⟨rfl, rfl, rfl⟩ := trodAll_nil r0
  obtain rfl : args = #[v0] := by cases args; simp_all
  obtain ⟨rfl, rfl⟩ := trodVars_none hV
  have k0 := h0
  obtain ⟨a0, e0, w0⟩ := arg_struct' op94 Try.underlying94 (hval 0 94 v0 rfl rfl) h0
  have h := P a0 w0
  refine (prim_calls ok9 h (vs := [v0]) (.cons e0 .nil) (bld_dat rfl _)).mono fun e W' hh => ?_
  obtain ⟨he, bel⟩ := hh
  subst he
  exact ⟨_, rfl, _, _, _, [], _, [], hW', trodAll_mk1 (shut_bool Try.underlying4 _), (trodAll_cons_mk (Below.trod laidOut (by kernel_rfl) (of_decide_eq_true (by kernel_rfl)) k0 bel (placed k0)) trodAll_mk0), rfl, bel.frame _, fun h => by cases h⟩
theorem over (P : Pure) : Rows.fnExactTurnTextRow.holds Try.pinned (OpenSpec.ofChange Rows.fnExactTurnTextSpec) :=
  OpenClaim.holds_of_wide 9 Try.f9 rfl rfl rfl rfl rfl rfl rfl ⟨rfl, rfl, rfl, rfl, rfl⟩ rfl rfl rfl rfl rfl (by kernel_rfl) Try.func9 (by kernel_rfl)
    (of_decide_eq_true (by kernel_rfl)) (by unfold Func.isWrapper; first | (rw [if_pos (by decide +kernel)]; kernel_rfl) | (rw [if_neg (by decide +kernel)]; exact ⟨rfl, rfl⟩))
    (fun os started H enc _ => lifted P os started H enc)
end Go.Proofs.Ytnbmifoebaoemaa.fnExactTurnText
