/- The row of the law FnExactOrderOk: from what is left to prove of plain functions to the given statement. No condition. -/
import Derived.Test.YtcladakiniekcaaVmCFnExactOrderOk
import Derived.Test.YtcladakiniekcaaRows
namespace Go.Proofs.Ytcladakiniekcaa.fnExactOrderOk
open Go.ChangeShapes Go.WideShapes Go.ChangeAt Go.RowKit Go.Proofs.Ytcladakiniekcaa.Lib Go.Proofs.Ytcladakiniekcaa.Vm
open Go.ChangeMaps (open_string shut_string)
set_option linter.unusedVariables false
set_option maxRecDepth 100000
theorem own : ownKnob Try.prog.godebug = none := by kernel_rfl
theorem laidOut : laidOutB Try.prog = true := by kernel_rfl
theorem op3 : Opens Try.prog 3 (.int .i64) := opens_int Try.underlying3
theorem op57 : Opens Try.prog 57 y56 := opens_struct Try.underlying57 (by kernel_rfl) (opensW_cons op3 (opensW_cons op3 (opensW_cons op3 (opensW_cons op3 (opensW_cons op3 (opensW_cons op3 (opensW_one op3)))))))
theorem op59 : Opens Try.prog 59 y58 := opens_struct Try.underlying59 (by kernel_rfl) (opensW_cons op3 (opensW_one op3))
theorem op4 : Opens Try.prog 4 .bool := opens_bool Try.underlying4
theorem op135 : Opens Try.prog 135 y124 := opens_struct Try.underlying135 (by kernel_rfl) (opensW_cons op3 (opensW_cons op3 (opensW_cons op3 (opensW_cons op3 (opensW_cons op3 (opensW_cons op3 (opensW_one op4)))))))
theorem op40 : Opens Try.prog 40 (.sl 135 y124) := opens_slice Try.underlying40 (by kernel_rfl) op135
theorem op61 : Opens Try.prog 61 y60 := opens_struct Try.underlying61 (by kernel_rfl) (opensW_cons op3 (opensW_cons op3 (opensW_cons op3 (opensW_cons op3 (opensW_cons op3 (opensW_cons op4 (opensW_one op40)))))))
theorem op63 : Opens Try.prog 63 y62 := opens_struct Try.underlying63 (by kernel_rfl) (opensW_cons op3 (opensW_cons op3 (opensW_cons op3 (opensW_cons op3 (opensW_cons op57 (opensW_cons op59 (opensW_cons op61 (opensW_cons op3 (opensW_one op3)))))))))
theorem op65 : Opens Try.prog 65 y64 := opens_struct Try.underlying65 (by kernel_rfl) (opensW_cons op3 (opensW_cons op63 (opensW_cons op3 (opensW_one op40))))
/-- WHAT IS LEFT. -/
def Pure : Prop := ∀ (a0 : Ty.T y64), Ty.ok y64 a0 → (p6.F (a0, ())).run some = some (.one (.bool true), [])
theorem lifted (P : Pure) (os : Os) (started : os.Started) (H : Type) (enc : TypeId × Value → H) :
    ReturnsInHanded {} Try.checked os 6 .any (Rows.fnExactOrderOkSpec.pre6 enc Try.prog Try.f6 Rows.fnExactOrderOkRow.domain false) (Rows.fnExactOrderOkSpec.post enc Try.prog Try.f6 false true false false) := by
  refine returnsInHanded_of_change_sized (C := Try.checked) own started (by kernel_rfl) Try.func6
    (ChangeSpec.witness6 (enc := enc) (C := Try.checked) false ⟨#[], #[.agg #[.int .i64 0, .int .i64 0, .int .i64 0, .int .i64 0, .int .i64 0, .int .i64 0, .int .i64 0, .int .i64 0, .int .i64 0, .int .i64 0, .int .i64 0, .int .i64 0, .int .i64 0, .int .i64 0, .int .i64 0, .int .i64 0, .int .i64 0, .int .i64 0, .int .i64 0, .bool false, .slice none 0 0, .int .i64 0, .int .i64 0, .int .i64 0, .slice none 0 0]], []⟩ 8 (by kernel_rfl) (by kernel_rfl) (by kernel_rfl) (by kernel_rfl)) ?_
  intro W base args ds gs before hval0 hW hcnd hsz0 _
  have hsz : (DataW.weightsEach Try.prog (Try.f6.params.toList ++ Rows.fnExactOrderOkSpec.plain.varTypes Try.prog) (ds ++ gs)).all (· ≤ reachBytes) = true := hsz0
  have hval : ∀ (j : Nat) t v, Try.f6.params[j]? = some t → args[j]? = some v → Value.okWide Try.prog W .any base t v := hval0
  have hW' := hW
  obtain ⟨p, q, hA0, hV, rfl, hfz, hnd⟩ := hW
  have hA : DataW.TrodAll enc Try.prog W 0 (fun _ => true) true Try.f6.params.toList args.toList ds p := hA0
  rw [Try.params6] at hA hval hsz
  obtain ⟨v0, vs0, d0, ds0, p0, q0, hargs, rfl, rfl, h0, r0⟩ := trodAll_cons hA
  obtain ⟨rfl, rfl, rfl⟩ := trodAll_nil r0
  obtain rfl : args = #[v0] := by cases args; simp_all
  obtain ⟨rfl, rfl⟩ := trodVars_none hV
  have k0 := h0
  obtain ⟨a0, e0, w0⟩ := arg_struct' op65 Try.underlying65 (hval 0 65 v0 rfl rfl) h0
  have h := P a0 w0
  refine (prim_calls ok6 h (vs := [v0]) (.cons e0 .nil) (bld_dat rfl _)).mono fun e W' hh => ?_
  obtain ⟨he, bel⟩ := hh
  subst he
  exact ⟨_, rfl, _, _, _, [], _, [], hW', trodAll_mk1 (shut_bool Try.underlying4 _), (trodAll_cons_mk (Below.trod laidOut (by kernel_rfl) (of_decide_eq_true (by kernel_rfl)) k0 bel (placed k0)) trodAll_mk0), rfl, bel.frame _, fun h => by cases h⟩
theorem over (P : Pure) : Rows.fnExactOrderOkRow.holds Try.pinned (OpenSpec.ofChange Rows.fnExactOrderOkSpec) :=
  OpenClaim.holds_of_wide 6 Try.f6 rfl rfl rfl rfl rfl rfl rfl ⟨rfl, rfl, rfl, rfl, rfl⟩ rfl rfl rfl rfl rfl (by kernel_rfl) Try.func6 (by kernel_rfl)
    (of_decide_eq_true (by kernel_rfl)) (by unfold Func.isWrapper; first | (rw [if_pos (by decide +kernel)]; kernel_rfl) | (rw [if_neg (by decide +kernel)]; exact ⟨rfl, rfl⟩))
    (fun os started H enc _ => lifted P os started H enc)
end Go.Proofs.Ytcladakiniekcaa.fnExactOrderOk
