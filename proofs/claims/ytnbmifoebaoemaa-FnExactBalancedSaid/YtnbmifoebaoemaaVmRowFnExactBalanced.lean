/- The row of the law FnExactBalanced: from what is left to prove of plain functions to the given statement. No condition. -/
import Derived.Test.YtnbmifoebaoemaaVmCFnExactBalanced
import Derived.Test.YtnbmifoebaoemaaRows
namespace Go.Proofs.Ytnbmifoebaoemaa.fnExactBalanced
open Go.ChangeShapes Go.WideShapes Go.ChangeAt Go.RowKit Go.Proofs.Ytnbmifoebaoemaa.Lib Go.Proofs.Ytnbmifoebaoemaa.Vm
open Go.ChangeMaps (open_string shut_string)
set_option linter.unusedVariables false
set_option maxRecDepth 100000
theorem own : ownKnob Try.prog.godebug = none := by kernel_rfl
theorem laidOut : laidOutB Try.prog = true := by kernel_rfl
theorem op3 : Opens Try.prog 3 (.int .i64) := opens_int Try.underlying3
theorem op4 : Opens Try.prog 4 .bool := opens_bool Try.underlying4
theorem op34 : Opens Try.prog 34 y33 := opens_struct Try.underlying34 (by kernel_rfl) (opensW_cons op3 (opensW_cons op3 (opensW_cons op3 (opensW_cons op3 (opensW_cons op3 (opensW_cons op3 (opensW_one op4)))))))
theorem op50 : Opens Try.prog 50 (.sl 34 y33) := opens_slice Try.underlying50 (by kernel_rfl) op34
theorem op47 : Opens Try.prog 47 y46 := opens_struct Try.underlying47 (by kernel_rfl) (opensW_cons op3 (opensW_cons op3 (opensW_cons op3 (opensW_cons op3 (opensW_cons op3 (opensW_cons op3 (opensW_one op3)))))))
theorem op49 : Opens Try.prog 49 y48 := opens_struct Try.underlying49 (by kernel_rfl) (opensW_cons op3 (opensW_one op3))
theorem op52 : Opens Try.prog 52 y51 := opens_struct Try.underlying52 (by kernel_rfl) (opensW_cons op3 (opensW_cons op3 (opensW_cons op3 (opensW_cons op3 (opensW_cons op3 (opensW_cons op4 (opensW_one op50)))))))
theorem op54 : Opens Try.prog 54 y53 := opens_struct Try.underlying54 (by kernel_rfl) (opensW_cons op3 (opensW_cons op3 (opensW_cons op3 (opensW_cons op3 (opensW_cons op47 (opensW_cons op49 (opensW_cons op52 (opensW_cons op3 (opensW_one op3)))))))))
theorem op68 : Opens Try.prog 68 (.sl 54 y53) := opens_slice Try.underlying68 (by kernel_rfl) op54
theorem op24 : Opens Try.prog 24 (.sl 3 (.int .i64)) := opens_slice Try.underlying24 (by kernel_rfl) op3
theorem op94 : Opens Try.prog 94 y93 := opens_struct Try.underlying94 (by kernel_rfl) (opensW_cons op3 (opensW_cons op3 (opensW_cons op3 (opensW_cons op3 (opensW_cons op34 (opensW_cons op50 (opensW_cons op3 (opensW_one op3))))))))
theorem op22 : Opens Try.prog 22 (.sl 94 y93) := opens_slice Try.underlying22 (by kernel_rfl) op94
theorem op113 : Opens Try.prog 113 y112 := opens_struct Try.underlying113 (by kernel_rfl) (opensW_cons op50 (opensW_cons op68 (opensW_cons op24 (opensW_one op22))))
/-- WHAT IS LEFT. -/
def Pure : Prop := ∀ (a0 : List (Ty.T y33)) (a1 : Ty.T y112), Ty.ok (.sl 34 y33) a0 → Ty.ok y112 a1 → (p13.F (a0, a1, ())).run some = some (.one (.bool true), [])
theorem lifted (P : Pure) (os : Os) (started : os.Started) (H : Type) (enc : TypeId × Value → H) :
    ReturnsInHanded {} Try.checked os 13 .any (Rows.fnExactBalancedSpec.pre6 enc Try.prog Try.f13 Rows.fnExactBalancedRow.domain false) (Rows.fnExactBalancedSpec.post enc Try.prog Try.f13 false true false false) := by
  refine returnsInHanded_of_change_sized (C := Try.checked) own started (by kernel_rfl) Try.func13
    (ChangeSpec.witness6 (enc := enc) (C := Try.checked) false ⟨#[], #[.slice none 0 0, .agg #[.slice none 0 0, .slice none 0 0, .slice none 0 0, .slice none 0 0]], []⟩ 8 (by kernel_rfl) (by kernel_rfl) (by kernel_rfl) (by kernel_rfl)) ?_
  intro W base args ds gs before hval0 hW hcnd hsz0 _
  have hsz : (DataW.weightsEach Try.prog (Try.f13.params.toList ++ Rows.fnExactBalancedSpec.plain.varTypes Try.prog) (ds ++ gs)).all (· ≤ reachBytes) = true := hsz0
  have hval : ∀ (j : Nat) t v, Try.f13.params[j]? = some t → args[j]? = some v → Value.okWide Try.prog W .any base t v := hval0
  have hW' := hW
  obtain ⟨p, q, hA0, hV, rfl, hfz, hnd⟩ := hW
  have hA : DataW.TrodAll enc Try.prog W 0 (fun _ => true) true Try.f13.params.toList args.toList ds p := hA0
  rw [Try.params13] at hA hval hsz
  obtain ⟨v0, vs0, d0, ds0, p0, q0, hargs, rfl, rfl, h0, r0⟩ := trodAll_cons hA
  obtain ⟨v1, vs1, d1, ds1, p1, q1, rfl, rfl, rfl, h1, r1⟩ := trodAll_cons r0
  obtain ⟨rfl, rfl, rfl⟩ := trodAll_nil r1
  obtain rfl : args = #[v0, v1] := by cases args; simp_all
  obtain ⟨rfl, rfl⟩ := trodVars_none hV
  have k0 := h0
  obtain ⟨a0, e0, w0⟩ := arg_slice op50 Try.underlying50 (hval 0 50 v0 rfl rfl) h0
  have k1 := h1
  obtain ⟨a1, e1, w1⟩ := arg_struct' op113 Try.underlying113 (hval 1 113 v1 rfl rfl) h1
  have h := P a0 a1 w0 w1
  refine (prim_calls ok13 h (vs := [v0, v1]) (.cons e0 (.cons e1 .nil)) (bld_dat rfl _)).mono fun e W' hh => ?_
  obtain ⟨he, bel⟩ := hh
  subst he
  exact ⟨_, rfl, _, _, _, [], _, [], hW', trodAll_mk1 (shut_bool Try.underlying4 _), (trodAll_cons_mk (Below.trod laidOut (by kernel_rfl) (of_decide_eq_true (by kernel_rfl)) k0 bel (placed k0)) (trodAll_cons_mk (Below.trod laidOut (by kernel_rfl) (of_decide_eq_true (by kernel_rfl)) k1 bel (placed k1)) trodAll_mk0)), rfl, bel.frame _, fun h => by cases h⟩
theorem over (P : Pure) : Rows.fnExactBalancedRow.holds Try.pinned (OpenSpec.ofChange Rows.fnExactBalancedSpec) :=
  OpenClaim.holds_of_wide 13 Try.f13 rfl rfl rfl rfl rfl rfl rfl ⟨rfl, rfl, rfl, rfl, rfl⟩ rfl rfl rfl rfl rfl (by kernel_rfl) Try.func13 (by kernel_rfl)
    (of_decide_eq_true (by kernel_rfl)) (by unfold Func.isWrapper; first | (rw [if_pos (by decide +kernel)]; kernel_rfl) | (rw [if_neg (by decide +kernel)]; exact ⟨rfl, rfl⟩))
    (fun os started H enc _ => lifted P os started H enc)
end Go.Proofs.Ytnbmifoebaoemaa.fnExactBalanced
