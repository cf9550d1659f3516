/- The row of the law FnExactLinkGain: from what is left to prove of plain functions to the given statement. No condition. -/
import Derived.Test.YtnbmifoebaoemaaVmCFnExactLinkGain
import Derived.Test.YtnbmifoebaoemaaRows
namespace Go.Proofs.Ytnbmifoebaoemaa.fnExactLinkGain
open Go.ChangeShapes Go.WideShapes Go.ChangeAt Go.RowKit Go.Proofs.Ytnbmifoebaoemaa.Lib Go.Proofs.Ytnbmifoebaoemaa.Vm
open Go.ChangeMaps (open_string shut_string)
set_option linter.unusedVariables false
set_option maxRecDepth 100000
theorem own : ownKnob Try.prog.godebug = none := by kernel_rfl
theorem laidOut : laidOutB Try.prog = true := by kernel_rfl
theorem op3 : Opens Try.prog 3 (.int .i64) := opens_int Try.underlying3
theorem op4 : Opens Try.prog 4 .bool := opens_bool Try.underlying4
theorem op36 : Opens Try.prog 36 y35 := opens_struct Try.underlying36 (by kernel_rfl) (opensW_cons op3 (opensW_cons op3 (opensW_cons op3 (opensW_cons op3 (opensW_cons op3 (opensW_cons op3 (opensW_cons op3 (opensW_cons op3 (opensW_cons op3 (opensW_cons op3 (opensW_cons op3 (opensW_cons op4 (opensW_one op4)))))))))))))
theorem op75 : Opens Try.prog 75 (.sl 36 y35) := opens_slice Try.underlying75 (by kernel_rfl) op36
theorem op166 : Opens Try.prog 166 y163 := opens_struct Try.underlying166 (by kernel_rfl) (opensW_cons op3 (opensW_cons op3 (opensW_one op4)))
theorem op76 : Opens Try.prog 76 (.sl 166 y163) := opens_slice Try.underlying76 (by kernel_rfl) op166
theorem op78 : Opens Try.prog 78 y77 := opens_struct Try.underlying78 (by kernel_rfl) (opensW_cons op75 (opensW_cons op76 (opensW_cons op3 (opensW_one op3))))
theorem op34 : Opens Try.prog 34 y33 := opens_struct Try.underlying34 (by kernel_rfl) (opensW_cons op3 (opensW_cons op3 (opensW_cons op3 (opensW_cons op3 (opensW_cons op3 (opensW_cons op3 (opensW_one op4)))))))
theorem op38 : Opens Try.prog 38 y37 := opens_struct Try.underlying38 (by kernel_rfl) (opensW_cons op3 (opensW_cons op34 (opensW_cons op3 (opensW_cons op3 (opensW_one op36)))))
theorem op79 : Opens Try.prog 79 (.sl 38 y37) := opens_slice Try.underlying79 (by kernel_rfl) op38
/-- WHAT IS LEFT. -/
def Pure : Prop := ∀ (a0 : Ty.T y77) (a1 : List (Ty.T y37)) (a2 : Int), Ty.ok y77 a0 → Ty.ok (.sl 38 y37) a1 → Ty.ok (.int .i64) a2 → (p8.F (a0, a1, a2, ())).run some = some (.one (.bool true), [])
theorem lifted (P : Pure) (os : Os) (started : os.Started) (H : Type) (enc : TypeId × Value → H) :
    ReturnsInHanded {} Try.checked os 8 .any (Rows.fnExactLinkGainSpec.pre6 enc Try.prog Try.f8 Rows.fnExactLinkGainRow.domain false) (Rows.fnExactLinkGainSpec.post enc Try.prog Try.f8 false true false false) := by
  refine returnsInHanded_of_change_sized (C := Try.checked) own started (by kernel_rfl) Try.func8
    (ChangeSpec.witness6 (enc := enc) (C := Try.checked) false ⟨#[], #[.agg #[.slice none 0 0, .slice none 0 0, .int .i64 0, .int .i64 0], .slice none 0 0, .int .i64 0], []⟩ 8 (by kernel_rfl) (by kernel_rfl) (by kernel_rfl) (by kernel_rfl)) ?_
  intro W base args ds gs before hval0 hW hcnd hsz0 _
  have hsz : (DataW.weightsEach Try.prog (Try.f8.params.toList ++ Rows.fnExactLinkGainSpec.plain.varTypes Try.prog) (ds ++ gs)).all (· ≤ reachBytes) = true := hsz0
  have hval : ∀ (j : Nat) t v, Try.f8.params[j]? = some t → args[j]? = some v → Value.okWide Try.prog W .any base t v := hval0
  have hW' := hW
  obtain ⟨p, q, hA0, hV, rfl, hfz, hnd⟩ := hW
  have hA : DataW.TrodAll enc Try.prog W 0 (fun _ => true) true Try.f8.params.toList args.toList ds p := hA0
  rw [Try.params8] at hA hval hsz
  obtain ⟨v0, vs0, d0, ds0, p0, q0, hargs, rfl, rfl, h0, r0⟩ := trodAll_cons hA
  obtain ⟨v1, vs1, d1, ds1, p1, q1, rfl, rfl, rfl, h1, r1⟩ := trodAll_cons r0
  obtain ⟨v2, vs2, d2, ds2, p2, q2, rfl, rfl, rfl, h2, r2⟩ := trodAll_cons r1
  obtain ⟨rfl, rfl, rfl⟩ := trodAll_nil r2
  obtain rfl : args = #[v0, v1, v2] := by cases args; simp_all
  obtain ⟨rfl, rfl⟩ := trodVars_none hV
  have k0 := h0
  obtain ⟨a0, e0, w0⟩ := arg_struct' op78 Try.underlying78 (hval 0 78 v0 rfl rfl) h0
  have k1 := h1
  obtain ⟨a1, e1, w1⟩ := arg_slice op79 Try.underlying79 (hval 1 79 v1 rfl rfl) h1
  have k2 := h2
  obtain ⟨a2, rfl, rfl, rfl, w2⟩ := open_int Try.underlying3 (hval 2 3 v2 rfl rfl) h2
  have e2 : rav ⟨fun _ => .dead, fun _ => here W⟩ W (.one (.int .i64 a2)) (.int .i64 a2) := rfl
  have h := P a0 a1 a2 w0 w1 w2
  refine (prim_calls ok8 h (vs := [v0, v1, _]) (.cons e0 (.cons e1 (.cons e2 .nil))) (bld_dat rfl _)).mono fun e W' hh => ?_
  obtain ⟨he, bel⟩ := hh
  subst he
  exact ⟨_, rfl, _, _, _, [], _, [], hW', trodAll_mk1 (shut_bool Try.underlying4 _), (trodAll_cons_mk (Below.trod laidOut (by kernel_rfl) (of_decide_eq_true (by kernel_rfl)) k0 bel (placed k0)) (trodAll_cons_mk (Below.trod laidOut (by kernel_rfl) (of_decide_eq_true (by kernel_rfl)) k1 bel (placed k1)) (trodAll_cons_mk (Below.trod laidOut (by kernel_rfl) (of_decide_eq_true (by kernel_rfl)) k2 bel (placed k2)) trodAll_mk0))), rfl, bel.frame _, fun h => by cases h⟩
theorem over (P : Pure) : Rows.fnExactLinkGainRow.holds Try.pinned (OpenSpec.ofChange Rows.fnExactLinkGainSpec) :=
  OpenClaim.holds_of_wide 8 Try.f8 rfl rfl rfl rfl rfl rfl rfl ⟨rfl, rfl, rfl, rfl, rfl⟩ rfl rfl rfl rfl rfl (by kernel_rfl) Try.func8 (by kernel_rfl)
    (of_decide_eq_true (by kernel_rfl)) (by unfold Func.isWrapper; first | (rw [if_pos (by decide +kernel)]; kernel_rfl) | (rw [if_neg (by decide +kernel)]; exact ⟨rfl, rfl⟩))
    (fun os started H enc _ => lifted P os started H enc)
end Go.Proofs.Ytnbmifoebaoemaa.fnExactLinkGain
