/- The row of the law FnPowers: from what is left to prove of plain functions to the given statement. No condition. -/
import Derived.Test.YtfbokamlkecibaaVmCFnPowers
import Derived.Test.YtfbokamlkecibaaRows
namespace Go.Proofs.Ytfbokamlkecibaa.fnPowers
open Go.ChangeShapes Go.WideShapes Go.ChangeAt Go.RowKit Go.Proofs.Ytfbokamlkecibaa.Lib Go.Proofs.Ytfbokamlkecibaa.Vm
open Go.ChangeMaps (open_string shut_string)
set_option linter.unusedVariables false
set_option maxRecDepth 100000
theorem own : ownKnob Try.prog.godebug = none := by kernel_rfl
theorem laidOut : laidOutB Try.prog = true := by kernel_rfl
theorem op5 : Opens Try.prog 5 (.int .u8) := opens_int Try.underlying5
theorem op33 : Opens Try.prog 33 (.sl 5 (.int .u8)) := opens_slice Try.underlying33 (by kernel_rfl) op5
/-- WHAT IS LEFT. -/
def Pure : Prop := ∀ (a0 : List (Ty.T (.int .u8))), Ty.ok (.sl 5 (.int .u8)) a0 → (p4.F (a0, ())).run some = some (.one (.bool true), [])
theorem lifted (P : Pure) (os : Os) (started : os.Started) (H : Type) (enc : TypeId × Value → H) :
    ReturnsInHanded {} Try.checked os 4 .any (Rows.fnPowersSpec.pre6 enc Try.prog Try.f4 Rows.fnPowersRow.domain false) (Rows.fnPowersSpec.post enc Try.prog Try.f4 false true false false) := by
  refine returnsInHanded_of_change_sized (C := Try.checked) own started (by kernel_rfl) Try.func4
    (ChangeSpec.witness6 (enc := enc) (C := Try.checked) false ⟨#[], #[.slice none 0 0], []⟩ 8 (by kernel_rfl) (by kernel_rfl) (by kernel_rfl) (by kernel_rfl)) ?_
  intro W base args ds gs before hval0 hW hcnd hsz0 _
  have hsz : (DataW.weightsEach Try.prog (Try.f4.params.toList ++ Rows.fnPowersSpec.plain.varTypes Try.prog) (ds ++ gs)).all (· ≤ reachBytes) = true := hsz0
  have hval : ∀ (j : Nat) t v, Try.f4.params[j]? = some t → args[j]? = some v → Value.okWide Try.prog W .any base t v := hval0
  have hW' := hW
  obtain ⟨p, q, hA0, hV, rfl, hfz, hnd⟩ := hW
  have hA : DataW.TrodAll enc Try.prog W 0 (fun _ => true) true Try.f4.params.toList args.toList ds p := hA0
  rw [Try.params4] at hA hval hsz
  obtain ⟨v0, vs0, d0, ds0, p0, q0, hargs, rfl, rfl, h0, r0⟩ := trodAll_cons hA
  obtain ⟨rfl, rfl, rfl⟩ := trodAll_nil r0
  obtain rfl : args = #[v0] := by cases args; simp_all
  obtain ⟨rfl, rfl⟩ := trodVars_none hV
  have k0 := h0
  obtain ⟨a0, e0, w0⟩ := arg_slice op33 Try.underlying33 (hval 0 33 v0 rfl rfl) h0
  have h := P a0 w0
  refine (prim_calls ok4 h (vs := [v0]) (.cons e0 .nil) (bld_dat rfl _)).mono fun e W' hh => ?_
  obtain ⟨he, bel⟩ := hh
  subst he
  exact ⟨_, rfl, _, _, _, [], _, [], hW', trodAll_mk1 (shut_bool Try.underlying4 _), (trodAll_cons_mk (Below.trod laidOut (by kernel_rfl) (of_decide_eq_true (by kernel_rfl)) k0 bel (placed k0)) trodAll_mk0), rfl, bel.frame _, fun h => by cases h⟩
theorem over (P : Pure) : Rows.fnPowersRow.holds Try.pinned (OpenSpec.ofChange Rows.fnPowersSpec) :=
  OpenClaim.holds_of_wide 4 Try.f4 rfl rfl rfl rfl rfl rfl rfl ⟨rfl, rfl, rfl, rfl, rfl⟩ rfl rfl rfl rfl rfl (by kernel_rfl) Try.func4 (by kernel_rfl)
    (of_decide_eq_true (by kernel_rfl)) (by unfold Func.isWrapper; first | (rw [if_pos (by decide +kernel)]; kernel_rfl) | (rw [if_neg (by decide +kernel)]; exact ⟨rfl, rfl⟩))
    (fun os started H enc _ => lifted P os started H enc)
end Go.Proofs.Ytfbokamlkecibaa.fnPowers
