/- The row of the law FnExactChoicesFor: from what is left to prove of plain functions to the given statement. No condition. -/
import Derived.Test.YtcddhifkfakcjaaVmCFnExactChoicesFor
import Derived.HandedShaped
import Derived.Test.YtcddhifkfakcjaaRows
import Derived.Test.YtcddhifkfakcjaaVmFacFnExactChoicesFor
namespace Go.Proofs.Ytcddhifkfakcjaa.fnExactChoicesFor
open Go.ChangeShapes Go.WideShapes Go.ChangeAt Go.RowKit Go.Proofs.Ytcddhifkfakcjaa.Lib Go.Proofs.Ytcddhifkfakcjaa.Vm
open Go.ChangeMaps (open_string shut_string)
set_option linter.unusedVariables false
set_option maxRecDepth 100000
theorem own : ownKnob Try.prog.godebug = none := by kernel_rfl
theorem laidOut : laidOutB Try.prog = true := by kernel_rfl
theorem op3 : Opens Try.prog 3 (.int .i64) := opens_int Try.underlying3
theorem op4 : Opens Try.prog 4 .bool := opens_bool Try.underlying4
theorem op35 : Opens Try.prog 35 y34 := opens_struct Try.underlying35 (by kernel_rfl) (opensW_cons op3 (opensW_cons op3 (opensW_cons op3 (opensW_cons op3 (opensW_cons op3 (opensW_cons op3 (opensW_one op4)))))))
theorem op36 : Opens Try.prog 36 (.sl 35 y34) := opens_slice Try.underlying36 (by kernel_rfl) op35
theorem op38 : Opens Try.prog 38 y37 := opens_struct Try.underlying38 (by kernel_rfl) (opensW_cons op3 (opensW_cons op3 (opensW_cons op3 (opensW_cons op3 (opensW_cons op35 (opensW_cons op36 (opensW_cons op3 (opensW_one op3))))))))
theorem op22 : Opens Try.prog 22 (.sl 38 y37) := opens_slice Try.underlying22 (by kernel_rfl) op38
/-- WHAT IS LEFT. -/
def Pure : Prop := ∀ (a0 : List (Ty.T y37)), Ty.ok (.sl 38 y37) a0 → (p3.F (a0, ())).run some = some (.one (.bool true), [])
theorem lifted (P : Pure) (os : Os) (started : os.Started) (H : Type) (enc : TypeId × Value → H) :
    ReturnsInHanded {} Try.checked os 3 .any (Rows.fnExactChoicesForSpec.pre6 enc Try.prog Try.f3 Rows.fnExactChoicesForRow.domain false) (Rows.fnExactChoicesForSpec.post enc Try.prog Try.f3 false true false false) := by
  refine returnsInHanded_of_change_shaped (C := Try.checked) own started (by kernel_rfl) Try.func3
    (ChangeSpec.witness6 (enc := enc) (C := Try.checked) false ⟨#[], #[.slice none 0 0], []⟩ 8 (by kernel_rfl) (by kernel_rfl) (by kernel_rfl) (by kernel_rfl)) ?_
  intro W base args ds gs before hval0 hW hcnd hsz0 hsh _
  have hsz : (DataW.weightsEach Try.prog (Try.f3.params.toList ++ Rows.fnExactChoicesForSpec.plain.varTypes Try.prog) (ds ++ gs)).all (· ≤ reachBytes) = true := hsz0
  have hval : ∀ (j : Nat) t v, Try.f3.params[j]? = some t → args[j]? = some v → Value.okWide Try.prog W .any base t v := hval0
  have hW' := hW
  obtain ⟨p, q, hA0, hV, rfl, hfz, hnd⟩ := hW
  have hA : DataW.TrodAll enc Try.prog W 0 (fun _ => true) true Try.f3.params.toList args.toList ds p := hA0
  rw [Try.params3] at hA hval hsz
  obtain ⟨v0, vs0, d0, ds0, p0, q0, hargs, rfl, rfl, h0, r0⟩ := trodAll_cons hA
  obtain ⟨rfl, rfl, rfl⟩ := trodAll_nil r0
  obtain rfl : args = #[v0] := by cases args; simp_all
  obtain ⟨rfl, rfl⟩ := trodVars_none hV
  have k0 := h0
  obtain ⟨a0, e0, w0⟩ := arg_slice op22 Try.underlying22 (hval 0 22 v0 rfl rfl) h0
  have h := P a0 w0
  refine (prim_calls ok3 h hsh (vs := [v0]) (.cons e0 .nil) (bld_dat rfl _)).mono fun e W' hh => ?_
  obtain ⟨he, bel⟩ := hh
  subst he
  exact ⟨_, rfl, _, _, _, [], _, [], hW', trodAll_mk1 (shut_bool Try.underlying4 _), (trodAll_cons_mk (Below.trod laidOut (by kernel_rfl) (of_decide_eq_true (by kernel_rfl)) k0 bel (placed k0)) trodAll_mk0), rfl, bel.frame _, fun h => by cases h⟩
theorem over (P : Pure) : Rows.fnExactChoicesForRow.holds Try.pinned (OpenSpec.ofChange Rows.fnExactChoicesForSpec) :=
  OpenClaim.holds_of_wide 3 Try.f3 rfl rfl rfl rfl rfl rfl rfl ⟨rfl, rfl, rfl, rfl, rfl⟩ rfl rfl rfl rfl rfl Fac.named Try.func3 Fac.closed Fac.inst Fac.wrap
    (fun os started H enc _ => lifted P os started H enc)
end Go.Proofs.Ytcddhifkfakcjaa.fnExactChoicesFor
