/- The row of the law FnExactPutScript: from what is left to prove of plain functions to the given statement. No condition. -/
import Derived.Test.YtcddhifkfakcjaaGreatVmCFnExactPutScript
import Derived.HandedShaped
import Derived.Test.YtcddhifkfakcjaaGreatRows
import Derived.Test.YtcddhifkfakcjaaGreatVmFacFnExactPutScript
namespace Go.Proofs.YtcddhifkfakcjaaGreat.fnExactPutScript
open Go.ChangeShapes Go.WideShapes Go.ChangeAt Go.RowKit Go.Proofs.YtcddhifkfakcjaaGreat.Lib Go.Proofs.YtcddhifkfakcjaaGreat.Vm
open Go.ChangeMaps (open_string shut_string)
set_option linter.unusedVariables false
set_option maxRecDepth 100000
theorem own : ownKnob Tryz.prog.godebug = none := by kernel_rfl
theorem laidOut : laidOutB Tryz.prog = true := by kernel_rfl
theorem op3 : Opens Tryz.prog 3 (.int .i64) := opens_int Tryz.underlying3
theorem op4 : Opens Tryz.prog 4 .bool := opens_bool Tryz.underlying4
theorem op200 : Opens Tryz.prog 200 y179 := opens_struct Tryz.underlying200 (by kernel_rfl) (opensW_cons op3 (opensW_cons op3 (opensW_cons op3 (opensW_cons op3 (opensW_cons op3 (opensW_cons op3 (opensW_cons op3 (opensW_cons op3 (opensW_cons op3 (opensW_cons op3 (opensW_cons op3 (opensW_cons op4 (opensW_one op4)))))))))))))
theorem op22 : Opens Tryz.prog 22 (.sl 200 y179) := opens_slice Tryz.underlying22 (by kernel_rfl) op200
theorem op202 : Opens Tryz.prog 202 y181 := opens_struct Tryz.underlying202 (by kernel_rfl) (opensW_cons op3 (opensW_cons op3 (opensW_one op4)))
theorem op23 : Opens Tryz.prog 23 (.sl 202 y181) := opens_slice Tryz.underlying23 (by kernel_rfl) op202
theorem op25 : Opens Tryz.prog 25 y24 := opens_struct Tryz.underlying25 (by kernel_rfl) (opensW_cons op22 (opensW_cons op23 (opensW_cons op3 (opensW_one op3))))
theorem op116 : Opens Tryz.prog 116 y96 := opens_struct Tryz.underlying116 (by kernel_rfl) (opensW_cons op3 (opensW_cons op3 (opensW_cons op3 (opensW_cons op3 (opensW_cons op3 (opensW_cons op3 (opensW_one op3)))))))
theorem op117 : Opens Tryz.prog 117 y98 := opens_struct Tryz.underlying117 (by kernel_rfl) (opensW_cons op3 (opensW_one op3))
theorem op49 : Opens Tryz.prog 49 y48 := opens_struct Tryz.underlying49 (by kernel_rfl) (opensW_cons op3 (opensW_cons op3 (opensW_cons op3 (opensW_cons op3 (opensW_cons op3 (opensW_cons op3 (opensW_one op4)))))))
theorem op118 : Opens Tryz.prog 118 (.sl 49 y48) := opens_slice Tryz.underlying118 (by kernel_rfl) op49
theorem op120 : Opens Tryz.prog 120 y119 := opens_struct Tryz.underlying120 (by kernel_rfl) (opensW_cons op3 (opensW_cons op3 (opensW_cons op3 (opensW_cons op3 (opensW_cons op3 (opensW_cons op4 (opensW_one op118)))))))
theorem op122 : Opens Tryz.prog 122 y121 := opens_struct Tryz.underlying122 (by kernel_rfl) (opensW_cons op3 (opensW_cons op3 (opensW_cons op3 (opensW_cons op3 (opensW_cons op116 (opensW_cons op117 (opensW_cons op120 (opensW_cons op3 (opensW_one op3)))))))))
theorem op26 : Opens Tryz.prog 26 (.sl 122 y121) := opens_slice Tryz.underlying26 (by kernel_rfl) op122
theorem op177 : Opens Tryz.prog 177 y176 := opens_struct Tryz.underlying177 (by kernel_rfl) (opensW_cons op3 (opensW_cons op122 (opensW_cons op3 (opensW_one op118))))
theorem op27 : Opens Tryz.prog 27 (.sl 177 y176) := opens_slice Tryz.underlying27 (by kernel_rfl) op177
theorem op28 : Opens Tryz.prog 28 (.sl 3 (.int .i64)) := opens_slice Tryz.underlying28 (by kernel_rfl) op3
theorem op30 : Opens Tryz.prog 30 y29 := opens_struct Tryz.underlying30 (by kernel_rfl) (opensW_cons op25 (opensW_cons op26 (opensW_cons op27 (opensW_one op28))))
/-- WHAT IS LEFT. -/
def Pure : Prop := ∀ (a0 : Ty.T y29), Ty.ok y29 a0 → (p3.F (a0, ())).run some = some (.one (.bool true), [])
theorem lifted (P : Pure) (os : Os) (started : os.Started) (H : Type) (enc : TypeId × Value → H) :
    ReturnsInHanded {} Tryz.checked os 3 .any (Rows.fnExactPutScriptSpec.pre6 enc Tryz.prog Tryz.f3 Rows.fnExactPutScriptRow.domain false) (Rows.fnExactPutScriptSpec.post enc Tryz.prog Tryz.f3 false true false false) := by
  refine returnsInHanded_of_change_shaped (C := Tryz.checked) own started (by kernel_rfl) Tryz.func3
    (ChangeSpec.witness6 (enc := enc) (C := Tryz.checked) false ⟨#[], #[.agg #[.slice none 0 0, .slice none 0 0, .int .i64 0, .int .i64 0, .slice none 0 0, .slice none 0 0, .slice none 0 0]], []⟩ 8 (by kernel_rfl) (by kernel_rfl) (by kernel_rfl) (by kernel_rfl)) ?_
  intro W base args ds gs before hval0 hW hcnd hsz0 hsh _
  have hsz : (DataW.weightsEach Tryz.prog (Tryz.f3.params.toList ++ Rows.fnExactPutScriptSpec.plain.varTypes Tryz.prog) (ds ++ gs)).all (· ≤ reachBytes) = true := hsz0
  have hval : ∀ (j : Nat) t v, Tryz.f3.params[j]? = some t → args[j]? = some v → Value.okWide Tryz.prog W .any base t v := hval0
  have hW' := hW
  obtain ⟨p, q, hA0, hV, rfl, hfz, hnd⟩ := hW
  have hA : DataW.TrodAll enc Tryz.prog W 0 (fun _ => true) true Tryz.f3.params.toList args.toList ds p := hA0
  rw [Tryz.params3] at hA hval hsz
  obtain ⟨v0, vs0, d0, ds0, p0, q0, hargs, rfl, rfl, h0, r0⟩ := trodAll_cons hA
  obtain ⟨rfl, rfl, rfl⟩ := trodAll_nil r0
  obtain rfl : args = #[v0] := by cases args; simp_all
  obtain ⟨rfl, rfl⟩ := trodVars_none hV
  have k0 := h0
  obtain ⟨a0, e0, w0⟩ := arg_struct' op30 Tryz.underlying30 (hval 0 30 v0 rfl rfl) h0
  have h := P a0 w0
  refine (prim_calls ok3 h hsh (vs := [v0]) (.cons e0 .nil) (bld_dat rfl _)).mono fun e W' hh => ?_
  obtain ⟨he, bel⟩ := hh
  subst he
  exact ⟨_, rfl, _, _, _, [], _, [], hW', trodAll_mk1 (shut_bool Tryz.underlying4 _), (trodAll_cons_mk (Below.trod laidOut (by kernel_rfl) (of_decide_eq_true (by kernel_rfl)) k0 bel (placed k0)) trodAll_mk0), rfl, bel.frame _, fun h => by cases h⟩
theorem over (P : Pure) : Rows.fnExactPutScriptRow.holds Tryz.pinned (OpenSpec.ofChange Rows.fnExactPutScriptSpec) :=
  OpenClaim.holds_of_wide 3 Tryz.f3 rfl rfl rfl rfl rfl rfl rfl ⟨rfl, rfl, rfl, rfl, rfl⟩ rfl rfl rfl rfl rfl Fac.named Tryz.func3 Fac.closed Fac.inst Fac.wrap
    (fun os started H enc _ => lifted P os started H enc)
end Go.Proofs.YtcddhifkfakcjaaGreat.fnExactPutScript
