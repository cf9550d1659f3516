/- The row of the law FnExactValid: from what is left to prove of plain functions to the given statement. No condition. -/
import Derived.Test.YtahlaccdpmddbaaGreatVmCFnExactValid
import Derived.Test.YtahlaccdpmddbaaGreatRows
import Derived.Test.YtahlaccdpmddbaaGreatVmFacFnExactValid
namespace Go.Proofs.YtahlaccdpmddbaaGreat.fnExactValid
open Go.ChangeShapes Go.WideShapes Go.ChangeAt Go.RowKit Go.Proofs.YtahlaccdpmddbaaGreat.Lib Go.Proofs.YtahlaccdpmddbaaGreat.Vm
open Go.ChangeMaps (open_string shut_string)
set_option linter.unusedVariables false
set_option maxRecDepth 100000
theorem own : ownKnob Tryz.prog.godebug = none := by kernel_rfl
theorem laidOut : laidOutB Tryz.prog = true := by kernel_rfl
theorem op3 : Opens Tryz.prog 3 (.int .i64) := opens_int Tryz.underlying3
theorem op4 : Opens Tryz.prog 4 .bool := opens_bool Tryz.underlying4
theorem op210 : Opens Tryz.prog 210 y63 := opens_struct Tryz.underlying210 (by kernel_rfl) (opensW_cons op3 (opensW_cons op3 (opensW_cons op3 (opensW_cons op3 (opensW_cons op3 (opensW_cons op3 (opensW_cons op3 (opensW_cons op3 (opensW_cons op3 (opensW_cons op3 (opensW_cons op3 (opensW_cons op4 (opensW_one op4)))))))))))))
theorem op22 : Opens Tryz.prog 22 (.sl 210 y63) := opens_slice Tryz.underlying22 (by kernel_rfl) op210
theorem op212 : Opens Tryz.prog 212 y190 := opens_struct Tryz.underlying212 (by kernel_rfl) (opensW_cons op3 (opensW_cons op3 (opensW_one op4)))
theorem op23 : Opens Tryz.prog 23 (.sl 212 y190) := opens_slice Tryz.underlying23 (by kernel_rfl) op212
theorem op25 : Opens Tryz.prog 25 y24 := opens_struct Tryz.underlying25 (by kernel_rfl) (opensW_cons op22 (opensW_cons op23 (opensW_cons op3 (opensW_one op3))))
theorem op127 : Opens Tryz.prog 127 y102 := opens_struct Tryz.underlying127 (by kernel_rfl) (opensW_cons op3 (opensW_cons op3 (opensW_cons op3 (opensW_cons op3 (opensW_cons op3 (opensW_cons op3 (opensW_one op3)))))))
theorem op128 : Opens Tryz.prog 128 y104 := opens_struct Tryz.underlying128 (by kernel_rfl) (opensW_cons op3 (opensW_one op3))
theorem op28 : Opens Tryz.prog 28 y27 := opens_struct Tryz.underlying28 (by kernel_rfl) (opensW_cons op3 (opensW_cons op3 (opensW_cons op3 (opensW_cons op3 (opensW_cons op3 (opensW_cons op3 (opensW_one op4)))))))
theorem op49 : Opens Tryz.prog 49 (.sl 28 y27) := opens_slice Tryz.underlying49 (by kernel_rfl) op28
theorem op130 : Opens Tryz.prog 130 y129 := opens_struct Tryz.underlying130 (by kernel_rfl) (opensW_cons op3 (opensW_cons op3 (opensW_cons op3 (opensW_cons op3 (opensW_cons op3 (opensW_cons op4 (opensW_one op49)))))))
theorem op132 : Opens Tryz.prog 132 y131 := opens_struct Tryz.underlying132 (by kernel_rfl) (opensW_cons op3 (opensW_cons op3 (opensW_cons op3 (opensW_cons op3 (opensW_cons op127 (opensW_cons op128 (opensW_cons op130 (opensW_cons op3 (opensW_one op3)))))))))
theorem op26 : Opens Tryz.prog 26 (.sl 132 y131) := opens_slice Tryz.underlying26 (by kernel_rfl) op132
theorem op50 : Opens Tryz.prog 50 (.sl 3 (.int .i64)) := opens_slice Tryz.underlying50 (by kernel_rfl) op3
theorem op135 : Opens Tryz.prog 135 y134 := opens_struct Tryz.underlying135 (by kernel_rfl) (opensW_cons op3 (opensW_cons op3 (opensW_cons op3 (opensW_cons op3 (opensW_cons op28 (opensW_cons op49 (opensW_cons op3 (opensW_one op3))))))))
theorem op29 : Opens Tryz.prog 29 (.sl 135 y134) := opens_slice Tryz.underlying29 (by kernel_rfl) op135
theorem op52 : Opens Tryz.prog 52 y51 := opens_struct Tryz.underlying52 (by kernel_rfl) (opensW_cons op49 (opensW_cons op26 (opensW_cons op50 (opensW_one op29))))
/-- WHAT IS LEFT. -/
def Pure : Prop := ∀ (a0 : Ty.T y24) (a1 : List (Ty.T y131)) (a2 : Ty.T y27) (a3 : Ty.T y51), Ty.ok y24 a0 → Ty.ok (.sl 132 y131) a1 → Ty.ok y27 a2 → Ty.ok y51 a3 → (p4.F (a0, a1, a2, a3, ())).run some = some (.one (.bool true), [])
theorem lifted (P : Pure) (os : Os) (started : os.Started) (H : Type) (enc : TypeId × Value → H) :
    ReturnsInHanded {} Tryz.checked os 4 .any (Rows.fnExactValidSpec.pre6 enc Tryz.prog Tryz.f4 Rows.fnExactValidRow.domain false) (Rows.fnExactValidSpec.post enc Tryz.prog Tryz.f4 false true false false) := by
  refine returnsInHanded_of_change_sized (C := Tryz.checked) own started (by kernel_rfl) Tryz.func4
    (ChangeSpec.witness6 (enc := enc) (C := Tryz.checked) false ⟨#[], #[.agg #[.slice none 0 0, .slice none 0 0, .int .i64 0, .int .i64 0], .slice none 0 0, .agg #[.int .i64 0, .int .i64 0, .int .i64 0, .int .i64 0, .int .i64 0, .int .i64 0, .bool false], .agg #[.slice none 0 0, .slice none 0 0, .slice none 0 0, .slice none 0 0]], []⟩ 8 (by kernel_rfl) (by kernel_rfl) (by kernel_rfl) (by kernel_rfl)) ?_
  intro W base args ds gs before hval0 hW hcnd hsz0 _
  have hsz : (DataW.weightsEach Tryz.prog (Tryz.f4.params.toList ++ Rows.fnExactValidSpec.plain.varTypes Tryz.prog) (ds ++ gs)).all (· ≤ reachBytes) = true := hsz0
  have hval : ∀ (j : Nat) t v, Tryz.f4.params[j]? = some t → args[j]? = some v → Value.okWide Tryz.prog W .any base t v := hval0
  have hW' := hW
  obtain ⟨p, q, hA0, hV, rfl, hfz, hnd⟩ := hW
  have hA : DataW.TrodAll enc Tryz.prog W 0 (fun _ => true) true Tryz.f4.params.toList args.toList ds p := hA0
  rw [Tryz.params4] at hA hval hsz
  obtain ⟨v0, vs0, d0, ds0, p0, q0, hargs, rfl, rfl, h0, r0⟩ := trodAll_cons hA
  obtain ⟨v1, vs1, d1, ds1, p1, q1, rfl, rfl, rfl, h1, r1⟩ := trodAll_cons r0
  obtain ⟨v2, vs2, d2, ds2, p2, q2, rfl, rfl, rfl, h2, r2⟩ := trodAll_cons r1
  obtain ⟨v3, vs3, d3, ds3, p3, q3, rfl, rfl, rfl, h3, r3⟩ := trodAll_cons r2
  obtain ⟨rfl, rfl, rfl⟩ := trodAll_nil r3
  obtain rfl : args = #[v0, v1, v2, v3] := by cases args; simp_all
  obtain ⟨rfl, rfl⟩ := trodVars_none hV
  have k0 := h0
  obtain ⟨a0, e0, w0⟩ := arg_struct' op25 Tryz.underlying25 (hval 0 25 v0 rfl rfl) h0
  have k1 := h1
  obtain ⟨a1, e1, w1⟩ := arg_slice op26 Tryz.underlying26 (hval 1 26 v1 rfl rfl) h1
  have k2 := h2
  obtain ⟨a2, e2, w2⟩ := arg_struct' op28 Tryz.underlying28 (hval 2 28 v2 rfl rfl) h2
  have k3 := h3
  obtain ⟨a3, e3, w3⟩ := arg_struct' op52 Tryz.underlying52 (hval 3 52 v3 rfl rfl) h3
  have h := P a0 a1 a2 a3 w0 w1 w2 w3
  refine (prim_calls ok4 h (vs := [v0, v1, v2, v3]) (.cons e0 (.cons e1 (.cons e2 (.cons e3 .nil)))) (bld_dat rfl _)).mono fun e W' hh => ?_
  obtain ⟨he, bel⟩ := hh
  subst he
  exact ⟨_, rfl, _, _, _, [], _, [], hW', trodAll_mk1 (shut_bool Tryz.underlying4 _), (trodAll_cons_mk (Below.trod laidOut (by kernel_rfl) (of_decide_eq_true (by kernel_rfl)) k0 bel (placed k0)) (trodAll_cons_mk (Below.trod laidOut (by kernel_rfl) (of_decide_eq_true (by kernel_rfl)) k1 bel (placed k1)) (trodAll_cons_mk (Below.trod laidOut (by kernel_rfl) (of_decide_eq_true (by kernel_rfl)) k2 bel (placed k2)) (trodAll_cons_mk (Below.trod laidOut (by kernel_rfl) (of_decide_eq_true (by kernel_rfl)) k3 bel (placed k3)) trodAll_mk0)))), rfl, bel.frame _, fun h => by cases h⟩
theorem over (P : Pure) : Rows.fnExactValidRow.holds Tryz.pinned (OpenSpec.ofChange Rows.fnExactValidSpec) :=
  OpenClaim.holds_of_wide 4 Tryz.f4 rfl rfl rfl rfl rfl rfl rfl ⟨rfl, rfl, rfl, rfl, rfl⟩ rfl rfl rfl rfl rfl Fac.named Tryz.func4 Fac.closed Fac.inst Fac.wrap
    (fun os started H enc _ => lifted P os started H enc)
end Go.Proofs.YtahlaccdpmddbaaGreat.fnExactValid
