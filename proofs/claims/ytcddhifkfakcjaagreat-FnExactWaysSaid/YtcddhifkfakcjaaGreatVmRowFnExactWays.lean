/- The row of the law FnExactWays: from what is left to prove of plain functions to the given statement. No condition. -/
import Derived.Test.YtcddhifkfakcjaaGreatVmCFnExactWays
import Derived.HandedShaped
import Derived.Test.YtcddhifkfakcjaaGreatRows
import Derived.Test.YtcddhifkfakcjaaGreatVmFacFnExactWays
namespace Go.Proofs.YtcddhifkfakcjaaGreat.fnExactWays
open Go.ChangeShapes Go.WideShapes Go.ChangeAt Go.RowKit Go.Proofs.YtcddhifkfakcjaaGreat.Lib Go.Proofs.YtcddhifkfakcjaaGreat.Vm
open Go.ChangeMaps (open_string shut_string)
set_option linter.unusedVariables false
set_option maxRecDepth 100000
theorem own : ownKnob Tryz.prog.godebug = none := by kernel_rfl
theorem laidOut : laidOutB Tryz.prog = true := by kernel_rfl
theorem op3 : cU Tryz.prog 3 (.int .i64) := Ge Tryz.underlying3
theorem op4 : cU Tryz.prog 4 .bool := CO Tryz.underlying4
theorem RP : cU Tryz.prog 200 ah := cw Tryz.underlying200 (by kernel_rfl) (aj op3 (aj op3 (aj op3 (aj op3 (aj op3 (aj op3 (aj op3 (aj op3 (aj op3 (aj op3 (aj op3 (aj op4 (cY op4)))))))))))))
theorem Xg : cU Tryz.prog 22 (.sl 200 ah) := gD Tryz.underlying22 (by kernel_rfl) RP
theorem SE : cU Tryz.prog 202 aD := cw Tryz.underlying202 (by kernel_rfl) (aj op3 (aj op3 (cY op4)))
theorem X3 : cU Tryz.prog 23 (.sl 202 aD) := gD Tryz.underlying23 (by kernel_rfl) SE
theorem aap : cU Tryz.prog 25 y24 := cw Tryz.underlying25 (by kernel_rfl) (aj Xg (aj X3 (aj op3 (cY op3))))
theorem QN : cU Tryz.prog 116 y96 := cw Tryz.underlying116 (by kernel_rfl) (aj op3 (aj op3 (aj op3 (aj op3 (aj op3 (aj op3 (cY op3)))))))
theorem R0 : cU Tryz.prog 117 y98 := cw Tryz.underlying117 (by kernel_rfl) (aj op3 (cY op3))
theorem Uj : cU Tryz.prog 49 y48 := cw Tryz.underlying49 (by kernel_rfl) (aj op3 (aj op3 (aj op3 (aj op3 (aj op3 (aj op3 (cY op4)))))))
theorem RQ : cU Tryz.prog 118 (.sl 49 y48) := gD Tryz.underlying118 (by kernel_rfl) Uj
theorem Rx : cU Tryz.prog 120 jx := cw Tryz.underlying120 (by kernel_rfl) (aj op3 (aj op3 (aj op3 (aj op3 (aj op3 (aj op4 (cY RQ)))))))
theorem Vw : cU Tryz.prog 122 bF := cw Tryz.underlying122 (by kernel_rfl) (aj op3 (aj op3 (aj op3 (aj op3 (aj QN (aj R0 (aj Rx (aj op3 (cY op3)))))))))
theorem Ws : cU Tryz.prog 26 (.sl 122 bF) := gD Tryz.underlying26 (by kernel_rfl) Vw
/-- WHAT IS LEFT. -/
def Pure : Prop := ∀ (a0 : Ty.T y24) (a1 : List (Ty.T bF)) (a2 : Ty.T y48),Ty.ok y24 a0 → Ty.ok (.sl 122 bF) a1 → Ty.ok y48 a2 → (p4.F (a0,a1,a2,())).run some = some (.one (.bool true),[])
theorem lifted (P : Pure) (os : Os) (started : os.Started) (H : Type) (enc : TypeId × Value → H) :
    ReturnsInHanded {} Tryz.checked os 4 .any (Rows.fnExactWaysSpec.pre6 enc Tryz.prog Tryz.f4 Rows.fnExactWaysRow.domain false) (Rows.fnExactWaysSpec.post enc Tryz.prog Tryz.f4 false true false false) := by
  refine returnsInHanded_of_change_shaped (C := Tryz.checked) own started (by kernel_rfl) Tryz.func4
    (ChangeSpec.witness6 (enc := enc) (C := Tryz.checked) false ⟨#[],#[.agg #[.slice none 0 0,.slice none 0 0,.int .i64 0,.int .i64 0],.slice none 0 0,.agg #[.int .i64 0,.int .i64 0,.int .i64 0,.int .i64 0,.int .i64 0,.int .i64 0,.bool false]],[]⟩ 8 (by kernel_rfl) (by kernel_rfl) (by kernel_rfl) (by kernel_rfl)) ?_
  intro W base args ds gs before hval0 hW hcnd hsz0 hsh _
  have hsz : (DataW.weightsEach Tryz.prog (Tryz.f4.params.toList ++ Rows.fnExactWaysSpec.plain.varTypes Tryz.prog) (ds ++ gs)).all (· ≤ reachBytes) = true := hsz0
  have hval : ∀ (j : Nat) t v,Tryz.f4.params[j]? = some t → args[j]? = some v → Value.okWide Tryz.prog W .any base t v := hval0
  have hW' := hW
  obtain ⟨p,q,hA0,hV,rfl,hfz,hnd⟩ := hW
  have hA : DataW.TrodAll enc Tryz.prog W 0 (fun _ => true) true Tryz.f4.params.toList args.toList ds p := hA0
  rw [Tryz.params4] at hA hval hsz
  obtain ⟨v0,vs0,d0,ds0,p0,q0,hargs,rfl,rfl,h0,r0⟩ := trodAll_cons hA
  obtain ⟨v1,vs1,d1,ds1,p1,q1,rfl,rfl,rfl,h1,r1⟩ := trodAll_cons r0
  obtain ⟨v2,vs2,d2,ds2,p2,q2,rfl,rfl,rfl,h2,r2⟩ := trodAll_cons r1
  obtain ⟨rfl,rfl,rfl⟩ := trodAll_nil r2
  obtain rfl : args = #[v0,v1,v2] := by cases args; simp_all
  obtain ⟨rfl,rfl⟩ := trodVars_none hV
  have k0 := h0
  obtain ⟨a0,e0,w0⟩ := qd aap Tryz.underlying25 (hval 0 25 v0 rfl rfl) h0
  have k1 := h1
  obtain ⟨a1,e1,w1⟩ := GJ Ws Tryz.underlying26 (hval 1 26 v1 rfl rfl) h1
  have k2 := h2
  obtain ⟨a2,e2,w2⟩ := qd Uj Tryz.underlying49 (hval 2 49 v2 rfl rfl) h2
  have h := P a0 a1 a2 w0 w1 w2
  refine (Ds ok4 h hsh (vs := [v0,v1,v2]) (.cons e0 (.cons e1 (.cons e2 .nil))) (Mi rfl _)).mono fun e W' hh => ?_
  obtain ⟨he,bel⟩ := hh
  subst he
  exact ⟨_,rfl,_,_,_,[],_,[],hW',trodAll_mk1 (shut_bool Tryz.underlying4 _),(trodAll_cons_mk (Below.trod laidOut (by kernel_rfl) (of_decide_eq_true (by kernel_rfl)) k0 bel (De k0)) (trodAll_cons_mk (Below.trod laidOut (by kernel_rfl) (of_decide_eq_true (by kernel_rfl)) k1 bel (De k1)) (trodAll_cons_mk (Below.trod laidOut (by kernel_rfl) (of_decide_eq_true (by kernel_rfl)) k2 bel (De k2)) trodAll_mk0))),rfl,bel.frame _,fun h => by cases h⟩
theorem DQ (P : Pure) : Rows.fnExactWaysRow.holds Tryz.pinned (OpenSpec.ofChange Rows.fnExactWaysSpec) :=
  OpenClaim.holds_of_wide 4 Tryz.f4 rfl rfl rfl rfl rfl rfl rfl ⟨rfl,rfl,rfl,rfl,rfl⟩ rfl rfl rfl rfl rfl Fac.named Tryz.func4 Fac.closed Fac.inst Fac.wrap
    (fun os started H enc _ => lifted P os started H enc)
end Go.Proofs.YtcddhifkfakcjaaGreat.fnExactWays
