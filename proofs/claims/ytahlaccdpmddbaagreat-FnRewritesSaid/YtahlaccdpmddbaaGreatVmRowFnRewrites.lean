/- The row of the law FnRewrites: from what is left to prove of plain functions to the given statement. No condition. -/
import Derived.Test.YtahlaccdpmddbaaGreatVmCFnRewrites
import Derived.HandedShaped
import Derived.Test.YtahlaccdpmddbaaGreatRows
import Derived.Test.YtahlaccdpmddbaaGreatVmFacFnRewrites
namespace Go.Proofs.YtahlaccdpmddbaaGreat.fnRewrites
open Go.ChangeShapes Go.WideShapes Go.ChangeAt Go.RowKit Go.Proofs.YtahlaccdpmddbaaGreat.Lib Go.Proofs.YtahlaccdpmddbaaGreat.Vm
open Go.ChangeMaps (open_string shut_string)
set_option linter.unusedVariables false
set_option maxRecDepth 100000
theorem own : ownKnob Tryz.prog.godebug = none := by kernel_rfl
theorem laidOut : laidOutB Tryz.prog = true := by kernel_rfl
theorem op5 : B9 Tryz.prog 5 (.int .u8) := MX Tryz.underlying5
theorem ae4 : B9 Tryz.prog 61 (.sl 5 (.int .u8)) := Ia Tryz.underlying61 (by kernel_rfl) op5
/-- WHAT IS LEFT. -/
def Pure : Prop := ∀ (a0 : List (Ty.T (.int .u8))), Ty.ok (.sl 5 (.int .u8)) a0 → (p7.F (a0, ())).run some = some (.one (.bool true), [])
theorem lifted (P : Pure) (os : Os) (started : os.Started) (H : Type) (enc : TypeId × Value → H) :
    ReturnsInHanded {} Tryz.checked os 7 .any (Rows.fnRewritesSpec.pre6 enc Tryz.prog Tryz.f7 Rows.fnRewritesRow.domain false) (Rows.fnRewritesSpec.post enc Tryz.prog Tryz.f7 false true false false) := by
  refine returnsInHanded_of_change_shaped (C := Tryz.checked) own started (by kernel_rfl) Tryz.func7
    (ChangeSpec.witness6 (enc := enc) (C := Tryz.checked) false ⟨#[], #[.slice none 0 0], []⟩ 8 (by kernel_rfl) (by kernel_rfl) (by kernel_rfl) (by kernel_rfl)) ?_
  intro W base args ds gs before hval0 hW hcnd hsz0 hsh _
  have hsz : (DataW.weightsEach Tryz.prog (Tryz.f7.params.toList ++ Rows.fnRewritesSpec.plain.varTypes Tryz.prog) (ds ++ gs)).all (· ≤ reachBytes) = true := hsz0
  have hval : ∀ (j : Nat) t v, Tryz.f7.params[j]? = some t → args[j]? = some v → Value.okWide Tryz.prog W .any base t v := hval0
  have hW' := hW
  obtain ⟨p, q, hA0, hV, rfl, hfz, hnd⟩ := hW
  have hA : DataW.TrodAll enc Tryz.prog W 0 (fun _ => true) true Tryz.f7.params.toList args.toList ds p := hA0
  rw [Tryz.params7] at hA hval hsz
  obtain ⟨v0, vs0, d0, ds0, p0, q0, hargs, rfl, rfl, h0, r0⟩ := trodAll_cons hA
  obtain ⟨rfl, rfl, rfl⟩ := trodAll_nil r0
  obtain rfl : args = #[v0] := by cases args; simp_all
  obtain ⟨rfl, rfl⟩ := trodVars_none hV
  have k0 := h0
  obtain ⟨a0, e0, w0⟩ := Np ae4 Tryz.underlying61 (hval 0 61 v0 rfl rfl) h0
  have h := P a0 w0
  refine (JM ok7 h hsh (vs := [v0]) (.cons e0 .nil) (TY rfl _)).mono fun e W' hh => ?_
  obtain ⟨he, bel⟩ := hh
  subst he
  exact ⟨_, rfl, _, _, _, [], _, [], hW', trodAll_mk1 (shut_bool Tryz.underlying4 _), (trodAll_cons_mk (Below.trod laidOut (by kernel_rfl) (of_decide_eq_true (by kernel_rfl)) k0 bel (X8 k0)) trodAll_mk0), rfl, bel.frame _, fun h => by cases h⟩
theorem Nq (P : Pure) : Rows.fnRewritesRow.holds Tryz.pinned (OpenSpec.ofChange Rows.fnRewritesSpec) :=
  OpenClaim.holds_of_wide 7 Tryz.f7 rfl rfl rfl rfl rfl rfl rfl ⟨rfl, rfl, rfl, rfl, rfl⟩ rfl rfl rfl rfl rfl Fac.named Tryz.func7 Fac.closed Fac.inst Fac.wrap
    (fun os started H enc _ => lifted P os started H enc)
end Go.Proofs.YtahlaccdpmddbaaGreat.fnRewrites
