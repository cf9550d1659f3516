-- Written by wip/fix.py (a program of this session) out of the print of this claim. NSqueezed
import Derived.Test.YtnbmifoebaoemaaPFnExactMostLeftx0
import Derived.Test.YtnbmifoebaoemaaPFnExactMostLeftx1
import Derived.Test.YtnbmifoebaoemaaCells
namespace Go.Proofs.Ytnbmifoebaoemaa.PFnExactMostLeft
open Go.RowKit Go.Proofs.YtnbmifoebaoemaaW.PrintWords Go.Proofs.YtnbmifoebaoemaaW.PrintLast Go.Proofs.YtnbmifoebaoemaaW.PrintMore Go.Proofs.Ytnbmifoebaoemaa.Cells
attribute [local go_sem] max2_int min2_int max_two min_two max_three min_three max_four min_four   -- for this text's walks alone
set_option linter.unusedVariables false
set_option linter.unusedSimpArgs false

/-! ### laws_toEffectS: function 34 -/
def laws_toEffectS.l0 : Nat → List (S54) → List (S63) → Int → Option ((List (S63)))
  | 0, _, _, _ => none
  | k + 1, x0, x3, x4 => if x4 < (x0.length : Int) then (if 0 ≤ x4 then ((laws_toEffect.f k ((rd_T54 x0 x4).f0) ((rd_T54 x0 x4).f1) ((rd_T54 x0 x4).f2) ((rd_T54 x0 x4).f3) ((rd_T54 x0 x4).f4.f0) ((rd_T54 x0 x4).f4.f1) ((rd_T54 x0 x4).f4.f2) ((rd_T54 x0 x4).f4.f3) ((rd_T54 x0 x4).f4.f4) ((rd_T54 x0 x4).f4.f5) ((rd_T54 x0 x4).f4.f6) ((rd_T54 x0 x4).f5.f0) ((rd_T54 x0 x4).f5.f1) ((rd_T54 x0 x4).f6.f0) ((rd_T54 x0 x4).f6.f1) ((rd_T54 x0 x4).f6.f2) ((rd_T54 x0 x4).f6.f3) ((rd_T54 x0 x4).f6.f4) ((rd_T54 x0 x4).f6.f5) ((rd_T54 x0 x4).f6.f6) ((rd_T54 x0 x4).f7) ((rd_T54 x0 x4).f8)).bind fun bt164 => (if x4 < (x3.length : Int) then (laws_toEffectS.l0 k x0 (x3.set (x4 : Int).toNat (⟨bt164.1, bt164.2.1, bt164.2.2.1, bt164.2.2.2.1, (⟨bt164.2.2.2.2.1, bt164.2.2.2.2.2.1, bt164.2.2.2.2.2.2.1, bt164.2.2.2.2.2.2.2.1, bt164.2.2.2.2.2.2.2.2.1, bt164.2.2.2.2.2.2.2.2.2.1, bt164.2.2.2.2.2.2.2.2.2.2.1⟩ : S57), (⟨bt164.2.2.2.2.2.2.2.2.2.2.2.1, bt164.2.2.2.2.2.2.2.2.2.2.2.2.1⟩ : S58), (⟨bt164.2.2.2.2.2.2.2.2.2.2.2.2.2.1, bt164.2.2.2.2.2.2.2.2.2.2.2.2.2.2.1, bt164.2.2.2.2.2.2.2.2.2.2.2.2.2.2.2.1, bt164.2.2.2.2.2.2.2.2.2.2.2.2.2.2.2.2.1, bt164.2.2.2.2.2.2.2.2.2.2.2.2.2.2.2.2.2.1, bt164.2.2.2.2.2.2.2.2.2.2.2.2.2.2.2.2.2.2.1, bt164.2.2.2.2.2.2.2.2.2.2.2.2.2.2.2.2.2.2.2.1⟩ : S61), bt164.2.2.2.2.2.2.2.2.2.2.2.2.2.2.2.2.2.2.2.2.1, bt164.2.2.2.2.2.2.2.2.2.2.2.2.2.2.2.2.2.2.2.2.2⟩ : S63)) (wrap64 (x4 + 1))) else (none))) else (none)) else (some x3)
def laws_toEffectS.f (k : Nat) (l0 : List (S54)) : Option ((List (S63))) := if 0 ≤ (l0.length : Int) then (if ((l0.length : Int) : Int).toNat ≤ 1466015503701 then (laws_toEffectS.l0 k l0 (List.replicate ((l0.length : Int) : Int).toNat z63) 0) else (none)) else (none)
theorem laws_toEffectS.mono_l : ∀ k, (∀ y0 y1 y2, LeO (laws_toEffectS.l0 k y0 y1 y2) (laws_toEffectS.l0 (k + 1) y0 y1 y2))
  | 0 => fun _ _ _ r h => by simp [laws_toEffectS.l0] at h
  | k + 1 => by
    have ih0 := laws_toEffectS.mono_l k
    · intro y0 y1 y2
      unfold laws_toEffectS.l0
      repeat' first
      | (with_reducible exact ih0 _ _ _)
      | (with_reducible exact laws_toEffect.mono _ _ _ _ _ _ _ _ _ _ _ _ _ _ _ _ _ _ _ _ _ _ _)
      | (with_reducible exact LeO.refl _)
      | (with_reducible exact LeO.none _)
      | (with_reducible refine LeO.ite ?_ ?_)
      | (with_reducible refine LeO.bind ?_ (fun _ => ?_))
      | exact ih0 _ _ _
      | exact laws_toEffect.mono _ _ _ _ _ _ _ _ _ _ _ _ _ _ _ _ _ _ _ _ _ _ _
      | exact LeO.none _
      | refine LeO.ite ?_ ?_
      | refine LeO.bind ?_ (fun _ => ?_)
theorem laws_toEffectS.mono : ∀ a0 k, LeO (laws_toEffectS.f k a0) (laws_toEffectS.f (k + 1) a0) := by
  intro a0 k
  have ih0 := laws_toEffectS.mono_l k
  unfold laws_toEffectS.f
  repeat' first
      | (with_reducible exact ih0 _ _ _)
      | (with_reducible exact laws_toEffect.mono _ _ _ _ _ _ _ _ _ _ _ _ _ _ _ _ _ _ _ _ _ _ _)
      | (with_reducible exact LeO.refl _)
      | (with_reducible exact LeO.none _)
      | (with_reducible refine LeO.ite ?_ ?_)
      | (with_reducible refine LeO.bind ?_ (fun _ => ?_))
      | exact ih0 _ _ _
      | exact laws_toEffect.mono _ _ _ _ _ _ _ _ _ _ _ _ _ _ _ _ _ _ _ _ _ _ _
      | exact LeO.none _
      | refine LeO.ite ?_ ?_
      | refine LeO.bind ?_ (fun _ => ?_)
set_option maxHeartbeats 8000000 in
set_option maxRecDepth 100000 in
theorem laws_toEffectS.calls (k : Nat) (A0 : Option Addr) (c0 : Nat) (l0 : List (S54)) (r : List (S63)) (w : World) (hr0 : Kd.C k54 w A0 l0.length l0) (hc0 : l0.length ≤ c0) (h : laws_toEffectS.f k l0 = some r) :
    Calls Try.prog 34 #[.slice A0 l0.length c0] w fun e w' => ∃ v0_ : Value, e = .returned (v0_) ∧ Kd.S k63 63 w' w.heap.size (fun _ => True) v0_ r ∧ Below w.heap.size w w' := by
  have hu54 := Try.underlying54
  have hu63 := Try.underlying63
  have HR0 := Aside0.mk hr0
  have HC0 := Aside0.mk hc0
  clear hr0 hc0
  have HB := Aside0.mk (Below.refl w.heap.size w)
  have H : (if 0 ≤ (l0.length : Int) then (if ((l0.length : Int) : Int).toNat ≤ 1466015503701 then (laws_toEffectS.l0 k l0 (List.replicate ((l0.length : Int) : Int).toNat z63) 0) else (none)) else (none)) = some r := h
  clear h
  by_cases c2 : 0 ≤ (l0.length : Int)
  · rw [if_pos c2] at H
    have c2b0 := eq_true c2
    have c2b1 : decide (0 ≤ (l0.length : Int)) = true := decide_eq_true c2
    clear c2
    by_cases c3 : ((l0.length : Int) : Int).toNat ≤ 1466015503701
    · rw [if_pos c3] at H
      have c3b0 := eq_true c3
      have c3b1 : decide (((l0.length : Int) : Int).toNat ≤ 1466015503701) = true := decide_eq_true c3
      clear c3
      obtain ⟨y160, hy160⟩ : ∃ y_ : List (S63), y_ = (List.replicate ((l0.length : Int) : Int).toNat z63) := ⟨_, rfl⟩
      replace H : (laws_toEffectS.l0 k l0 y160 0) = some r := by first | (rw [hy160]; with_reducible exact H) | (have H2_ := (Option.bind_some _ _).symm.trans H; rw [hy160]; with_reducible exact H2_) | (have H2_ := (Option.bind_some _ _).symm.trans H; with_reducible exact H2_) | with_reducible exact H | (rw [hy160]; exact H) | exact H
      have Ny160 := Aside0.mk hy160
      clear hy160
      have H' := Aside0.mk H
      clear H
      go_enter Try.func34, Try.ntmps34
      go_wp2_with (first | ((with_reducible refine gate_dst (N := 7) rfl ?_); refine Kd.S_make k63 _ 63 rfl (N := 7) rfl 71 _ _ rfl (l0.length : Int) rfl rfl Try.underlying71 (.agg #[(.int .i64 0), (.int .i64 0), (.int .i64 0), (.int .i64 0), (.int .i64 0), (.int .i64 0), (.int .i64 0), (.int .i64 0), (.int .i64 0), (.int .i64 0), (.int .i64 0), (.int .i64 0), (.int .i64 0), (.int .i64 0), (.int .i64 0), (.int .i64 0), (.int .i64 0), (.int .i64 0), (.bool false), (.slice none 0 0), (.int .i64 0), (.int .i64 0)]) 192 info63 rfl (by decide) (by omega) z63 (ok := fun _ => True) (okp := fun _ => True) (k63_mkM _ _ _ z63 (Kd.R_nil _ _ _ _ _)) (fun _ hk => hk) trivial (of_decide_eq_true (by first | (with_reducible assumption) | assumption)) (Nat.le_trans (Nat.mul_le_mul_right _ (of_decide_eq_true (by first | (with_reducible assumption) | assumption) : (l0.length : Int).toNat ≤ 1466015503701)) (by omega)) (Below.refl _ _) (Nat.le_refl _) ?_; intro v161 w4 ho5 hb hg_ hnew_; clear hg_ hnew_; (first | rw [← Ny160.out] at ho5 | (simp only [Int.reduceToNat] at ho5; rw [← Ny160.out] at ho5)); have n0_ := Aside0.mk (Kd.S_lower ho5 (below_size (by repeat (first | (with_reducible first | exact HB.out | apply below_alloc | apply pw_below_drewN | apply below_drew1) | exact HB.out)))); have n1_ := Aside0.mk (below_step (by repeat (first | (with_reducible first | exact HB.out | apply below_alloc | apply pw_below_drewN | apply below_drew1) | exact HB.out)) hb); clear HB; have HO162 := n0_; have HB := n1_; clear n0_ n1_; clear hb ho5))
      go_loopg [4] k (fun kq v4 w' => ∃ (x3_1 : List (S63)) (x4_1 : Int), v4 = .int .i64 x4_1 ∧ Aside0 (laws_toEffectS.l0 kq l0 x3_1 x4_1 = some r) ∧ Aside0 (kq ≤ k) ∧ Aside0 (Kd.S k63 63 w' w.heap.size (fun _ => True) v161 x3_1) ∧ Aside0 (Below w.heap.size w w'))
      case atStart => exact ⟨(y160), (0), (by first | rfl | (simp; done) | (simp [*]; done)), H', ⟨Nat.le_refl _⟩, ⟨by (with_reducible repeat (first | apply Kd.S_alloc | apply Kd.S_drewN | apply Kd.S_drew)); exact HO162.out⟩, ⟨by repeat (first | (with_reducible first | exact HB.out | apply below_alloc | apply pw_below_drewN | apply below_drew1) | exact HB.out)⟩⟩
      case round =>
        clear H'
        try clear c2
        try clear c2b0
        try clear c2b1
        try clear p2
        try clear c3
        try clear c3b0
        try clear c3b1
        obtain ⟨x3_1, x4_1, rfl, HA, HK1, HO_3, HB⟩ := hrel
        cases gk with
        | zero => exact absurd HA.out (by simp [laws_toEffectS.l0])
        | succ k1 =>
          have H := HA.out
          clear HA
          simp only [laws_toEffectS.l0] at H
          by_cases c6 : x4_1 < (l0.length : Int)
          · rw [if_pos c6] at H
            have c6b0 : decide (x4_1 < (l0.length : Int)) = true := decide_eq_true c6
            clear c6
            by_cases c7 : 0 ≤ x4_1
            · rw [if_pos c7] at H
              have c7b0 : decide (0 ≤ x4_1) = true := decide_eq_true c7
              clear c7
              replace H := Option.bind_eq_some_iff.mp H
              obtain ⟨⟨t164, t165, t166, t167, t168, t169, t170, t171, t172, t173, t174, t175, t176, t177, t178, t179, t180, t181, t182, t183, t186, t187⟩, A80, H⟩ := H
              replace H : (if x4_1 < (x3_1.length : Int) then (laws_toEffectS.l0 k1 l0 (x3_1.set (x4_1 : Int).toNat (⟨t164, t165, t166, t167, (⟨t168, t169, t170, t171, t172, t173, t174⟩ : S57), (⟨t175, t176⟩ : S58), (⟨t177, t178, t179, t180, t181, t182, t183⟩ : S61), t186, t187⟩ : S63)) (wrap64 (x4_1 + 1))) else (none)) = some r := H
              have A8 := Aside0.mk A80
              clear A80
              by_cases c9 : x4_1 < (x3_1.length : Int)
              · rw [if_pos c9] at H
                have c9b0 : decide (x4_1 < (x3_1.length : Int)) = true := decide_eq_true c9
                clear c9
                obtain ⟨y188, hy188⟩ : ∃ y_ : List (S63), y_ = (x3_1.set (x4_1 : Int).toNat (⟨t164, t165, t166, t167, (⟨t168, t169, t170, t171, t172, t173, t174⟩ : S57), (⟨t175, t176⟩ : S58), (⟨t177, t178, t179, t180, t181, t182, t183⟩ : S61), t186, t187⟩ : S63)) := ⟨_, rfl⟩
                replace H : (laws_toEffectS.l0 k1 l0 y188 (wrap64 (x4_1 + 1))) = some r := by first | (rw [hy188]; with_reducible exact H) | (have H2_ := (Option.bind_some _ _).symm.trans H; rw [hy188]; with_reducible exact H2_) | (have H2_ := (Option.bind_some _ _).symm.trans H; with_reducible exact H2_) | with_reducible exact H | (rw [hy188]; exact H) | exact H
                have Ny188 := Aside0.mk hy188
                clear hy188
                have H' := Aside0.mk H
                clear H
                have p163 : 0 ≤ (x4_1 : Int) := of_decide_eq_true (by first | (with_reducible assumption) | assumption)
                have q163 : x4_1 < (l0.length : Int) := of_decide_eq_true (by first | (with_reducible assumption) | assumption)
                obtain ⟨ad163, A163_19, c163_19, e163, hx163_0, hx163_1, hx163_2, hx163_3, hx163_4, hx163_5, hx163_6, hx163_7, hx163_8, hx163_9, hx163_10, hx163_11, hx163_12, hx163_13, hx163_14, hx163_15, hx163_16, hx163_17, hx163_18, hx163_19, hx163_20, hx163_21, hl163_19, hi163_19⟩ := at_T54 HR0.out x4_1 p163 q163
                cases e163
                replace hx163_0 := (HB.out.cell (World.block_lt_of_cell? w _ hx163_0)).trans hx163_0
                replace hx163_1 := (HB.out.cell (World.block_lt_of_cell? w _ hx163_1)).trans hx163_1
                replace hx163_2 := (HB.out.cell (World.block_lt_of_cell? w _ hx163_2)).trans hx163_2
                replace hx163_3 := (HB.out.cell (World.block_lt_of_cell? w _ hx163_3)).trans hx163_3
                replace hx163_4 := (HB.out.cell (World.block_lt_of_cell? w _ hx163_4)).trans hx163_4
                replace hx163_5 := (HB.out.cell (World.block_lt_of_cell? w _ hx163_5)).trans hx163_5
                replace hx163_6 := (HB.out.cell (World.block_lt_of_cell? w _ hx163_6)).trans hx163_6
                replace hx163_7 := (HB.out.cell (World.block_lt_of_cell? w _ hx163_7)).trans hx163_7
                replace hx163_8 := (HB.out.cell (World.block_lt_of_cell? w _ hx163_8)).trans hx163_8
                replace hx163_9 := (HB.out.cell (World.block_lt_of_cell? w _ hx163_9)).trans hx163_9
                replace hx163_10 := (HB.out.cell (World.block_lt_of_cell? w _ hx163_10)).trans hx163_10
                replace hx163_11 := (HB.out.cell (World.block_lt_of_cell? w _ hx163_11)).trans hx163_11
                replace hx163_12 := (HB.out.cell (World.block_lt_of_cell? w _ hx163_12)).trans hx163_12
                replace hx163_13 := (HB.out.cell (World.block_lt_of_cell? w _ hx163_13)).trans hx163_13
                replace hx163_14 := (HB.out.cell (World.block_lt_of_cell? w _ hx163_14)).trans hx163_14
                replace hx163_15 := (HB.out.cell (World.block_lt_of_cell? w _ hx163_15)).trans hx163_15
                replace hx163_16 := (HB.out.cell (World.block_lt_of_cell? w _ hx163_16)).trans hx163_16
                replace hx163_17 := (HB.out.cell (World.block_lt_of_cell? w _ hx163_17)).trans hx163_17
                replace hx163_18 := (HB.out.cell (World.block_lt_of_cell? w _ hx163_18)).trans hx163_18
                replace hx163_19 := (HB.out.cell (World.block_lt_of_cell? w _ hx163_19)).trans hx163_19
                replace hx163_20 := (HB.out.cell (World.block_lt_of_cell? w _ hx163_20)).trans hx163_20
                replace hx163_21 := (HB.out.cell (World.block_lt_of_cell? w _ hx163_21)).trans hx163_21
                have HR163_19 := Aside0.mk hi163_19
                have HC163_19 := Aside0.mk hl163_19
                clear hi163_19 hl163_19
                replace p163 := eq_true p163
                replace q163 := eq_true q163
                go_wp2_with (first | ((with_reducible refine gate_load (t := 54) rfl ?_); refine load_at rfl 54 _ rfl _ rfl _ _ Try.underlying54 rfl (by kernel_rfl) (ee_22 hx163_0 hx163_1 hx163_2 hx163_3 hx163_4 hx163_5 hx163_6 hx163_7 hx163_8 hx163_9 hx163_10 hx163_11 hx163_12 hx163_13 hx163_14 hx163_15 hx163_16 hx163_17 hx163_18 hx163_19 hx163_20 hx163_21) ?_) | ((with_reducible refine gate_callee (f := 28) rfl ?_); refine goesL_ (some 20) rfl rfl Try.func28 (by kernel_rfl) rfl #[.agg #[.int .i64 ((rd_T54 l0 x4_1).f0), .int .i64 ((rd_T54 l0 x4_1).f1), .int .i64 ((rd_T54 l0 x4_1).f2), .int .i64 ((rd_T54 l0 x4_1).f3), .int .i64 ((rd_T54 l0 x4_1).f4.f0), .int .i64 ((rd_T54 l0 x4_1).f4.f1), .int .i64 ((rd_T54 l0 x4_1).f4.f2), .int .i64 ((rd_T54 l0 x4_1).f4.f3), .int .i64 ((rd_T54 l0 x4_1).f4.f4), .int .i64 ((rd_T54 l0 x4_1).f4.f5), .int .i64 ((rd_T54 l0 x4_1).f4.f6), .int .i64 ((rd_T54 l0 x4_1).f5.f0), .int .i64 ((rd_T54 l0 x4_1).f5.f1), .int .i64 ((rd_T54 l0 x4_1).f6.f0), .int .i64 ((rd_T54 l0 x4_1).f6.f1), .int .i64 ((rd_T54 l0 x4_1).f6.f2), .int .i64 ((rd_T54 l0 x4_1).f6.f3), .int .i64 ((rd_T54 l0 x4_1).f6.f4), .bool ((rd_T54 l0 x4_1).f6.f5), .slice A163_19 ((rd_T54 l0 x4_1).f6.f6).length c163_19, .int .i64 ((rd_T54 l0 x4_1).f7), .int .i64 ((rd_T54 l0 x4_1).f8)]] rfl (by (try simp only [List.map_toArray, List.map_cons, List.map_nil]); first | done | rfl | (simp only [List.length_drop, List.length_take]; rfl)) ?_; (with_reducible refine (laws_toEffect.calls k1 ((rd_T54 l0 x4_1).f0) ((rd_T54 l0 x4_1).f1) ((rd_T54 l0 x4_1).f2) ((rd_T54 l0 x4_1).f3) ((rd_T54 l0 x4_1).f4.f0) ((rd_T54 l0 x4_1).f4.f1) ((rd_T54 l0 x4_1).f4.f2) ((rd_T54 l0 x4_1).f4.f3) ((rd_T54 l0 x4_1).f4.f4) ((rd_T54 l0 x4_1).f4.f5) ((rd_T54 l0 x4_1).f4.f6) ((rd_T54 l0 x4_1).f5.f0) ((rd_T54 l0 x4_1).f5.f1) ((rd_T54 l0 x4_1).f6.f0) ((rd_T54 l0 x4_1).f6.f1) ((rd_T54 l0 x4_1).f6.f2) ((rd_T54 l0 x4_1).f6.f3) ((rd_T54 l0 x4_1).f6.f4) ((rd_T54 l0 x4_1).f6.f5) _ _ ((rd_T54 l0 x4_1).f6.f6) ((rd_T54 l0 x4_1).f7) ((rd_T54 l0 x4_1).f8) t164 t165 t166 t167 t168 t169 t170 t171 t172 t173 t174 t175 t176 t177 t178 t179 t180 t181 t182 t183 t186 t187 _ ?side1 ?side2 A8.out).mono ?_); (case side1 => repeat (first | exact (Kd.C_below HR163_19.out HB.out) | (with_reducible refine Kd.C_alloc ?_ _) | (with_reducible refine Kd.C_drewN ?_ _) | (with_reducible refine Kd.C_drew ?_))); (case side2 => exact HC163_19.out); rintro e w11 ⟨v184, rfl, ho0, hb⟩; refine ⟨_, rfl, ?_⟩; have n0_ := Aside0.mk (Kd.S_elder' (by (with_reducible repeat (first | apply Kd.S_alloc | apply Kd.S_drewN | apply Kd.S_drew)); exact HO_3.out) (Kd.R_base ho0) hb); have n1_ := Aside0.mk (Kd.R_lower ho0 (below_size (by repeat (first | (with_reducible first | exact HB.out | apply below_alloc | apply pw_below_drewN | apply below_drew1) | exact HB.out)))); have n2_ := Aside0.mk (below_step (by repeat (first | (with_reducible first | exact HB.out | apply below_alloc | apply pw_below_drewN | apply below_drew1) | exact HB.out)) hb); clear HO_3; clear HB; have HO_3 := n0_; have HO185 := n1_; have HB := n2_; clear n0_ n1_ n2_; (try clear hb); (try clear hb2); (try clear hk); (try clear hi); (try clear ho0); have p10 : 0 ≤ (x4_1 : Int) := of_decide_eq_true (by first | (with_reducible assumption) | assumption); have q10 : (x4_1 : Int) < ((x3_1.length : Int) : Int) := of_decide_eq_true (by first | (with_reducible assumption) | assumption); obtain ⟨go10, co10, eo10, gb10, gl10, cl10, HG10⟩ := Kd.S_form HO_3.out (by omega); (first | cases eo10 | (injection eo10 with ea_ en_ ec_; (first | subst ea_ | (injection ea_ with ea_; subst ea_)); subst ec_; clear en_)); have GB10 := Aside0.mk gb10; have GG10 := Aside0.mk HG10; clear gb10 gl10 HG10; obtain ⟨_, ce10, hcl10, hM10, hcc10, hfr10, _, _⟩ := Kd.S_elem HO_3.out z63 (x4_1 : Int) p10 q10; obtain ⟨ve10_19, rfl, ge10_19⟩ := k63_openM hM10; (try clear hcl10); (try clear hcc10); (try clear hfr10); (try clear hM10); replace p10 := eq_true p10; replace q10 := eq_true q10; have n_ := Aside0.mk (Kd.S_mono (ok' := (fun k_ => some k_ ≠ (v184 : Value).ownBlock)) HO_3.out (fun k_ hk => hk.2)); clear HO_3; have HO_3 := n_; clear n_; have HX12 := Aside0.mk (show Kd.S k63 63 w11 w.heap.size (fun k_ => ((fun _ => True)) k_ ∧ ¬ ((fun k_ => some k_ = (v184 : Value).ownBlock)) k_) (.slice (some ⟨go10, 0, none⟩) x3_1.length co10) x3_1 from (by (with_reducible repeat (first | apply Kd.S_alloc | apply Kd.S_drewN | apply Kd.S_drew)); exact Kd.S_mono HO_3.out (fun k_ hk => ⟨trivial, fun e_ => hk e_⟩))); obtain ⟨oki12, ce12, hcl12, hM12, hcc12, hfr12, hoki12, hH12⟩ := Kd.S_elem HX12.out z63 (x4_1 : Int) (of_decide_eq_true (by first | (with_reducible assumption) | assumption)) (by have h_ : (x4_1 : Int) < ((x3_1.length : Int) : Int) := of_decide_eq_true (by first | (with_reducible assumption) | assumption); first | exact h_ | (have e_ := (Kd.S_reads' HO_3.out).1; omega) | simpa using h_); obtain ⟨ve12_19, rfl, ge12_19⟩ := k63_openM hM12; have HP12 := Kd.S_seg hH12 (of_decide_eq_true (by first | (with_reducible assumption) | assumption)) (by have h_ : (x4_1 : Int) < ((x3_1.length : Int) : Int) := of_decide_eq_true (by first | (with_reducible assumption) | assumption); first | exact h_ | (have e_ := (Kd.S_reads' HO_3.out).1; omega) | simpa using h_) (seg := [.int .i64 t164, .int .i64 t165, .int .i64 t166, .int .i64 t167, .int .i64 t168, .int .i64 t169, .int .i64 t170, .int .i64 t171, .int .i64 t172, .int .i64 t173, .int .i64 t174, .int .i64 t175, .int .i64 t176, .int .i64 t177, .int .i64 t178, .int .i64 t179, .int .i64 t180, .int .i64 t181, .bool t182, v184, .int .i64 t186, .int .i64 t187]) (j := 0) (show 22 ≤ 22 from by decide) (x' := (⟨t164, t165, t166, t167, (⟨t168, t169, t170, t171, t172, t173, t174⟩ : S57), (⟨t175, t176⟩ : S58), (⟨t177, t178, t179, t180, t181, t182, t183⟩ : S61), t186, t187⟩ : S63)) (k63_mkM _ _ _ (⟨t164, t165, t166, t167, (⟨t168, t169, t170, t171, t172, t173, t174⟩ : S57), (⟨t175, t176⟩ : S58), (⟨t177, t178, t179, t180, t181, t182, t183⟩ : S61), t186, t187⟩ : S63) (Kd.R_mono (Kd.R_tight rfl (Kd.R_mono (ok' := fun k_ => ((fun _ => True)) k_ ∧ k_ ≠ go10) (Kd.R_apart' (HO185.out) (Kd.S_typed HO_3.out) (by decide)) (fun k_ hk => ⟨trivial, fun e_ => (hk.2) (by rw [e_]; rfl)⟩))) (fun _ h_ => Or.inr (h_)))) (fun _ hk => hk) (fun k_ hk_ => ((Kd.R_mono (ok' := fun k_ => ((fun _ => True)) k_ ∧ k_ ≠ go10) (Kd.R_apart' (HO185.out) (Kd.S_typed HO_3.out) (by decide)) (fun k_ hk => ⟨trivial, fun e_ => (hk.2) (by rw [e_]; rfl)⟩))).1 k_ hk_.symm); (try clear hM12); (try clear hoki12); (try clear hH12)) | ((with_reducible refine gate_store (t := 63) (p := 21) rfl ?_); refine store_event (t := 63) (p := 21) (v := ?vo_w13) (w1 := (w11.setCells go10 ((x4_1 : Int).toNat * 22) [.int .i64 t164, .int .i64 t165, .int .i64 t166, .int .i64 t167, .int .i64 t168, .int .i64 t169, .int .i64 t170, .int .i64 t171, .int .i64 t172, .int .i64 t173, .int .i64 t174, .int .i64 t175, .int .i64 t176, .int .i64 t177, .int .i64 t178, .int .i64 t179, .int .i64 t180, .int .i64 t181, .bool t182, v184, .int .i64 t186, .int .i64 t187])) ?hg ?ho ?hn ?hr ?_; (case ho => rfl); (case hg => rfl); (case hn => rfl); (case hr => exact run_execOp_store 63 _ _ (by rfl) go10 ((x4_1 : Int).toNat * 22) (by rfl) [.int .i64 t164, .int .i64 t165, .int .i64 t166, .int .i64 t167, .int .i64 t168, .int .i64 t169, .int .i64 t170, .int .i64 t171, .int .i64 t172, .int .i64 t173, .int .i64 t174, .int .i64 t175, .int .i64 t176, .int .i64 t177, .int .i64 t178, .int .i64 t179, .int .i64 t180, .int .i64 t181, .bool t182, v184, .int .i64 t186, .int .i64 t187] _ (by rfl) (by kernel_rfl) (by rfl) hcc12 hfr12 (oo_22 rfl rfl rfl rfl rfl rfl rfl rfl rfl rfl rfl rfl rfl rfl rfl rfl rfl rfl rfl (one_of HO185.out) rfl rfl) (by rfl)); intro w13 hw; have hg : w11.grownBy w13 (some go10) := (by rw [hw]; exact HP12.2); have hp_ : Kd.S k63 63 w13 w.heap.size (fun _ => True) (.slice (some ⟨go10, 0, none⟩) x3_1.length co10) y188 := (by rw [hw, Ny188.out]; exact HP12.1); clear HP12; have n0_ := Aside0.mk (hp_); have n1_ := Aside0.mk ((by rw [hw]; exact below_setCells GB10.out _ _ _ (HB.out) : Below w.heap.size w w13)); clear HO_3; clear HB; clear HO185; have HO_3 := n0_; have HB := n1_; clear n0_ n1_; clear hg hw hp_))
                go_roundg k1
                case measure => have := HK1.out; omega
                case rel => exact ⟨(y188), (wrap64 (x4_1 + 1)), (by first | rfl | (simp; done) | (simp [*]; done)), H', ⟨by have := HK1.out; omega⟩, ⟨by (with_reducible repeat (first | apply Kd.S_alloc | apply Kd.S_drewN | apply Kd.S_drew)); exact HO_3.out⟩, ⟨by repeat (first | (with_reducible first | exact HB.out | apply below_alloc | apply pw_below_drewN | apply below_drew1) | exact HB.out)⟩⟩
              · rw [if_neg c9] at H
                exact absurd H (by simp)
            · rw [if_neg c7] at H
              exact absurd H (by simp)
          · rw [if_neg c6] at H
            have c6b0 : decide (x4_1 < (l0.length : Int)) = false := decide_eq_false c6
            clear c6
            obtain rfl := Option.some.inj H
            go_wp2
            go_ret
            exact ⟨_, by first | rfl | (simp [errW_none, errW_some] <;> rfl) | (simp [*, errW_none, errW_some] <;> rfl), by (with_reducible repeat (first | apply Kd.S_alloc | apply Kd.S_drewN | apply Kd.S_drew)); exact HO_3.out, by repeat (first | (with_reducible first | exact HB.out | apply below_alloc | apply pw_below_drewN | apply below_drew1) | exact HB.out)⟩
    · rw [if_neg c3] at H
      exact absurd H (by simp)
  · rw [if_neg c2] at H
    exact absurd H (by simp)

/-! ### impl_Upto: function 105 -/
def impl_Upto.f (a0 : Int) (a1 : Int) : Option (Int) := some (mx 0 (mn a0 a1))
set_option maxHeartbeats 8000000 in
set_option maxRecDepth 100000 in
theorem impl_Upto.calls (a0 : Int) (a1 : Int) (r : Int) (w : World) (h : impl_Upto.f a0 a1 = some r) :
    Calls Try.prog 105 #[.int .i64 a0, .int .i64 a1] w fun e w' => e = .returned (.int .i64 r) ∧ Below w.heap.size w w' := by
  have HB := Aside0.mk (Below.refl w.heap.size w)
  have H : (some (mx 0 (mn a0 a1))) = some r := h
  clear h
  obtain ⟨ji3, hji3⟩ : ∃ j_ : Int, (mn a0 a1) = j_ := ⟨_, rfl⟩
  replace H : (some (mx 0 (ji3))) = some r := by first | (rw [hji3] at H; exact H) | (simp only [hji3] at H ⊢; exact H)
  have hji3_ : (if a1 < a0 then a1 else a0) = ji3 := hji3
  obtain ⟨ji4, hji4⟩ : ∃ j_ : Int, (mx 0 (ji3)) = j_ := ⟨_, rfl⟩
  replace H : (some ji4) = some r := by first | (rw [hji4] at H; exact H) | (simp only [hji4] at H ⊢; exact H)
  have hji4_ : (if 0 < (ji3) then (ji3) else 0) = ji4 := hji4
  obtain rfl := Option.some.inj H
  go_enter Try.func105, Try.ntmps105
  go_wp2
  go_ret
  exact ⟨by first | rfl | (simp [errW_none, errW_some] <;> rfl) | (simp only [← hji3, ← hji4]; first | rfl | (simp [errW_none, errW_some] <;> rfl)) | (simp [*, errW_none, errW_some] <;> rfl), by repeat (first | (with_reducible first | exact HB.out | apply below_alloc | apply pw_below_drewN | apply below_drew1) | exact HB.out)⟩

/-! ### impl_Power: function 92 -/
def impl_Power.l0 : Nat → Int → Int → Int → Option (Int)
  | 0, _, _, _ => none
  | k + 1, x0, x1, x5 => if x1 > 0 then (if x5 < 2147483647 then (impl_Power.l0 k x0 (wrap64 (x1 - 1)) (mn (wrap64 (x5 * x0)) 2147483647)) else (some x5)) else (some x5)
def impl_Power.f (k : Nat) (a0 : Int) (a1 : Int) : Option (Int) := (impl_Upto.f a0 2147483647).bind fun t189 => (if t189 < 2 then (if a1 > 0 then (some t189) else (some 1)) else (impl_Power.l0 k t189 a1 1))
theorem impl_Power.mono_l : ∀ k, (∀ y0 y1 y2, LeO (impl_Power.l0 k y0 y1 y2) (impl_Power.l0 (k + 1) y0 y1 y2))
  | 0 => fun _ _ _ r h => by simp [impl_Power.l0] at h
  | k + 1 => by
    have ih0 := impl_Power.mono_l k
    · intro y0 y1 y2
      unfold impl_Power.l0
      repeat' first
      | (with_reducible exact ih0 _ _ _)
      | (with_reducible exact LeO.refl _)
      | (with_reducible exact LeO.none _)
      | (with_reducible refine LeO.ite ?_ ?_)
      | (with_reducible refine LeO.bind ?_ (fun _ => ?_))
      | exact ih0 _ _ _
      | exact LeO.none _
      | refine LeO.ite ?_ ?_
      | refine LeO.bind ?_ (fun _ => ?_)
theorem impl_Power.mono : ∀ a0 a1 k, LeO (impl_Power.f k a0 a1) (impl_Power.f (k + 1) a0 a1) := by
  intro a0 a1 k
  have ih0 := impl_Power.mono_l k
  unfold impl_Power.f
  repeat' first
      | (with_reducible exact ih0 _ _ _)
      | (with_reducible exact LeO.refl _)
      | (with_reducible exact LeO.none _)
      | (with_reducible refine LeO.ite ?_ ?_)
      | (with_reducible refine LeO.bind ?_ (fun _ => ?_))
      | exact ih0 _ _ _
      | exact LeO.none _
      | refine LeO.ite ?_ ?_
      | refine LeO.bind ?_ (fun _ => ?_)
set_option maxHeartbeats 8000000 in
set_option maxRecDepth 100000 in
theorem impl_Power.calls (k : Nat) (a0 : Int) (a1 : Int) (r : Int) (w : World) (h : impl_Power.f k a0 a1 = some r) :
    Calls Try.prog 92 #[.int .i64 a0, .int .i64 a1] w fun e w' => e = .returned (.int .i64 r) ∧ Below w.heap.size w w' := by
  have HB := Aside0.mk (Below.refl w.heap.size w)
  have H : ((impl_Upto.f a0 2147483647).bind fun t189 => (if t189 < 2 then (if a1 > 0 then (some t189) else (some 1)) else (impl_Power.l0 k t189 a1 1))) = some r := h
  clear h
  replace H := Option.bind_eq_some_iff.mp H
  obtain ⟨t189, A30, H⟩ := H
  replace H : (if t189 < 2 then (if a1 > 0 then (some t189) else (some 1)) else (impl_Power.l0 k t189 a1 1)) = some r := H
  have A3 := Aside0.mk A30
  clear A30
  by_cases c4 : t189 < 2
  · rw [if_pos c4] at H
    have c4b0 : decide (t189 < 2) = true := decide_eq_true c4
    clear c4
    by_cases c5 : a1 > 0
    · rw [if_pos c5] at H
      have c5b0 : decide (0 < a1) = true := decide_eq_true c5
      clear c5
      obtain rfl := Option.some.inj H
      go_enter Try.func92, Try.ntmps92
      go_wp2_with (first | ((with_reducible refine gate_callee (f := 105) rfl ?_); refine goesL_ (some 7) rfl rfl Try.func105 (by kernel_rfl) rfl #[.int .i64 a0, .int .i64 2147483647] rfl (by (try simp only [List.map_toArray, List.map_cons, List.map_nil]); first | done | rfl | (simp only [List.length_drop, List.length_take]; rfl)) ?_; (with_reducible refine (impl_Upto.calls a0 2147483647 t189 _ A3.out).mono ?_); rintro e w6 ⟨rfl, hb⟩; refine ⟨_, rfl, ?_⟩; have n0_ := Aside0.mk (below_step (by repeat (first | (with_reducible first | exact HB.out | apply below_alloc | apply pw_below_drewN | apply below_drew1) | exact HB.out)) hb); clear HB; have HB := n0_; clear n0_; (try clear hb); (try clear hb2); (try clear hk); (try clear hi)))
      go_ret
      exact ⟨by first | rfl | (simp [errW_none, errW_some] <;> rfl) | (simp [*, errW_none, errW_some] <;> rfl), by repeat (first | (with_reducible first | exact HB.out | apply below_alloc | apply pw_below_drewN | apply below_drew1) | exact HB.out)⟩
    · rw [if_neg c5] at H
      have c5b0 : decide (0 < a1) = false := decide_eq_false c5
      clear c5
      obtain rfl := Option.some.inj H
      go_enter Try.func92, Try.ntmps92
      go_wp2_with (first | ((with_reducible refine gate_callee (f := 105) rfl ?_); refine goesL_ (some 7) rfl rfl Try.func105 (by kernel_rfl) rfl #[.int .i64 a0, .int .i64 2147483647] rfl (by (try simp only [List.map_toArray, List.map_cons, List.map_nil]); first | done | rfl | (simp only [List.length_drop, List.length_take]; rfl)) ?_; (with_reducible refine (impl_Upto.calls a0 2147483647 t189 _ A3.out).mono ?_); rintro e w7 ⟨rfl, hb⟩; refine ⟨_, rfl, ?_⟩; have n0_ := Aside0.mk (below_step (by repeat (first | (with_reducible first | exact HB.out | apply below_alloc | apply pw_below_drewN | apply below_drew1) | exact HB.out)) hb); clear HB; have HB := n0_; clear n0_; (try clear hb); (try clear hb2); (try clear hk); (try clear hi)))
      go_ret
      exact ⟨by first | rfl | (simp [errW_none, errW_some] <;> rfl) | (simp [*, errW_none, errW_some] <;> rfl), by repeat (first | (with_reducible first | exact HB.out | apply below_alloc | apply pw_below_drewN | apply below_drew1) | exact HB.out)⟩
  · rw [if_neg c4] at H
    have c4b0 : decide (t189 < 2) = false := decide_eq_false c4
    clear c4
    have H' := Aside0.mk H
    clear H
    go_enter Try.func92, Try.ntmps92
    go_wp2_with (first | ((with_reducible refine gate_callee (f := 105) rfl ?_); refine goesL_ (some 7) rfl rfl Try.func105 (by kernel_rfl) rfl #[.int .i64 a0, .int .i64 2147483647] rfl (by (try simp only [List.map_toArray, List.map_cons, List.map_nil]); first | done | rfl | (simp only [List.length_drop, List.length_take]; rfl)) ?_; (with_reducible refine (impl_Upto.calls a0 2147483647 t189 _ A3.out).mono ?_); rintro e w8 ⟨rfl, hb⟩; refine ⟨_, rfl, ?_⟩; have n0_ := Aside0.mk (below_step (by repeat (first | (with_reducible first | exact HB.out | apply below_alloc | apply pw_below_drewN | apply below_drew1) | exact HB.out)) hb); clear HB; have HB := n0_; clear n0_; (try clear hb); (try clear hb2); (try clear hk); (try clear hi)))
    go_loopg [1, 5] k (fun kq v1 v5 w' => ∃ (x1_1 : Int) (x5_1 : Int), v1 = .int .i64 x1_1 ∧ v5 = .int .i64 x5_1 ∧ Aside0 (impl_Power.l0 kq t189 x1_1 x5_1 = some r) ∧ Aside0 (kq ≤ k) ∧ Aside0 (Below w.heap.size w w'))
    case atStart => exact ⟨(a1), (1), (by first | rfl | (simp; done) | (simp [*]; done)), (by first | rfl | (simp; done) | (simp [*]; done)), H', ⟨Nat.le_refl _⟩, ⟨by repeat (first | (with_reducible first | exact HB.out | apply below_alloc | apply pw_below_drewN | apply below_drew1) | exact HB.out)⟩⟩
    case round =>
      clear H'
      try clear c1
      try clear p2
      try clear c4
      try clear c4b0
      try clear c5
      try clear c5b0
      obtain ⟨x1_1, x5_1, rfl, rfl, HA, HK1, HB⟩ := hrel
      cases gk with
      | zero => exact absurd HA.out (by simp [impl_Power.l0])
      | succ k1 =>
        have H := HA.out
        clear HA
        simp only [impl_Power.l0] at H
        by_cases c9 : x1_1 > 0
        · rw [if_pos c9] at H
          have c9b0 : decide (0 < x1_1) = true := decide_eq_true c9
          clear c9
          by_cases c10 : x5_1 < 2147483647
          · rw [if_pos c10] at H
            have c10b0 : decide (x5_1 < 2147483647) = true := decide_eq_true c10
            clear c10
            obtain ⟨ji11, hji11⟩ : ∃ j_ : Int, (mn (wrap64 (x5_1 * t189)) 2147483647) = j_ := ⟨_, rfl⟩
            replace H : (impl_Power.l0 k1 t189 (wrap64 (x1_1 - 1)) ji11) = some r := by first | (rw [hji11] at H; exact H) | (simp only [hji11] at H ⊢; exact H)
            have hji11_ : (if 2147483647 < (wrap64 (x5_1 * t189)) then 2147483647 else (wrap64 (x5_1 * t189))) = ji11 := hji11
            have H' := Aside0.mk H
            clear H
            go_wp2
            go_roundg k1
            case measure => have := HK1.out; omega
            case rel => exact ⟨(wrap64 (x1_1 - 1)), (ji11), (by first | rfl | (simp; done) | (simp [*]; done)), (by first | rfl | (simp; done) | (simp only [← hji11] <;> (first | rfl | simp)) | (simp [*]; done)), H', ⟨by have := HK1.out; omega⟩, ⟨by repeat (first | (with_reducible first | exact HB.out | apply below_alloc | apply pw_below_drewN | apply below_drew1) | exact HB.out)⟩⟩
          · rw [if_neg c10] at H
            have c10b0 : decide (x5_1 < 2147483647) = false := decide_eq_false c10
            clear c10
            obtain rfl := Option.some.inj H
            go_wp2
            go_ret
            exact ⟨by first | rfl | (simp [errW_none, errW_some] <;> rfl) | (simp [*, errW_none, errW_some] <;> rfl), by repeat (first | (with_reducible first | exact HB.out | apply below_alloc | apply pw_below_drewN | apply below_drew1) | exact HB.out)⟩
        · rw [if_neg c9] at H
          have c9b0 : decide (0 < x1_1) = false := decide_eq_false c9
          clear c9
          obtain rfl := Option.some.inj H
          go_wp2
          go_ret
          exact ⟨by first | rfl | (simp [errW_none, errW_some] <;> rfl) | (simp [*, errW_none, errW_some] <;> rfl), by repeat (first | (with_reducible first | exact HB.out | apply below_alloc | apply pw_below_drewN | apply below_drew1) | exact HB.out)⟩

/-! ### impl_Usable: function 93 -/
def impl_Usable.l0 : Nat → Int → List (S63) → Int → Int → Option (Int)
  | 0, _, _, _, _ => none
  | k + 1, x3, x6, x7, x8 => if x8 < x7 then (if 0 ≤ x8 then (if x8 < (x6.length : Int) then (if ((rd_T63 x6 x8).f8) = 0 then (impl_Usable.l0 k x3 x6 x7 (wrap64 (x8 + 1))) else (impl_Usable.l0 k (wrap64 (x3 + 1)) x6 x7 (wrap64 (x8 + 1)))) else (none)) else (none)) else (some x3)
def impl_Usable.f (k : Nat) (l0 : List (S63)) : Option (Int) := impl_Usable.l0 k 0 l0 (l0.length : Int) 0
theorem impl_Usable.mono_l : ∀ k, (∀ y0 y1 y2 y3, LeO (impl_Usable.l0 k y0 y1 y2 y3) (impl_Usable.l0 (k + 1) y0 y1 y2 y3))
  | 0 => fun _ _ _ _ r h => by simp [impl_Usable.l0] at h
  | k + 1 => by
    have ih0 := impl_Usable.mono_l k
    · intro y0 y1 y2 y3
      unfold impl_Usable.l0
      repeat' first
      | (with_reducible exact ih0 _ _ _ _)
      | (with_reducible exact LeO.refl _)
      | (with_reducible exact LeO.none _)
      | (with_reducible refine LeO.ite ?_ ?_)
      | (with_reducible refine LeO.bind ?_ (fun _ => ?_))
      | exact ih0 _ _ _ _
      | exact LeO.none _
      | refine LeO.ite ?_ ?_
      | refine LeO.bind ?_ (fun _ => ?_)
theorem impl_Usable.mono : ∀ a0 k, LeO (impl_Usable.f k a0) (impl_Usable.f (k + 1) a0) := by
  intro a0 k
  have ih0 := impl_Usable.mono_l k
  unfold impl_Usable.f
  repeat' first
      | (with_reducible exact ih0 _ _ _ _)
      | (with_reducible exact LeO.refl _)
      | (with_reducible exact LeO.none _)
      | (with_reducible refine LeO.ite ?_ ?_)
      | (with_reducible refine LeO.bind ?_ (fun _ => ?_))
      | exact ih0 _ _ _ _
      | exact LeO.none _
      | refine LeO.ite ?_ ?_
      | refine LeO.bind ?_ (fun _ => ?_)
set_option maxHeartbeats 8000000 in
set_option maxRecDepth 100000 in
theorem impl_Usable.calls (k : Nat) (A0 : Option Addr) (c0 : Nat) (l0 : List (S63)) (r : Int) (w : World) (hr0 : Kd.C k63 w A0 l0.length l0) (hc0 : l0.length ≤ c0) (h : impl_Usable.f k l0 = some r) :
    Calls Try.prog 93 #[.slice A0 l0.length c0] w fun e w' => e = .returned (.int .i64 r) ∧ Below w.heap.size w w' := by
  have hu63 := Try.underlying63
  have HR0 := Aside0.mk hr0
  have HC0 := Aside0.mk hc0
  clear hr0 hc0
  have HB := Aside0.mk (Below.refl w.heap.size w)
  have H : (impl_Usable.l0 k 0 l0 (l0.length : Int) 0) = some r := h
  clear h
  have H' := Aside0.mk H
  clear H
  go_enter Try.func93, Try.ntmps93
  go_wp2
  go_loopg [3, 8] k (fun kq v3 v8 w' => ∃ (x3_1 : Int) (x8_1 : Int), v3 = .int .i64 x3_1 ∧ v8 = .int .i64 x8_1 ∧ Aside0 (impl_Usable.l0 kq x3_1 l0 (l0.length : Int) x8_1 = some r) ∧ Aside0 (kq ≤ k) ∧ Aside0 (Below w.heap.size w w'))
  case atStart => exact ⟨(0), (0), (by first | rfl | (simp; done) | (simp [*]; done)), (by first | rfl | (simp; done) | (simp [*]; done)), H', ⟨Nat.le_refl _⟩, ⟨by repeat (first | (with_reducible first | exact HB.out | apply below_alloc | apply pw_below_drewN | apply below_drew1) | exact HB.out)⟩⟩
  case round =>
    clear H'
    obtain ⟨x3_1, x8_1, rfl, rfl, HA, HK1, HB⟩ := hrel
    cases gk with
    | zero => exact absurd HA.out (by simp [impl_Usable.l0])
    | succ k1 =>
      have H := HA.out
      clear HA
      simp only [impl_Usable.l0] at H
      by_cases c2 : x8_1 < (l0.length : Int)
      · rw [if_pos c2] at H
        have c2b0 : decide (x8_1 < (l0.length : Int)) = true := decide_eq_true c2
        clear c2
        by_cases c3 : 0 ≤ x8_1
        · rw [if_pos c3] at H
          have c3b0 : decide (0 ≤ x8_1) = true := decide_eq_true c3
          clear c3
          by_cases c4 : x8_1 < (l0.length : Int)
          · rw [if_pos c4] at H
            have c4b0 : decide (x8_1 < (l0.length : Int)) = true := decide_eq_true c4
            clear c4
            by_cases c5 : ((rd_T63 l0 x8_1).f8) = 0
            · rw [if_pos c5] at H
              have c5b0 : (((rd_T63 l0 x8_1).f8) == 0) = true := beq_iff_eq.mpr c5
              have c5b1 : (((rd_T63 l0 x8_1).f8) != 0) = false := bne_eq_false_iff_eq.mpr c5
              clear c5
              have H' := Aside0.mk H
              clear H
              have p190 : 0 ≤ (x8_1 : Int) := of_decide_eq_true (by first | (with_reducible assumption) | assumption)
              have q190 : x8_1 < (l0.length : Int) := of_decide_eq_true (by first | (with_reducible assumption) | assumption)
              obtain ⟨ad190, A190_19, c190_19, e190, hx190_0, hx190_1, hx190_2, hx190_3, hx190_4, hx190_5, hx190_6, hx190_7, hx190_8, hx190_9, hx190_10, hx190_11, hx190_12, hx190_13, hx190_14, hx190_15, hx190_16, hx190_17, hx190_18, hx190_19, hx190_20, hx190_21, hl190_19, hi190_19⟩ := at_T63 HR0.out x8_1 p190 q190
              cases e190
              replace hx190_0 := (HB.out.cell (World.block_lt_of_cell? w _ hx190_0)).trans hx190_0
              replace hx190_1 := (HB.out.cell (World.block_lt_of_cell? w _ hx190_1)).trans hx190_1
              replace hx190_2 := (HB.out.cell (World.block_lt_of_cell? w _ hx190_2)).trans hx190_2
              replace hx190_3 := (HB.out.cell (World.block_lt_of_cell? w _ hx190_3)).trans hx190_3
              replace hx190_4 := (HB.out.cell (World.block_lt_of_cell? w _ hx190_4)).trans hx190_4
              replace hx190_5 := (HB.out.cell (World.block_lt_of_cell? w _ hx190_5)).trans hx190_5
              replace hx190_6 := (HB.out.cell (World.block_lt_of_cell? w _ hx190_6)).trans hx190_6
              replace hx190_7 := (HB.out.cell (World.block_lt_of_cell? w _ hx190_7)).trans hx190_7
              replace hx190_8 := (HB.out.cell (World.block_lt_of_cell? w _ hx190_8)).trans hx190_8
              replace hx190_9 := (HB.out.cell (World.block_lt_of_cell? w _ hx190_9)).trans hx190_9
              replace hx190_10 := (HB.out.cell (World.block_lt_of_cell? w _ hx190_10)).trans hx190_10
              replace hx190_11 := (HB.out.cell (World.block_lt_of_cell? w _ hx190_11)).trans hx190_11
              replace hx190_12 := (HB.out.cell (World.block_lt_of_cell? w _ hx190_12)).trans hx190_12
              replace hx190_13 := (HB.out.cell (World.block_lt_of_cell? w _ hx190_13)).trans hx190_13
              replace hx190_14 := (HB.out.cell (World.block_lt_of_cell? w _ hx190_14)).trans hx190_14
              replace hx190_15 := (HB.out.cell (World.block_lt_of_cell? w _ hx190_15)).trans hx190_15
              replace hx190_16 := (HB.out.cell (World.block_lt_of_cell? w _ hx190_16)).trans hx190_16
              replace hx190_17 := (HB.out.cell (World.block_lt_of_cell? w _ hx190_17)).trans hx190_17
              replace hx190_18 := (HB.out.cell (World.block_lt_of_cell? w _ hx190_18)).trans hx190_18
              replace hx190_19 := (HB.out.cell (World.block_lt_of_cell? w _ hx190_19)).trans hx190_19
              replace hx190_20 := (HB.out.cell (World.block_lt_of_cell? w _ hx190_20)).trans hx190_20
              replace hx190_21 := (HB.out.cell (World.block_lt_of_cell? w _ hx190_21)).trans hx190_21
              have HR190_19 := Aside0.mk hi190_19
              have HC190_19 := Aside0.mk hl190_19
              clear hi190_19 hl190_19
              replace p190 := eq_true p190
              replace q190 := eq_true q190
              go_wp2_with (first | ((with_reducible refine gate_load (t := 63) rfl ?_); refine load_at rfl 63 _ rfl _ rfl _ _ Try.underlying63 rfl (by kernel_rfl) (ee_22 hx190_0 hx190_1 hx190_2 hx190_3 hx190_4 hx190_5 hx190_6 hx190_7 hx190_8 hx190_9 hx190_10 hx190_11 hx190_12 hx190_13 hx190_14 hx190_15 hx190_16 hx190_17 hx190_18 hx190_19 hx190_20 hx190_21) ?_) | ((with_reducible refine gate_load (t := 3) rfl ?_); refine bx_load rfl _ (by rfl) gb191 _ (by rfl) BK191.out _ Try.underlying3 rfl _ (by rfl) ?_) | ((with_reducible refine gate_load (t := 4) rfl ?_); refine bx_load rfl _ (by rfl) gb191 _ (by rfl) BK191.out _ Try.underlying4 rfl _ (by rfl) ?_) | ((with_reducible refine gate_load (t := 59) rfl ?_); refine bx_load rfl _ (by rfl) gb191 _ (by rfl) BK191.out _ Try.underlying59 rfl _ (by rfl) ?_) | ((with_reducible refine gate_load (t := 57) rfl ?_); refine bx_loadn rfl _ (by rfl) gb191 4 (by rfl) BK191.out _ Try.underlying57 rfl 7 (by kernel_rfl) _ (by rfl) (by rfl) ?_) | ((with_reducible refine gate_load (t := 58) rfl ?_); refine bx_loadn rfl _ (by rfl) gb191 11 (by rfl) BK191.out _ Try.underlying58 rfl 2 (by kernel_rfl) _ (by rfl) (by rfl) ?_) | ((with_reducible refine gate_load (t := 61) rfl ?_); refine bx_loadn rfl _ (by rfl) gb191 13 (by rfl) BK191.out _ Try.underlying61 rfl 7 (by kernel_rfl) _ (by rfl) (by rfl) ?_) | ((with_reducible refine gate_load (t := 63) rfl ?_); refine load_box rfl 63 _ rfl gb191 rfl Try.underlying63 rfl BK191.out (by kernel_rfl) ?_) | ((with_reducible refine gate_st (t := 63) rfl ?_); refine bx_store rfl rfl _ _ (by rfl) gb191 0 (by rfl) BK191.out _ (by rfl) (by kernel_rfl) (by exact Nat.le_of_ble_eq_true rfl) (by exact oo_22 rfl rfl rfl rfl rfl rfl rfl rfl rfl rfl rfl rfl rfl rfl rfl rfl rfl rfl rfl rfl rfl rfl) ?_; intro w_ hbk_ hg_; simp only [List.take_succ_cons, List.take_zero, List.drop_succ_cons, List.drop_zero, List.cons_append, List.nil_append, List.length_cons, List.length_nil, Nat.reduceAdd] at hbk_; have hlt_ := blk_lt BK191.out; have nb_ := Aside0.mk hbk_; have nh_ := Aside0.mk (bx_below HB.out hg_ GE191.out hlt_); clear BK191 HB; have BK191 := nb_; have HB := nh_; clear nb_ nh_ hbk_ hg_ hlt_) | ((with_reducible refine gate_dst (N := 5) rfl ?_); refine box_event ?hg (N := 5) ?hd (cs := #[.int .i64 0, .int .i64 0, .int .i64 0, .int .i64 0, .int .i64 0, .int .i64 0, .int .i64 0, .int .i64 0, .int .i64 0, .int .i64 0, .int .i64 0, .int .i64 0, .int .i64 0, .int .i64 0, .int .i64 0, .int .i64 0, .int .i64 0, .int .i64 0, .bool false, .slice none 0 0, .int .i64 0, .int .i64 0]) (t := 63) ?hr ?_; (case hd => rfl); (case hg => rfl); (case hr => first | (go_simp; done) | (go_simp; rfl)); intro gb191 hg w6 hbox hb; have n0_ := Aside0.mk (below_step (by repeat (first | (with_reducible first | exact HB.out | apply below_alloc | apply pw_below_drewN | apply below_drew1) | exact HB.out)) hb); have n1_ := Aside0.mk (hbox); have n2_ := Aside0.mk ((by rw [hg]; exact (below_size (by repeat (first | (with_reducible first | exact HB.out | apply below_alloc | apply pw_below_drewN | apply below_drew1) | exact HB.out))) : w.heap.size ≤ gb191)); have n3_ := n2_; clear HB; have HB := n0_; have BK191 := n1_; have GW191 := n2_; have GE191 := n3_; clear n0_ n1_ n2_ n3_; clear hb hbox hg))  -- boxed
              go_roundg k1
              case measure => have := HK1.out; omega
              case rel => exact ⟨(x3_1), (wrap64 (x8_1 + 1)), (by first | rfl | (simp; done) | (simp [*]; done)), (by first | rfl | (simp; done) | (simp [*]; done)), H', ⟨by have := HK1.out; omega⟩, ⟨by repeat (first | (with_reducible first | exact HB.out | apply below_alloc | apply pw_below_drewN | apply below_drew1 | refine below_set ?_ GE191.out) | exact HB.out)⟩⟩
            · rw [if_neg c5] at H
              have c5b0 : (((rd_T63 l0 x8_1).f8) == 0) = false := beq_eq_false_iff_ne.mpr c5
              have c5b1 : (((rd_T63 l0 x8_1).f8) != 0) = true := bne_iff_ne.mpr c5
              have H' := Aside0.mk H
              clear H
              have p190 : 0 ≤ (x8_1 : Int) := of_decide_eq_true (by first | (with_reducible assumption) | assumption)
              have q190 : x8_1 < (l0.length : Int) := of_decide_eq_true (by first | (with_reducible assumption) | assumption)
              obtain ⟨ad190, A190_19, c190_19, e190, hx190_0, hx190_1, hx190_2, hx190_3, hx190_4, hx190_5, hx190_6, hx190_7, hx190_8, hx190_9, hx190_10, hx190_11, hx190_12, hx190_13, hx190_14, hx190_15, hx190_16, hx190_17, hx190_18, hx190_19, hx190_20, hx190_21, hl190_19, hi190_19⟩ := at_T63 HR0.out x8_1 p190 q190
              cases e190
              replace hx190_0 := (HB.out.cell (World.block_lt_of_cell? w _ hx190_0)).trans hx190_0
              replace hx190_1 := (HB.out.cell (World.block_lt_of_cell? w _ hx190_1)).trans hx190_1
              replace hx190_2 := (HB.out.cell (World.block_lt_of_cell? w _ hx190_2)).trans hx190_2
              replace hx190_3 := (HB.out.cell (World.block_lt_of_cell? w _ hx190_3)).trans hx190_3
              replace hx190_4 := (HB.out.cell (World.block_lt_of_cell? w _ hx190_4)).trans hx190_4
              replace hx190_5 := (HB.out.cell (World.block_lt_of_cell? w _ hx190_5)).trans hx190_5
              replace hx190_6 := (HB.out.cell (World.block_lt_of_cell? w _ hx190_6)).trans hx190_6
              replace hx190_7 := (HB.out.cell (World.block_lt_of_cell? w _ hx190_7)).trans hx190_7
              replace hx190_8 := (HB.out.cell (World.block_lt_of_cell? w _ hx190_8)).trans hx190_8
              replace hx190_9 := (HB.out.cell (World.block_lt_of_cell? w _ hx190_9)).trans hx190_9
              replace hx190_10 := (HB.out.cell (World.block_lt_of_cell? w _ hx190_10)).trans hx190_10
              replace hx190_11 := (HB.out.cell (World.block_lt_of_cell? w _ hx190_11)).trans hx190_11
              replace hx190_12 := (HB.out.cell (World.block_lt_of_cell? w _ hx190_12)).trans hx190_12
              replace hx190_13 := (HB.out.cell (World.block_lt_of_cell? w _ hx190_13)).trans hx190_13
              replace hx190_14 := (HB.out.cell (World.block_lt_of_cell? w _ hx190_14)).trans hx190_14
              replace hx190_15 := (HB.out.cell (World.block_lt_of_cell? w _ hx190_15)).trans hx190_15
              replace hx190_16 := (HB.out.cell (World.block_lt_of_cell? w _ hx190_16)).trans hx190_16
              replace hx190_17 := (HB.out.cell (World.block_lt_of_cell? w _ hx190_17)).trans hx190_17
              replace hx190_18 := (HB.out.cell (World.block_lt_of_cell? w _ hx190_18)).trans hx190_18
              replace hx190_19 := (HB.out.cell (World.block_lt_of_cell? w _ hx190_19)).trans hx190_19
              replace hx190_20 := (HB.out.cell (World.block_lt_of_cell? w _ hx190_20)).trans hx190_20
              replace hx190_21 := (HB.out.cell (World.block_lt_of_cell? w _ hx190_21)).trans hx190_21
              have HR190_19 := Aside0.mk hi190_19
              have HC190_19 := Aside0.mk hl190_19
              clear hi190_19 hl190_19
              replace p190 := eq_true p190
              replace q190 := eq_true q190
              go_wp2_with (first | ((with_reducible refine gate_load (t := 63) rfl ?_); refine load_at rfl 63 _ rfl _ rfl _ _ Try.underlying63 rfl (by kernel_rfl) (ee_22 hx190_0 hx190_1 hx190_2 hx190_3 hx190_4 hx190_5 hx190_6 hx190_7 hx190_8 hx190_9 hx190_10 hx190_11 hx190_12 hx190_13 hx190_14 hx190_15 hx190_16 hx190_17 hx190_18 hx190_19 hx190_20 hx190_21) ?_) | ((with_reducible refine gate_load (t := 3) rfl ?_); refine bx_load rfl _ (by rfl) gb191 _ (by rfl) BK191.out _ Try.underlying3 rfl _ (by rfl) ?_) | ((with_reducible refine gate_load (t := 4) rfl ?_); refine bx_load rfl _ (by rfl) gb191 _ (by rfl) BK191.out _ Try.underlying4 rfl _ (by rfl) ?_) | ((with_reducible refine gate_load (t := 59) rfl ?_); refine bx_load rfl _ (by rfl) gb191 _ (by rfl) BK191.out _ Try.underlying59 rfl _ (by rfl) ?_) | ((with_reducible refine gate_load (t := 57) rfl ?_); refine bx_loadn rfl _ (by rfl) gb191 4 (by rfl) BK191.out _ Try.underlying57 rfl 7 (by kernel_rfl) _ (by rfl) (by rfl) ?_) | ((with_reducible refine gate_load (t := 58) rfl ?_); refine bx_loadn rfl _ (by rfl) gb191 11 (by rfl) BK191.out _ Try.underlying58 rfl 2 (by kernel_rfl) _ (by rfl) (by rfl) ?_) | ((with_reducible refine gate_load (t := 61) rfl ?_); refine bx_loadn rfl _ (by rfl) gb191 13 (by rfl) BK191.out _ Try.underlying61 rfl 7 (by kernel_rfl) _ (by rfl) (by rfl) ?_) | ((with_reducible refine gate_load (t := 63) rfl ?_); refine load_box rfl 63 _ rfl gb191 rfl Try.underlying63 rfl BK191.out (by kernel_rfl) ?_) | ((with_reducible refine gate_st (t := 63) rfl ?_); refine bx_store rfl rfl _ _ (by rfl) gb191 0 (by rfl) BK191.out _ (by rfl) (by kernel_rfl) (by exact Nat.le_of_ble_eq_true rfl) (by exact oo_22 rfl rfl rfl rfl rfl rfl rfl rfl rfl rfl rfl rfl rfl rfl rfl rfl rfl rfl rfl rfl rfl rfl) ?_; intro w_ hbk_ hg_; simp only [List.take_succ_cons, List.take_zero, List.drop_succ_cons, List.drop_zero, List.cons_append, List.nil_append, List.length_cons, List.length_nil, Nat.reduceAdd] at hbk_; have hlt_ := blk_lt BK191.out; have nb_ := Aside0.mk hbk_; have nh_ := Aside0.mk (bx_below HB.out hg_ GE191.out hlt_); clear BK191 HB; have BK191 := nb_; have HB := nh_; clear nb_ nh_ hbk_ hg_ hlt_) | ((with_reducible refine gate_dst (N := 5) rfl ?_); refine box_event ?hg (N := 5) ?hd (cs := #[.int .i64 0, .int .i64 0, .int .i64 0, .int .i64 0, .int .i64 0, .int .i64 0, .int .i64 0, .int .i64 0, .int .i64 0, .int .i64 0, .int .i64 0, .int .i64 0, .int .i64 0, .int .i64 0, .int .i64 0, .int .i64 0, .int .i64 0, .int .i64 0, .bool false, .slice none 0 0, .int .i64 0, .int .i64 0]) (t := 63) ?hr ?_; (case hd => rfl); (case hg => rfl); (case hr => first | (go_simp; done) | (go_simp; rfl)); intro gb191 hg w8 hbox hb; have n0_ := Aside0.mk (below_step (by repeat (first | (with_reducible first | exact HB.out | apply below_alloc | apply pw_below_drewN | apply below_drew1) | exact HB.out)) hb); have n1_ := Aside0.mk (hbox); have n2_ := Aside0.mk ((by rw [hg]; exact (below_size (by repeat (first | (with_reducible first | exact HB.out | apply below_alloc | apply pw_below_drewN | apply below_drew1) | exact HB.out))) : w.heap.size ≤ gb191)); have n3_ := n2_; clear HB; have HB := n0_; have BK191 := n1_; have GW191 := n2_; have GE191 := n3_; clear n0_ n1_ n2_ n3_; clear hb hbox hg))  -- boxed
              go_roundg k1
              case measure => have := HK1.out; omega
              case rel => exact ⟨(wrap64 (x3_1 + 1)), (wrap64 (x8_1 + 1)), (by first | rfl | (simp; done) | (simp [*]; done)), (by first | rfl | (simp; done) | (simp [*]; done)), H', ⟨by have := HK1.out; omega⟩, ⟨by repeat (first | (with_reducible first | exact HB.out | apply below_alloc | apply pw_below_drewN | apply below_drew1 | refine below_set ?_ GE191.out) | exact HB.out)⟩⟩
          · rw [if_neg c4] at H
            exact absurd H (by simp)
        · rw [if_neg c3] at H
          exact absurd H (by simp)
      · rw [if_neg c2] at H
        have c2b0 : decide (x8_1 < (l0.length : Int)) = false := decide_eq_false c2
        clear c2
        obtain rfl := Option.some.inj H
        go_wp2
        go_ret
        exact ⟨by first | rfl | (simp [errW_none, errW_some] <;> rfl) | (simp [*, errW_none, errW_some] <;> rfl), by repeat (first | (with_reducible first | exact HB.out | apply below_alloc | apply pw_below_drewN | apply below_drew1) | exact HB.out)⟩

/-! ### impl_MostLeft: function 35 -/
def impl_MostLeft.f (k : Nat) (l0 : List (S63)) : Option (Int) := (impl_Usable.f k l0).bind fun t192 => ((impl_Power.f k 3 t192).bind fun t193 => (some t193))
theorem impl_MostLeft.mono : ∀ a0 k, LeO (impl_MostLeft.f k a0) (impl_MostLeft.f (k + 1) a0) := by
  intro a0 k
  unfold impl_MostLeft.f
  repeat' first
      | (with_reducible exact impl_Power.mono _ _ _)
      | (with_reducible exact impl_Usable.mono _ _)
      | (with_reducible exact LeO.refl _)
      | (with_reducible exact LeO.none _)
      | (with_reducible refine LeO.ite ?_ ?_)
      | (with_reducible refine LeO.bind ?_ (fun _ => ?_))
      | exact impl_Power.mono _ _ _
      | exact impl_Usable.mono _ _
      | exact LeO.none _
      | refine LeO.ite ?_ ?_
      | refine LeO.bind ?_ (fun _ => ?_)
set_option maxHeartbeats 8000000 in
set_option maxRecDepth 100000 in
theorem impl_MostLeft.calls (k : Nat) (A0 : Option Addr) (c0 : Nat) (l0 : List (S63)) (r : Int) (w : World) (hr0 : Kd.C k63 w A0 l0.length l0) (hc0 : l0.length ≤ c0) (h : impl_MostLeft.f k l0 = some r) :
    Calls Try.prog 35 #[.slice A0 l0.length c0] w fun e w' => e = .returned (.int .i64 r) ∧ Below w.heap.size w w' := by
  have HR0 := Aside0.mk hr0
  have HC0 := Aside0.mk hc0
  clear hr0 hc0
  have HB := Aside0.mk (Below.refl w.heap.size w)
  have H : ((impl_Usable.f k l0).bind fun t192 => ((impl_Power.f k 3 t192).bind fun t193 => (some t193))) = some r := h
  clear h
  replace H := Option.bind_eq_some_iff.mp H
  obtain ⟨t192, A20, H⟩ := H
  replace H : ((impl_Power.f k 3 t192).bind fun t193 => (some t193)) = some r := H
  have A2 := Aside0.mk A20
  clear A20
  replace H := Option.bind_eq_some_iff.mp H
  obtain ⟨t193, A30, H⟩ := H
  replace H : (some t193) = some r := H
  have A3 := Aside0.mk A30
  clear A30
  obtain rfl := Option.some.inj H
  go_enter Try.func35, Try.ntmps35
  go_wp2_with (first | ((with_reducible refine gate_callee (f := 93) rfl ?_); refine goesL_ (some 4) rfl rfl Try.func93 (by kernel_rfl) rfl #[.slice A0 l0.length c0] rfl (by (try simp only [List.map_toArray, List.map_cons, List.map_nil]); first | done | rfl | (simp only [List.length_drop, List.length_take]; rfl)) ?_; (with_reducible refine (impl_Usable.calls k _ _ l0 t192 _ ?side1 ?side2 A2.out).mono ?_); (case side1 => repeat (first | exact HR0.out | (with_reducible refine Kd.C_alloc ?_ _) | (with_reducible refine Kd.C_drewN ?_ _) | (with_reducible refine Kd.C_drew ?_))); (case side2 => exact HC0.out); rintro e w4 ⟨rfl, hb⟩; refine ⟨_, rfl, ?_⟩; have n0_ := Aside0.mk (below_step (by repeat (first | (with_reducible first | exact HB.out | apply below_alloc | apply pw_below_drewN | apply below_drew1) | exact HB.out)) hb); clear HB; have HB := n0_; clear n0_; (try clear hb); (try clear hb2); (try clear hk); (try clear hi)) | ((with_reducible refine gate_callee (f := 92) rfl ?_); refine goesL_ (some 5) rfl rfl Try.func92 (by kernel_rfl) rfl #[.int .i64 3, .int .i64 t192] rfl (by (try simp only [List.map_toArray, List.map_cons, List.map_nil]); first | done | rfl | (simp only [List.length_drop, List.length_take]; rfl)) ?_; (with_reducible refine (impl_Power.calls k 3 t192 t193 _ A3.out).mono ?_); rintro e w5 ⟨rfl, hb⟩; refine ⟨_, rfl, ?_⟩; have n0_ := Aside0.mk (below_step (by repeat (first | (with_reducible first | exact HB.out | apply below_alloc | apply pw_below_drewN | apply below_drew1) | exact HB.out)) hb); clear HB; have HB := n0_; clear n0_; (try clear hb); (try clear hb2); (try clear hk); (try clear hi)))
  go_ret
  exact ⟨by first | rfl | (simp [errW_none, errW_some] <;> rfl) | (simp [*, errW_none, errW_some] <;> rfl), by repeat (first | (with_reducible first | exact HB.out | apply below_alloc | apply pw_below_drewN | apply below_drew1) | exact HB.out)⟩

/-! ### laws_eqPat: function 86 -/
def laws_eqPat.f (a0_0 : Int) (a0_1 : Int) (a0_2 : Int) (a0_3 : Int) (a0_4 : Int) (a0_5 : Int) (a0_6 : Int) (a1_0 : Int) (a1_1 : Int) (a1_2 : Int) (a1_3 : Int) (a1_4 : Int) (a1_5 : Int) (a1_6 : Int) : Option (Bool) := if a0_0 = a1_0 then (if a0_1 = a1_1 then (if a0_2 = a1_2 then (if a0_3 = a1_3 then (if a0_4 = a1_4 then (if a0_5 = a1_5 then (if a0_6 = a1_6 then (some true) else (some false)) else (some false)) else (some false)) else (some false)) else (some false)) else (some false)) else (some false)
set_option maxHeartbeats 8000000 in
set_option maxRecDepth 100000 in
theorem laws_eqPat.calls (a0_0 : Int) (a0_1 : Int) (a0_2 : Int) (a0_3 : Int) (a0_4 : Int) (a0_5 : Int) (a0_6 : Int) (a1_0 : Int) (a1_1 : Int) (a1_2 : Int) (a1_3 : Int) (a1_4 : Int) (a1_5 : Int) (a1_6 : Int) (r : Bool) (w : World) (h : laws_eqPat.f a0_0 a0_1 a0_2 a0_3 a0_4 a0_5 a0_6 a1_0 a1_1 a1_2 a1_3 a1_4 a1_5 a1_6 = some r) :
    Calls Try.prog 86 #[.agg #[.int .i64 a0_0, .int .i64 a0_1, .int .i64 a0_2, .int .i64 a0_3, .int .i64 a0_4, .int .i64 a0_5, .int .i64 a0_6], .agg #[.int .i64 a1_0, .int .i64 a1_1, .int .i64 a1_2, .int .i64 a1_3, .int .i64 a1_4, .int .i64 a1_5, .int .i64 a1_6]] w fun e w' => e = .returned (.bool r) ∧ Below w.heap.size w w' := by
  have hu57 := Try.underlying57
  have HB := Aside0.mk (Below.refl w.heap.size w)
  have H : (if a0_0 = a1_0 then (if a0_1 = a1_1 then (if a0_2 = a1_2 then (if a0_3 = a1_3 then (if a0_4 = a1_4 then (if a0_5 = a1_5 then (if a0_6 = a1_6 then (some true) else (some false)) else (some false)) else (some false)) else (some false)) else (some false)) else (some false)) else (some false)) = some r := h
  clear h
  by_cases c3 : a0_0 = a1_0
  · rw [if_pos c3] at H
    have c3b0 : (a0_0 == a1_0) = true := beq_iff_eq.mpr c3
    have c3b1 : (a0_0 != a1_0) = false := bne_eq_false_iff_eq.mpr c3
    clear c3
    by_cases c4 : a0_1 = a1_1
    · rw [if_pos c4] at H
      have c4b0 : (a0_1 == a1_1) = true := beq_iff_eq.mpr c4
      have c4b1 : (a0_1 != a1_1) = false := bne_eq_false_iff_eq.mpr c4
      clear c4
      by_cases c5 : a0_2 = a1_2
      · rw [if_pos c5] at H
        have c5b0 : (a0_2 == a1_2) = true := beq_iff_eq.mpr c5
        have c5b1 : (a0_2 != a1_2) = false := bne_eq_false_iff_eq.mpr c5
        clear c5
        by_cases c6 : a0_3 = a1_3
        · rw [if_pos c6] at H
          have c6b0 : (a0_3 == a1_3) = true := beq_iff_eq.mpr c6
          have c6b1 : (a0_3 != a1_3) = false := bne_eq_false_iff_eq.mpr c6
          clear c6
          by_cases c7 : a0_4 = a1_4
          · rw [if_pos c7] at H
            have c7b0 : (a0_4 == a1_4) = true := beq_iff_eq.mpr c7
            have c7b1 : (a0_4 != a1_4) = false := bne_eq_false_iff_eq.mpr c7
            clear c7
            by_cases c8 : a0_5 = a1_5
            · rw [if_pos c8] at H
              have c8b0 : (a0_5 == a1_5) = true := beq_iff_eq.mpr c8
              have c8b1 : (a0_5 != a1_5) = false := bne_eq_false_iff_eq.mpr c8
              clear c8
              by_cases c9 : a0_6 = a1_6
              · rw [if_pos c9] at H
                have c9b0 : (a0_6 == a1_6) = true := beq_iff_eq.mpr c9
                have c9b1 : (a0_6 != a1_6) = false := bne_eq_false_iff_eq.mpr c9
                clear c9
                obtain rfl := Option.some.inj H
                go_enter Try.func86, Try.ntmps86
                go_wp2_with (first | ((with_reducible refine gate_load (t := 3) rfl ?_); refine bx_load rfl _ (by rfl) gb194 _ (by rfl) BK194.out _ Try.underlying3 rfl _ (by rfl) ?_) | ((with_reducible refine gate_load (t := 57) rfl ?_); refine load_box rfl 57 _ rfl gb194 rfl Try.underlying57 rfl BK194.out (by kernel_rfl) ?_) | ((with_reducible refine gate_load (t := 3) rfl ?_); refine bx_load rfl _ (by rfl) gb195 _ (by rfl) BK195.out _ Try.underlying3 rfl _ (by rfl) ?_) | ((with_reducible refine gate_load (t := 57) rfl ?_); refine load_box rfl 57 _ rfl gb195 rfl Try.underlying57 rfl BK195.out (by kernel_rfl) ?_) | ((with_reducible refine gate_st (t := 57) rfl ?_); refine bx_store rfl rfl _ _ (by rfl) gb194 0 (by rfl) BK194.out _ (by rfl) (by kernel_rfl) (by exact Nat.le_of_ble_eq_true rfl) (by exact oo_7 rfl rfl rfl rfl rfl rfl rfl) ?_; intro w_ hbk_ hg_; simp only [List.take_succ_cons, List.take_zero, List.drop_succ_cons, List.drop_zero, List.cons_append, List.nil_append, List.length_cons, List.length_nil, Nat.reduceAdd] at hbk_; have hlt_ := blk_lt BK194.out; (try (have nc_ := Aside0.mk (bx_other BK195.out hg_ NB195_194.out); clear BK195; have BK195 := nc_; clear nc_)); have nb_ := Aside0.mk hbk_; have nh_ := Aside0.mk (bx_below HB.out hg_ GE194.out hlt_); clear BK194 HB; have BK194 := nb_; have HB := nh_; clear nb_ nh_ hbk_ hg_ hlt_) | ((with_reducible refine gate_st (t := 57) rfl ?_); refine bx_store rfl rfl _ _ (by rfl) gb195 0 (by rfl) BK195.out _ (by rfl) (by kernel_rfl) (by exact Nat.le_of_ble_eq_true rfl) (by exact oo_7 rfl rfl rfl rfl rfl rfl rfl) ?_; intro w_ hbk_ hg_; simp only [List.take_succ_cons, List.take_zero, List.drop_succ_cons, List.drop_zero, List.cons_append, List.nil_append, List.length_cons, List.length_nil, Nat.reduceAdd] at hbk_; have hlt_ := blk_lt BK195.out; (try (have nc_ := Aside0.mk (bx_other BK194.out hg_ NB194_195.out); clear BK194; have BK194 := nc_; clear nc_)); have nb_ := Aside0.mk hbk_; have nh_ := Aside0.mk (bx_below HB.out hg_ GE195.out hlt_); clear BK195 HB; have BK195 := nb_; have HB := nh_; clear nb_ nh_ hbk_ hg_ hlt_) | ((with_reducible refine gate_dst (N := 2) rfl ?_); refine box_event ?hg (N := 2) ?hd (cs := #[.int .i64 a0_0, .int .i64 a0_1, .int .i64 a0_2, .int .i64 a0_3, .int .i64 a0_4, .int .i64 a0_5, .int .i64 a0_6]) (t := 57) ?hr ?_; (case hd => rfl); (case hg => rfl); (case hr => first | (go_simp; done) | (go_simp; rfl)); intro gb194 hg w10 hbox hb; have n0_ := Aside0.mk (below_step (by repeat (first | (with_reducible first | exact HB.out | apply below_alloc | apply pw_below_drewN | apply below_drew1) | exact HB.out)) hb); have n1_ := Aside0.mk (hbox); have n2_ := Aside0.mk ((by rw [hg]; exact (below_size (by repeat (first | (with_reducible first | exact HB.out | apply below_alloc | apply pw_below_drewN | apply below_drew1) | exact HB.out))) : w.heap.size ≤ gb194)); have n3_ := n2_; clear HB; have HB := n0_; have BK194 := n1_; have GW194 := n2_; have GE194 := n3_; clear n0_ n1_ n2_ n3_; clear hb hbox hg) | ((with_reducible refine gate_dst (N := 3) rfl ?_); refine box_event ?hg (N := 3) ?hd (cs := #[.int .i64 a1_0, .int .i64 a1_1, .int .i64 a1_2, .int .i64 a1_3, .int .i64 a1_4, .int .i64 a1_5, .int .i64 a1_6]) (t := 57) ?hr ?_; (case hd => rfl); (case hg => rfl); (case hr => first | (go_simp; done) | (go_simp; rfl)); intro gb195 hg w11 hbox hb; have n0_ := Aside0.mk (blk_below BK194.out hb); have n1_ := Aside0.mk (below_step (by repeat (first | (with_reducible first | exact HB.out | apply below_alloc | apply pw_below_drewN | apply below_drew1 | refine below_set ?_ GE194.out) | exact HB.out)) hb); have n2_ := Aside0.mk (hbox); have n3_ := Aside0.mk ((by rw [hg]; exact (below_size (by repeat (first | (with_reducible first | exact HB.out | apply below_alloc | apply pw_below_drewN | apply below_drew1 | refine below_set ?_ GE194.out) | exact HB.out))) : w.heap.size ≤ gb195)); have n4_ := n3_; have n5_ := Aside0.mk ((by rw [hg]; exact Nat.ne_of_lt (blk_lt BK194.out) : gb194 ≠ gb195)); have n6_ := Aside0.mk ((by rw [hg]; exact Nat.ne_of_gt (blk_lt BK194.out) : gb195 ≠ gb194)); clear BK194; clear HB; have BK194 := n0_; have HB := n1_; have BK195 := n2_; have GW195 := n3_; have GE195 := n4_; have NB194_195 := n5_; have NB195_194 := n6_; clear n0_ n1_ n2_ n3_ n4_ n5_ n6_; clear hb hbox hg))  -- boxed
                go_ret
                exact ⟨by first | rfl | (simp [errW_none, errW_some] <;> rfl) | (simp [*, errW_none, errW_some] <;> rfl), by repeat (first | (with_reducible first | exact HB.out | apply below_alloc | apply pw_below_drewN | apply below_drew1 | refine below_set ?_ GE194.out | refine below_set ?_ GE195.out) | exact HB.out)⟩
              · rw [if_neg c9] at H
                have c9b0 : (a0_6 == a1_6) = false := beq_eq_false_iff_ne.mpr c9
                have c9b1 : (a0_6 != a1_6) = true := bne_iff_ne.mpr c9
                obtain rfl := Option.some.inj H
                go_enter Try.func86, Try.ntmps86
                go_wp2_with (first | ((with_reducible refine gate_load (t := 3) rfl ?_); refine bx_load rfl _ (by rfl) gb194 _ (by rfl) BK194.out _ Try.underlying3 rfl _ (by rfl) ?_) | ((with_reducible refine gate_load (t := 57) rfl ?_); refine load_box rfl 57 _ rfl gb194 rfl Try.underlying57 rfl BK194.out (by kernel_rfl) ?_) | ((with_reducible refine gate_load (t := 3) rfl ?_); refine bx_load rfl _ (by rfl) gb195 _ (by rfl) BK195.out _ Try.underlying3 rfl _ (by rfl) ?_) | ((with_reducible refine gate_load (t := 57) rfl ?_); refine load_box rfl 57 _ rfl gb195 rfl Try.underlying57 rfl BK195.out (by kernel_rfl) ?_) | ((with_reducible refine gate_st (t := 57) rfl ?_); refine bx_store rfl rfl _ _ (by rfl) gb194 0 (by rfl) BK194.out _ (by rfl) (by kernel_rfl) (by exact Nat.le_of_ble_eq_true rfl) (by exact oo_7 rfl rfl rfl rfl rfl rfl rfl) ?_; intro w_ hbk_ hg_; simp only [List.take_succ_cons, List.take_zero, List.drop_succ_cons, List.drop_zero, List.cons_append, List.nil_append, List.length_cons, List.length_nil, Nat.reduceAdd] at hbk_; have hlt_ := blk_lt BK194.out; (try (have nc_ := Aside0.mk (bx_other BK195.out hg_ NB195_194.out); clear BK195; have BK195 := nc_; clear nc_)); have nb_ := Aside0.mk hbk_; have nh_ := Aside0.mk (bx_below HB.out hg_ GE194.out hlt_); clear BK194 HB; have BK194 := nb_; have HB := nh_; clear nb_ nh_ hbk_ hg_ hlt_) | ((with_reducible refine gate_st (t := 57) rfl ?_); refine bx_store rfl rfl _ _ (by rfl) gb195 0 (by rfl) BK195.out _ (by rfl) (by kernel_rfl) (by exact Nat.le_of_ble_eq_true rfl) (by exact oo_7 rfl rfl rfl rfl rfl rfl rfl) ?_; intro w_ hbk_ hg_; simp only [List.take_succ_cons, List.take_zero, List.drop_succ_cons, List.drop_zero, List.cons_append, List.nil_append, List.length_cons, List.length_nil, Nat.reduceAdd] at hbk_; have hlt_ := blk_lt BK195.out; (try (have nc_ := Aside0.mk (bx_other BK194.out hg_ NB194_195.out); clear BK194; have BK194 := nc_; clear nc_)); have nb_ := Aside0.mk hbk_; have nh_ := Aside0.mk (bx_below HB.out hg_ GE195.out hlt_); clear BK195 HB; have BK195 := nb_; have HB := nh_; clear nb_ nh_ hbk_ hg_ hlt_) | ((with_reducible refine gate_dst (N := 2) rfl ?_); refine box_event ?hg (N := 2) ?hd (cs := #[.int .i64 a0_0, .int .i64 a0_1, .int .i64 a0_2, .int .i64 a0_3, .int .i64 a0_4, .int .i64 a0_5, .int .i64 a0_6]) (t := 57) ?hr ?_; (case hd => rfl); (case hg => rfl); (case hr => first | (go_simp; done) | (go_simp; rfl)); intro gb194 hg w15 hbox hb; have n0_ := Aside0.mk (below_step (by repeat (first | (with_reducible first | exact HB.out | apply below_alloc | apply pw_below_drewN | apply below_drew1) | exact HB.out)) hb); have n1_ := Aside0.mk (hbox); have n2_ := Aside0.mk ((by rw [hg]; exact (below_size (by repeat (first | (with_reducible first | exact HB.out | apply below_alloc | apply pw_below_drewN | apply below_drew1) | exact HB.out))) : w.heap.size ≤ gb194)); have n3_ := n2_; clear HB; have HB := n0_; have BK194 := n1_; have GW194 := n2_; have GE194 := n3_; clear n0_ n1_ n2_ n3_; clear hb hbox hg) | ((with_reducible refine gate_dst (N := 3) rfl ?_); refine box_event ?hg (N := 3) ?hd (cs := #[.int .i64 a1_0, .int .i64 a1_1, .int .i64 a1_2, .int .i64 a1_3, .int .i64 a1_4, .int .i64 a1_5, .int .i64 a1_6]) (t := 57) ?hr ?_; (case hd => rfl); (case hg => rfl); (case hr => first | (go_simp; done) | (go_simp; rfl)); intro gb195 hg w16 hbox hb; have n0_ := Aside0.mk (blk_below BK194.out hb); have n1_ := Aside0.mk (below_step (by repeat (first | (with_reducible first | exact HB.out | apply below_alloc | apply pw_below_drewN | apply below_drew1 | refine below_set ?_ GE194.out) | exact HB.out)) hb); have n2_ := Aside0.mk (hbox); have n3_ := Aside0.mk ((by rw [hg]; exact (below_size (by repeat (first | (with_reducible first | exact HB.out | apply below_alloc | apply pw_below_drewN | apply below_drew1 | refine below_set ?_ GE194.out) | exact HB.out))) : w.heap.size ≤ gb195)); have n4_ := n3_; have n5_ := Aside0.mk ((by rw [hg]; exact Nat.ne_of_lt (blk_lt BK194.out) : gb194 ≠ gb195)); have n6_ := Aside0.mk ((by rw [hg]; exact Nat.ne_of_gt (blk_lt BK194.out) : gb195 ≠ gb194)); clear BK194; clear HB; have BK194 := n0_; have HB := n1_; have BK195 := n2_; have GW195 := n3_; have GE195 := n4_; have NB194_195 := n5_; have NB195_194 := n6_; clear n0_ n1_ n2_ n3_ n4_ n5_ n6_; clear hb hbox hg))  -- boxed
                go_ret
                exact ⟨by first | rfl | (simp [errW_none, errW_some] <;> rfl) | (simp [*, errW_none, errW_some] <;> rfl), by repeat (first | (with_reducible first | exact HB.out | apply below_alloc | apply pw_below_drewN | apply below_drew1 | refine below_set ?_ GE194.out | refine below_set ?_ GE195.out) | exact HB.out)⟩
            · rw [if_neg c8] at H
              have c8b0 : (a0_5 == a1_5) = false := beq_eq_false_iff_ne.mpr c8
              have c8b1 : (a0_5 != a1_5) = true := bne_iff_ne.mpr c8
              obtain rfl := Option.some.inj H
              go_enter Try.func86, Try.ntmps86
              go_wp2_with (first | ((with_reducible refine gate_load (t := 3) rfl ?_); refine bx_load rfl _ (by rfl) gb194 _ (by rfl) BK194.out _ Try.underlying3 rfl _ (by rfl) ?_) | ((with_reducible refine gate_load (t := 57) rfl ?_); refine load_box rfl 57 _ rfl gb194 rfl Try.underlying57 rfl BK194.out (by kernel_rfl) ?_) | ((with_reducible refine gate_load (t := 3) rfl ?_); refine bx_load rfl _ (by rfl) gb195 _ (by rfl) BK195.out _ Try.underlying3 rfl _ (by rfl) ?_) | ((with_reducible refine gate_load (t := 57) rfl ?_); refine load_box rfl 57 _ rfl gb195 rfl Try.underlying57 rfl BK195.out (by kernel_rfl) ?_) | ((with_reducible refine gate_st (t := 57) rfl ?_); refine bx_store rfl rfl _ _ (by rfl) gb194 0 (by rfl) BK194.out _ (by rfl) (by kernel_rfl) (by exact Nat.le_of_ble_eq_true rfl) (by exact oo_7 rfl rfl rfl rfl rfl rfl rfl) ?_; intro w_ hbk_ hg_; simp only [List.take_succ_cons, List.take_zero, List.drop_succ_cons, List.drop_zero, List.cons_append, List.nil_append, List.length_cons, List.length_nil, Nat.reduceAdd] at hbk_; have hlt_ := blk_lt BK194.out; (try (have nc_ := Aside0.mk (bx_other BK195.out hg_ NB195_194.out); clear BK195; have BK195 := nc_; clear nc_)); have nb_ := Aside0.mk hbk_; have nh_ := Aside0.mk (bx_below HB.out hg_ GE194.out hlt_); clear BK194 HB; have BK194 := nb_; have HB := nh_; clear nb_ nh_ hbk_ hg_ hlt_) | ((with_reducible refine gate_st (t := 57) rfl ?_); refine bx_store rfl rfl _ _ (by rfl) gb195 0 (by rfl) BK195.out _ (by rfl) (by kernel_rfl) (by exact Nat.le_of_ble_eq_true rfl) (by exact oo_7 rfl rfl rfl rfl rfl rfl rfl) ?_; intro w_ hbk_ hg_; simp only [List.take_succ_cons, List.take_zero, List.drop_succ_cons, List.drop_zero, List.cons_append, List.nil_append, List.length_cons, List.length_nil, Nat.reduceAdd] at hbk_; have hlt_ := blk_lt BK195.out; (try (have nc_ := Aside0.mk (bx_other BK194.out hg_ NB194_195.out); clear BK194; have BK194 := nc_; clear nc_)); have nb_ := Aside0.mk hbk_; have nh_ := Aside0.mk (bx_below HB.out hg_ GE195.out hlt_); clear BK195 HB; have BK195 := nb_; have HB := nh_; clear nb_ nh_ hbk_ hg_ hlt_) | ((with_reducible refine gate_dst (N := 2) rfl ?_); refine box_event ?hg (N := 2) ?hd (cs := #[.int .i64 a0_0, .int .i64 a0_1, .int .i64 a0_2, .int .i64 a0_3, .int .i64 a0_4, .int .i64 a0_5, .int .i64 a0_6]) (t := 57) ?hr ?_; (case hd => rfl); (case hg => rfl); (case hr => first | (go_simp; done) | (go_simp; rfl)); intro gb194 hg w20 hbox hb; have n0_ := Aside0.mk (below_step (by repeat (first | (with_reducible first | exact HB.out | apply below_alloc | apply pw_below_drewN | apply below_drew1) | exact HB.out)) hb); have n1_ := Aside0.mk (hbox); have n2_ := Aside0.mk ((by rw [hg]; exact (below_size (by repeat (first | (with_reducible first | exact HB.out | apply below_alloc | apply pw_below_drewN | apply below_drew1) | exact HB.out))) : w.heap.size ≤ gb194)); have n3_ := n2_; clear HB; have HB := n0_; have BK194 := n1_; have GW194 := n2_; have GE194 := n3_; clear n0_ n1_ n2_ n3_; clear hb hbox hg) | ((with_reducible refine gate_dst (N := 3) rfl ?_); refine box_event ?hg (N := 3) ?hd (cs := #[.int .i64 a1_0, .int .i64 a1_1, .int .i64 a1_2, .int .i64 a1_3, .int .i64 a1_4, .int .i64 a1_5, .int .i64 a1_6]) (t := 57) ?hr ?_; (case hd => rfl); (case hg => rfl); (case hr => first | (go_simp; done) | (go_simp; rfl)); intro gb195 hg w21 hbox hb; have n0_ := Aside0.mk (blk_below BK194.out hb); have n1_ := Aside0.mk (below_step (by repeat (first | (with_reducible first | exact HB.out | apply below_alloc | apply pw_below_drewN | apply below_drew1 | refine below_set ?_ GE194.out) | exact HB.out)) hb); have n2_ := Aside0.mk (hbox); have n3_ := Aside0.mk ((by rw [hg]; exact (below_size (by repeat (first | (with_reducible first | exact HB.out | apply below_alloc | apply pw_below_drewN | apply below_drew1 | refine below_set ?_ GE194.out) | exact HB.out))) : w.heap.size ≤ gb195)); have n4_ := n3_; have n5_ := Aside0.mk ((by rw [hg]; exact Nat.ne_of_lt (blk_lt BK194.out) : gb194 ≠ gb195)); have n6_ := Aside0.mk ((by rw [hg]; exact Nat.ne_of_gt (blk_lt BK194.out) : gb195 ≠ gb194)); clear BK194; clear HB; have BK194 := n0_; have HB := n1_; have BK195 := n2_; have GW195 := n3_; have GE195 := n4_; have NB194_195 := n5_; have NB195_194 := n6_; clear n0_ n1_ n2_ n3_ n4_ n5_ n6_; clear hb hbox hg))  -- boxed
              go_ret
              exact ⟨by first | rfl | (simp [errW_none, errW_some] <;> rfl) | (simp [*, errW_none, errW_some] <;> rfl), by repeat (first | (with_reducible first | exact HB.out | apply below_alloc | apply pw_below_drewN | apply below_drew1 | refine below_set ?_ GE194.out | refine below_set ?_ GE195.out) | exact HB.out)⟩
          · rw [if_neg c7] at H
            have c7b0 : (a0_4 == a1_4) = false := beq_eq_false_iff_ne.mpr c7
            have c7b1 : (a0_4 != a1_4) = true := bne_iff_ne.mpr c7
            obtain rfl := Option.some.inj H
            go_enter Try.func86, Try.ntmps86
            go_wp2_with (first | ((with_reducible refine gate_load (t := 3) rfl ?_); refine bx_load rfl _ (by rfl) gb194 _ (by rfl) BK194.out _ Try.underlying3 rfl _ (by rfl) ?_) | ((with_reducible refine gate_load (t := 57) rfl ?_); refine load_box rfl 57 _ rfl gb194 rfl Try.underlying57 rfl BK194.out (by kernel_rfl) ?_) | ((with_reducible refine gate_load (t := 3) rfl ?_); refine bx_load rfl _ (by rfl) gb195 _ (by rfl) BK195.out _ Try.underlying3 rfl _ (by rfl) ?_) | ((with_reducible refine gate_load (t := 57) rfl ?_); refine load_box rfl 57 _ rfl gb195 rfl Try.underlying57 rfl BK195.out (by kernel_rfl) ?_) | ((with_reducible refine gate_st (t := 57) rfl ?_); refine bx_store rfl rfl _ _ (by rfl) gb194 0 (by rfl) BK194.out _ (by rfl) (by kernel_rfl) (by exact Nat.le_of_ble_eq_true rfl) (by exact oo_7 rfl rfl rfl rfl rfl rfl rfl) ?_; intro w_ hbk_ hg_; simp only [List.take_succ_cons, List.take_zero, List.drop_succ_cons, List.drop_zero, List.cons_append, List.nil_append, List.length_cons, List.length_nil, Nat.reduceAdd] at hbk_; have hlt_ := blk_lt BK194.out; (try (have nc_ := Aside0.mk (bx_other BK195.out hg_ NB195_194.out); clear BK195; have BK195 := nc_; clear nc_)); have nb_ := Aside0.mk hbk_; have nh_ := Aside0.mk (bx_below HB.out hg_ GE194.out hlt_); clear BK194 HB; have BK194 := nb_; have HB := nh_; clear nb_ nh_ hbk_ hg_ hlt_) | ((with_reducible refine gate_st (t := 57) rfl ?_); refine bx_store rfl rfl _ _ (by rfl) gb195 0 (by rfl) BK195.out _ (by rfl) (by kernel_rfl) (by exact Nat.le_of_ble_eq_true rfl) (by exact oo_7 rfl rfl rfl rfl rfl rfl rfl) ?_; intro w_ hbk_ hg_; simp only [List.take_succ_cons, List.take_zero, List.drop_succ_cons, List.drop_zero, List.cons_append, List.nil_append, List.length_cons, List.length_nil, Nat.reduceAdd] at hbk_; have hlt_ := blk_lt BK195.out; (try (have nc_ := Aside0.mk (bx_other BK194.out hg_ NB194_195.out); clear BK194; have BK194 := nc_; clear nc_)); have nb_ := Aside0.mk hbk_; have nh_ := Aside0.mk (bx_below HB.out hg_ GE195.out hlt_); clear BK195 HB; have BK195 := nb_; have HB := nh_; clear nb_ nh_ hbk_ hg_ hlt_) | ((with_reducible refine gate_dst (N := 2) rfl ?_); refine box_event ?hg (N := 2) ?hd (cs := #[.int .i64 a0_0, .int .i64 a0_1, .int .i64 a0_2, .int .i64 a0_3, .int .i64 a0_4, .int .i64 a0_5, .int .i64 a0_6]) (t := 57) ?hr ?_; (case hd => rfl); (case hg => rfl); (case hr => first | (go_simp; done) | (go_simp; rfl)); intro gb194 hg w25 hbox hb; have n0_ := Aside0.mk (below_step (by repeat (first | (with_reducible first | exact HB.out | apply below_alloc | apply pw_below_drewN | apply below_drew1) | exact HB.out)) hb); have n1_ := Aside0.mk (hbox); have n2_ := Aside0.mk ((by rw [hg]; exact (below_size (by repeat (first | (with_reducible first | exact HB.out | apply below_alloc | apply pw_below_drewN | apply below_drew1) | exact HB.out))) : w.heap.size ≤ gb194)); have n3_ := n2_; clear HB; have HB := n0_; have BK194 := n1_; have GW194 := n2_; have GE194 := n3_; clear n0_ n1_ n2_ n3_; clear hb hbox hg) | ((with_reducible refine gate_dst (N := 3) rfl ?_); refine box_event ?hg (N := 3) ?hd (cs := #[.int .i64 a1_0, .int .i64 a1_1, .int .i64 a1_2, .int .i64 a1_3, .int .i64 a1_4, .int .i64 a1_5, .int .i64 a1_6]) (t := 57) ?hr ?_; (case hd => rfl); (case hg => rfl); (case hr => first | (go_simp; done) | (go_simp; rfl)); intro gb195 hg w26 hbox hb; have n0_ := Aside0.mk (blk_below BK194.out hb); have n1_ := Aside0.mk (below_step (by repeat (first | (with_reducible first | exact HB.out | apply below_alloc | apply pw_below_drewN | apply below_drew1 | refine below_set ?_ GE194.out) | exact HB.out)) hb); have n2_ := Aside0.mk (hbox); have n3_ := Aside0.mk ((by rw [hg]; exact (below_size (by repeat (first | (with_reducible first | exact HB.out | apply below_alloc | apply pw_below_drewN | apply below_drew1 | refine below_set ?_ GE194.out) | exact HB.out))) : w.heap.size ≤ gb195)); have n4_ := n3_; have n5_ := Aside0.mk ((by rw [hg]; exact Nat.ne_of_lt (blk_lt BK194.out) : gb194 ≠ gb195)); have n6_ := Aside0.mk ((by rw [hg]; exact Nat.ne_of_gt (blk_lt BK194.out) : gb195 ≠ gb194)); clear BK194; clear HB; have BK194 := n0_; have HB := n1_; have BK195 := n2_; have GW195 := n3_; have GE195 := n4_; have NB194_195 := n5_; have NB195_194 := n6_; clear n0_ n1_ n2_ n3_ n4_ n5_ n6_; clear hb hbox hg))  -- boxed
            go_ret
            exact ⟨by first | rfl | (simp [errW_none, errW_some] <;> rfl) | (simp [*, errW_none, errW_some] <;> rfl), by repeat (first | (with_reducible first | exact HB.out | apply below_alloc | apply pw_below_drewN | apply below_drew1 | refine below_set ?_ GE194.out | refine below_set ?_ GE195.out) | exact HB.out)⟩
        · rw [if_neg c6] at H
          have c6b0 : (a0_3 == a1_3) = false := beq_eq_false_iff_ne.mpr c6
          have c6b1 : (a0_3 != a1_3) = true := bne_iff_ne.mpr c6
          obtain rfl := Option.some.inj H
          go_enter Try.func86, Try.ntmps86
          go_wp2_with (first | ((with_reducible refine gate_load (t := 3) rfl ?_); refine bx_load rfl _ (by rfl) gb194 _ (by rfl) BK194.out _ Try.underlying3 rfl _ (by rfl) ?_) | ((with_reducible refine gate_load (t := 57) rfl ?_); refine load_box rfl 57 _ rfl gb194 rfl Try.underlying57 rfl BK194.out (by kernel_rfl) ?_) | ((with_reducible refine gate_load (t := 3) rfl ?_); refine bx_load rfl _ (by rfl) gb195 _ (by rfl) BK195.out _ Try.underlying3 rfl _ (by rfl) ?_) | ((with_reducible refine gate_load (t := 57) rfl ?_); refine load_box rfl 57 _ rfl gb195 rfl Try.underlying57 rfl BK195.out (by kernel_rfl) ?_) | ((with_reducible refine gate_st (t := 57) rfl ?_); refine bx_store rfl rfl _ _ (by rfl) gb194 0 (by rfl) BK194.out _ (by rfl) (by kernel_rfl) (by exact Nat.le_of_ble_eq_true rfl) (by exact oo_7 rfl rfl rfl rfl rfl rfl rfl) ?_; intro w_ hbk_ hg_; simp only [List.take_succ_cons, List.take_zero, List.drop_succ_cons, List.drop_zero, List.cons_append, List.nil_append, List.length_cons, List.length_nil, Nat.reduceAdd] at hbk_; have hlt_ := blk_lt BK194.out; (try (have nc_ := Aside0.mk (bx_other BK195.out hg_ NB195_194.out); clear BK195; have BK195 := nc_; clear nc_)); have nb_ := Aside0.mk hbk_; have nh_ := Aside0.mk (bx_below HB.out hg_ GE194.out hlt_); clear BK194 HB; have BK194 := nb_; have HB := nh_; clear nb_ nh_ hbk_ hg_ hlt_) | ((with_reducible refine gate_st (t := 57) rfl ?_); refine bx_store rfl rfl _ _ (by rfl) gb195 0 (by rfl) BK195.out _ (by rfl) (by kernel_rfl) (by exact Nat.le_of_ble_eq_true rfl) (by exact oo_7 rfl rfl rfl rfl rfl rfl rfl) ?_; intro w_ hbk_ hg_; simp only [List.take_succ_cons, List.take_zero, List.drop_succ_cons, List.drop_zero, List.cons_append, List.nil_append, List.length_cons, List.length_nil, Nat.reduceAdd] at hbk_; have hlt_ := blk_lt BK195.out; (try (have nc_ := Aside0.mk (bx_other BK194.out hg_ NB194_195.out); clear BK194; have BK194 := nc_; clear nc_)); have nb_ := Aside0.mk hbk_; have nh_ := Aside0.mk (bx_below HB.out hg_ GE195.out hlt_); clear BK195 HB; have BK195 := nb_; have HB := nh_; clear nb_ nh_ hbk_ hg_ hlt_) | ((with_reducible refine gate_dst (N := 2) rfl ?_); refine box_event ?hg (N := 2) ?hd (cs := #[.int .i64 a0_0, .int .i64 a0_1, .int .i64 a0_2, .int .i64 a0_3, .int .i64 a0_4, .int .i64 a0_5, .int .i64 a0_6]) (t := 57) ?hr ?_; (case hd => rfl); (case hg => rfl); (case hr => first | (go_simp; done) | (go_simp; rfl)); intro gb194 hg w30 hbox hb; have n0_ := Aside0.mk (below_step (by repeat (first | (with_reducible first | exact HB.out | apply below_alloc | apply pw_below_drewN | apply below_drew1) | exact HB.out)) hb); have n1_ := Aside0.mk (hbox); have n2_ := Aside0.mk ((by rw [hg]; exact (below_size (by repeat (first | (with_reducible first | exact HB.out | apply below_alloc | apply pw_below_drewN | apply below_drew1) | exact HB.out))) : w.heap.size ≤ gb194)); have n3_ := n2_; clear HB; have HB := n0_; have BK194 := n1_; have GW194 := n2_; have GE194 := n3_; clear n0_ n1_ n2_ n3_; clear hb hbox hg) | ((with_reducible refine gate_dst (N := 3) rfl ?_); refine box_event ?hg (N := 3) ?hd (cs := #[.int .i64 a1_0, .int .i64 a1_1, .int .i64 a1_2, .int .i64 a1_3, .int .i64 a1_4, .int .i64 a1_5, .int .i64 a1_6]) (t := 57) ?hr ?_; (case hd => rfl); (case hg => rfl); (case hr => first | (go_simp; done) | (go_simp; rfl)); intro gb195 hg w31 hbox hb; have n0_ := Aside0.mk (blk_below BK194.out hb); have n1_ := Aside0.mk (below_step (by repeat (first | (with_reducible first | exact HB.out | apply below_alloc | apply pw_below_drewN | apply below_drew1 | refine below_set ?_ GE194.out) | exact HB.out)) hb); have n2_ := Aside0.mk (hbox); have n3_ := Aside0.mk ((by rw [hg]; exact (below_size (by repeat (first | (with_reducible first | exact HB.out | apply below_alloc | apply pw_below_drewN | apply below_drew1 | refine below_set ?_ GE194.out) | exact HB.out))) : w.heap.size ≤ gb195)); have n4_ := n3_; have n5_ := Aside0.mk ((by rw [hg]; exact Nat.ne_of_lt (blk_lt BK194.out) : gb194 ≠ gb195)); have n6_ := Aside0.mk ((by rw [hg]; exact Nat.ne_of_gt (blk_lt BK194.out) : gb195 ≠ gb194)); clear BK194; clear HB; have BK194 := n0_; have HB := n1_; have BK195 := n2_; have GW195 := n3_; have GE195 := n4_; have NB194_195 := n5_; have NB195_194 := n6_; clear n0_ n1_ n2_ n3_ n4_ n5_ n6_; clear hb hbox hg))  -- boxed
          go_ret
          exact ⟨by first | rfl | (simp [errW_none, errW_some] <;> rfl) | (simp [*, errW_none, errW_some] <;> rfl), by repeat (first | (with_reducible first | exact HB.out | apply below_alloc | apply pw_below_drewN | apply below_drew1 | refine below_set ?_ GE194.out | refine below_set ?_ GE195.out) | exact HB.out)⟩
      · rw [if_neg c5] at H
        have c5b0 : (a0_2 == a1_2) = false := beq_eq_false_iff_ne.mpr c5
        have c5b1 : (a0_2 != a1_2) = true := bne_iff_ne.mpr c5
        obtain rfl := Option.some.inj H
        go_enter Try.func86, Try.ntmps86
        go_wp2_with (first | ((with_reducible refine gate_load (t := 3) rfl ?_); refine bx_load rfl _ (by rfl) gb194 _ (by rfl) BK194.out _ Try.underlying3 rfl _ (by rfl) ?_) | ((with_reducible refine gate_load (t := 57) rfl ?_); refine load_box rfl 57 _ rfl gb194 rfl Try.underlying57 rfl BK194.out (by kernel_rfl) ?_) | ((with_reducible refine gate_load (t := 3) rfl ?_); refine bx_load rfl _ (by rfl) gb195 _ (by rfl) BK195.out _ Try.underlying3 rfl _ (by rfl) ?_) | ((with_reducible refine gate_load (t := 57) rfl ?_); refine load_box rfl 57 _ rfl gb195 rfl Try.underlying57 rfl BK195.out (by kernel_rfl) ?_) | ((with_reducible refine gate_st (t := 57) rfl ?_); refine bx_store rfl rfl _ _ (by rfl) gb194 0 (by rfl) BK194.out _ (by rfl) (by kernel_rfl) (by exact Nat.le_of_ble_eq_true rfl) (by exact oo_7 rfl rfl rfl rfl rfl rfl rfl) ?_; intro w_ hbk_ hg_; simp only [List.take_succ_cons, List.take_zero, List.drop_succ_cons, List.drop_zero, List.cons_append, List.nil_append, List.length_cons, List.length_nil, Nat.reduceAdd] at hbk_; have hlt_ := blk_lt BK194.out; (try (have nc_ := Aside0.mk (bx_other BK195.out hg_ NB195_194.out); clear BK195; have BK195 := nc_; clear nc_)); have nb_ := Aside0.mk hbk_; have nh_ := Aside0.mk (bx_below HB.out hg_ GE194.out hlt_); clear BK194 HB; have BK194 := nb_; have HB := nh_; clear nb_ nh_ hbk_ hg_ hlt_) | ((with_reducible refine gate_st (t := 57) rfl ?_); refine bx_store rfl rfl _ _ (by rfl) gb195 0 (by rfl) BK195.out _ (by rfl) (by kernel_rfl) (by exact Nat.le_of_ble_eq_true rfl) (by exact oo_7 rfl rfl rfl rfl rfl rfl rfl) ?_; intro w_ hbk_ hg_; simp only [List.take_succ_cons, List.take_zero, List.drop_succ_cons, List.drop_zero, List.cons_append, List.nil_append, List.length_cons, List.length_nil, Nat.reduceAdd] at hbk_; have hlt_ := blk_lt BK195.out; (try (have nc_ := Aside0.mk (bx_other BK194.out hg_ NB194_195.out); clear BK194; have BK194 := nc_; clear nc_)); have nb_ := Aside0.mk hbk_; have nh_ := Aside0.mk (bx_below HB.out hg_ GE195.out hlt_); clear BK195 HB; have BK195 := nb_; have HB := nh_; clear nb_ nh_ hbk_ hg_ hlt_) | ((with_reducible refine gate_dst (N := 2) rfl ?_); refine box_event ?hg (N := 2) ?hd (cs := #[.int .i64 a0_0, .int .i64 a0_1, .int .i64 a0_2, .int .i64 a0_3, .int .i64 a0_4, .int .i64 a0_5, .int .i64 a0_6]) (t := 57) ?hr ?_; (case hd => rfl); (case hg => rfl); (case hr => first | (go_simp; done) | (go_simp; rfl)); intro gb194 hg w35 hbox hb; have n0_ := Aside0.mk (below_step (by repeat (first | (with_reducible first | exact HB.out | apply below_alloc | apply pw_below_drewN | apply below_drew1) | exact HB.out)) hb); have n1_ := Aside0.mk (hbox); have n2_ := Aside0.mk ((by rw [hg]; exact (below_size (by repeat (first | (with_reducible first | exact HB.out | apply below_alloc | apply pw_below_drewN | apply below_drew1) | exact HB.out))) : w.heap.size ≤ gb194)); have n3_ := n2_; clear HB; have HB := n0_; have BK194 := n1_; have GW194 := n2_; have GE194 := n3_; clear n0_ n1_ n2_ n3_; clear hb hbox hg) | ((with_reducible refine gate_dst (N := 3) rfl ?_); refine box_event ?hg (N := 3) ?hd (cs := #[.int .i64 a1_0, .int .i64 a1_1, .int .i64 a1_2, .int .i64 a1_3, .int .i64 a1_4, .int .i64 a1_5, .int .i64 a1_6]) (t := 57) ?hr ?_; (case hd => rfl); (case hg => rfl); (case hr => first | (go_simp; done) | (go_simp; rfl)); intro gb195 hg w36 hbox hb; have n0_ := Aside0.mk (blk_below BK194.out hb); have n1_ := Aside0.mk (below_step (by repeat (first | (with_reducible first | exact HB.out | apply below_alloc | apply pw_below_drewN | apply below_drew1 | refine below_set ?_ GE194.out) | exact HB.out)) hb); have n2_ := Aside0.mk (hbox); have n3_ := Aside0.mk ((by rw [hg]; exact (below_size (by repeat (first | (with_reducible first | exact HB.out | apply below_alloc | apply pw_below_drewN | apply below_drew1 | refine below_set ?_ GE194.out) | exact HB.out))) : w.heap.size ≤ gb195)); have n4_ := n3_; have n5_ := Aside0.mk ((by rw [hg]; exact Nat.ne_of_lt (blk_lt BK194.out) : gb194 ≠ gb195)); have n6_ := Aside0.mk ((by rw [hg]; exact Nat.ne_of_gt (blk_lt BK194.out) : gb195 ≠ gb194)); clear BK194; clear HB; have BK194 := n0_; have HB := n1_; have BK195 := n2_; have GW195 := n3_; have GE195 := n4_; have NB194_195 := n5_; have NB195_194 := n6_; clear n0_ n1_ n2_ n3_ n4_ n5_ n6_; clear hb hbox hg))  -- boxed
        go_ret
        exact ⟨by first | rfl | (simp [errW_none, errW_some] <;> rfl) | (simp [*, errW_none, errW_some] <;> rfl), by repeat (first | (with_reducible first | exact HB.out | apply below_alloc | apply pw_below_drewN | apply below_drew1 | refine below_set ?_ GE194.out | refine below_set ?_ GE195.out) | exact HB.out)⟩
    · rw [if_neg c4] at H
      have c4b0 : (a0_1 == a1_1) = false := beq_eq_false_iff_ne.mpr c4
      have c4b1 : (a0_1 != a1_1) = true := bne_iff_ne.mpr c4
      obtain rfl := Option.some.inj H
      go_enter Try.func86, Try.ntmps86
      go_wp2_with (first | ((with_reducible refine gate_load (t := 3) rfl ?_); refine bx_load rfl _ (by rfl) gb194 _ (by rfl) BK194.out _ Try.underlying3 rfl _ (by rfl) ?_) | ((with_reducible refine gate_load (t := 57) rfl ?_); refine load_box rfl 57 _ rfl gb194 rfl Try.underlying57 rfl BK194.out (by kernel_rfl) ?_) | ((with_reducible refine gate_load (t := 3) rfl ?_); refine bx_load rfl _ (by rfl) gb195 _ (by rfl) BK195.out _ Try.underlying3 rfl _ (by rfl) ?_) | ((with_reducible refine gate_load (t := 57) rfl ?_); refine load_box rfl 57 _ rfl gb195 rfl Try.underlying57 rfl BK195.out (by kernel_rfl) ?_) | ((with_reducible refine gate_st (t := 57) rfl ?_); refine bx_store rfl rfl _ _ (by rfl) gb194 0 (by rfl) BK194.out _ (by rfl) (by kernel_rfl) (by exact Nat.le_of_ble_eq_true rfl) (by exact oo_7 rfl rfl rfl rfl rfl rfl rfl) ?_; intro w_ hbk_ hg_; simp only [List.take_succ_cons, List.take_zero, List.drop_succ_cons, List.drop_zero, List.cons_append, List.nil_append, List.length_cons, List.length_nil, Nat.reduceAdd] at hbk_; have hlt_ := blk_lt BK194.out; (try (have nc_ := Aside0.mk (bx_other BK195.out hg_ NB195_194.out); clear BK195; have BK195 := nc_; clear nc_)); have nb_ := Aside0.mk hbk_; have nh_ := Aside0.mk (bx_below HB.out hg_ GE194.out hlt_); clear BK194 HB; have BK194 := nb_; have HB := nh_; clear nb_ nh_ hbk_ hg_ hlt_) | ((with_reducible refine gate_st (t := 57) rfl ?_); refine bx_store rfl rfl _ _ (by rfl) gb195 0 (by rfl) BK195.out _ (by rfl) (by kernel_rfl) (by exact Nat.le_of_ble_eq_true rfl) (by exact oo_7 rfl rfl rfl rfl rfl rfl rfl) ?_; intro w_ hbk_ hg_; simp only [List.take_succ_cons, List.take_zero, List.drop_succ_cons, List.drop_zero, List.cons_append, List.nil_append, List.length_cons, List.length_nil, Nat.reduceAdd] at hbk_; have hlt_ := blk_lt BK195.out; (try (have nc_ := Aside0.mk (bx_other BK194.out hg_ NB194_195.out); clear BK194; have BK194 := nc_; clear nc_)); have nb_ := Aside0.mk hbk_; have nh_ := Aside0.mk (bx_below HB.out hg_ GE195.out hlt_); clear BK195 HB; have BK195 := nb_; have HB := nh_; clear nb_ nh_ hbk_ hg_ hlt_) | ((with_reducible refine gate_dst (N := 2) rfl ?_); refine box_event ?hg (N := 2) ?hd (cs := #[.int .i64 a0_0, .int .i64 a0_1, .int .i64 a0_2, .int .i64 a0_3, .int .i64 a0_4, .int .i64 a0_5, .int .i64 a0_6]) (t := 57) ?hr ?_; (case hd => rfl); (case hg => rfl); (case hr => first | (go_simp; done) | (go_simp; rfl)); intro gb194 hg w40 hbox hb; have n0_ := Aside0.mk (below_step (by repeat (first | (with_reducible first | exact HB.out | apply below_alloc | apply pw_below_drewN | apply below_drew1) | exact HB.out)) hb); have n1_ := Aside0.mk (hbox); have n2_ := Aside0.mk ((by rw [hg]; exact (below_size (by repeat (first | (with_reducible first | exact HB.out | apply below_alloc | apply pw_below_drewN | apply below_drew1) | exact HB.out))) : w.heap.size ≤ gb194)); have n3_ := n2_; clear HB; have HB := n0_; have BK194 := n1_; have GW194 := n2_; have GE194 := n3_; clear n0_ n1_ n2_ n3_; clear hb hbox hg) | ((with_reducible refine gate_dst (N := 3) rfl ?_); refine box_event ?hg (N := 3) ?hd (cs := #[.int .i64 a1_0, .int .i64 a1_1, .int .i64 a1_2, .int .i64 a1_3, .int .i64 a1_4, .int .i64 a1_5, .int .i64 a1_6]) (t := 57) ?hr ?_; (case hd => rfl); (case hg => rfl); (case hr => first | (go_simp; done) | (go_simp; rfl)); intro gb195 hg w41 hbox hb; have n0_ := Aside0.mk (blk_below BK194.out hb); have n1_ := Aside0.mk (below_step (by repeat (first | (with_reducible first | exact HB.out | apply below_alloc | apply pw_below_drewN | apply below_drew1 | refine below_set ?_ GE194.out) | exact HB.out)) hb); have n2_ := Aside0.mk (hbox); have n3_ := Aside0.mk ((by rw [hg]; exact (below_size (by repeat (first | (with_reducible first | exact HB.out | apply below_alloc | apply pw_below_drewN | apply below_drew1 | refine below_set ?_ GE194.out) | exact HB.out))) : w.heap.size ≤ gb195)); have n4_ := n3_; have n5_ := Aside0.mk ((by rw [hg]; exact Nat.ne_of_lt (blk_lt BK194.out) : gb194 ≠ gb195)); have n6_ := Aside0.mk ((by rw [hg]; exact Nat.ne_of_gt (blk_lt BK194.out) : gb195 ≠ gb194)); clear BK194; clear HB; have BK194 := n0_; have HB := n1_; have BK195 := n2_; have GW195 := n3_; have GE195 := n4_; have NB194_195 := n5_; have NB195_194 := n6_; clear n0_ n1_ n2_ n3_ n4_ n5_ n6_; clear hb hbox hg))  -- boxed
      go_ret
      exact ⟨by first | rfl | (simp [errW_none, errW_some] <;> rfl) | (simp [*, errW_none, errW_some] <;> rfl), by repeat (first | (with_reducible first | exact HB.out | apply below_alloc | apply pw_below_drewN | apply below_drew1 | refine below_set ?_ GE194.out | refine below_set ?_ GE195.out) | exact HB.out)⟩
  · rw [if_neg c3] at H
    have c3b0 : (a0_0 == a1_0) = false := beq_eq_false_iff_ne.mpr c3
    have c3b1 : (a0_0 != a1_0) = true := bne_iff_ne.mpr c3
    obtain rfl := Option.some.inj H
    go_enter Try.func86, Try.ntmps86
    go_wp2_with (first | ((with_reducible refine gate_load (t := 3) rfl ?_); refine bx_load rfl _ (by rfl) gb194 _ (by rfl) BK194.out _ Try.underlying3 rfl _ (by rfl) ?_) | ((with_reducible refine gate_load (t := 57) rfl ?_); refine load_box rfl 57 _ rfl gb194 rfl Try.underlying57 rfl BK194.out (by kernel_rfl) ?_) | ((with_reducible refine gate_load (t := 3) rfl ?_); refine bx_load rfl _ (by rfl) gb195 _ (by rfl) BK195.out _ Try.underlying3 rfl _ (by rfl) ?_) | ((with_reducible refine gate_load (t := 57) rfl ?_); refine load_box rfl 57 _ rfl gb195 rfl Try.underlying57 rfl BK195.out (by kernel_rfl) ?_) | ((with_reducible refine gate_st (t := 57) rfl ?_); refine bx_store rfl rfl _ _ (by rfl) gb194 0 (by rfl) BK194.out _ (by rfl) (by kernel_rfl) (by exact Nat.le_of_ble_eq_true rfl) (by exact oo_7 rfl rfl rfl rfl rfl rfl rfl) ?_; intro w_ hbk_ hg_; simp only [List.take_succ_cons, List.take_zero, List.drop_succ_cons, List.drop_zero, List.cons_append, List.nil_append, List.length_cons, List.length_nil, Nat.reduceAdd] at hbk_; have hlt_ := blk_lt BK194.out; (try (have nc_ := Aside0.mk (bx_other BK195.out hg_ NB195_194.out); clear BK195; have BK195 := nc_; clear nc_)); have nb_ := Aside0.mk hbk_; have nh_ := Aside0.mk (bx_below HB.out hg_ GE194.out hlt_); clear BK194 HB; have BK194 := nb_; have HB := nh_; clear nb_ nh_ hbk_ hg_ hlt_) | ((with_reducible refine gate_st (t := 57) rfl ?_); refine bx_store rfl rfl _ _ (by rfl) gb195 0 (by rfl) BK195.out _ (by rfl) (by kernel_rfl) (by exact Nat.le_of_ble_eq_true rfl) (by exact oo_7 rfl rfl rfl rfl rfl rfl rfl) ?_; intro w_ hbk_ hg_; simp only [List.take_succ_cons, List.take_zero, List.drop_succ_cons, List.drop_zero, List.cons_append, List.nil_append, List.length_cons, List.length_nil, Nat.reduceAdd] at hbk_; have hlt_ := blk_lt BK195.out; (try (have nc_ := Aside0.mk (bx_other BK194.out hg_ NB194_195.out); clear BK194; have BK194 := nc_; clear nc_)); have nb_ := Aside0.mk hbk_; have nh_ := Aside0.mk (bx_below HB.out hg_ GE195.out hlt_); clear BK195 HB; have BK195 := nb_; have HB := nh_; clear nb_ nh_ hbk_ hg_ hlt_) | ((with_reducible refine gate_dst (N := 2) rfl ?_); refine box_event ?hg (N := 2) ?hd (cs := #[.int .i64 a0_0, .int .i64 a0_1, .int .i64 a0_2, .int .i64 a0_3, .int .i64 a0_4, .int .i64 a0_5, .int .i64 a0_6]) (t := 57) ?hr ?_; (case hd => rfl); (case hg => rfl); (case hr => first | (go_simp; done) | (go_simp; rfl)); intro gb194 hg w45 hbox hb; have n0_ := Aside0.mk (below_step (by repeat (first | (with_reducible first | exact HB.out | apply below_alloc | apply pw_below_drewN | apply below_drew1) | exact HB.out)) hb); have n1_ := Aside0.mk (hbox); have n2_ := Aside0.mk ((by rw [hg]; exact (below_size (by repeat (first | (with_reducible first | exact HB.out | apply below_alloc | apply pw_below_drewN | apply below_drew1) | exact HB.out))) : w.heap.size ≤ gb194)); have n3_ := n2_; clear HB; have HB := n0_; have BK194 := n1_; have GW194 := n2_; have GE194 := n3_; clear n0_ n1_ n2_ n3_; clear hb hbox hg) | ((with_reducible refine gate_dst (N := 3) rfl ?_); refine box_event ?hg (N := 3) ?hd (cs := #[.int .i64 a1_0, .int .i64 a1_1, .int .i64 a1_2, .int .i64 a1_3, .int .i64 a1_4, .int .i64 a1_5, .int .i64 a1_6]) (t := 57) ?hr ?_; (case hd => rfl); (case hg => rfl); (case hr => first | (go_simp; done) | (go_simp; rfl)); intro gb195 hg w46 hbox hb; have n0_ := Aside0.mk (blk_below BK194.out hb); have n1_ := Aside0.mk (below_step (by repeat (first | (with_reducible first | exact HB.out | apply below_alloc | apply pw_below_drewN | apply below_drew1 | refine below_set ?_ GE194.out) | exact HB.out)) hb); have n2_ := Aside0.mk (hbox); have n3_ := Aside0.mk ((by rw [hg]; exact (below_size (by repeat (first | (with_reducible first | exact HB.out | apply below_alloc | apply pw_below_drewN | apply below_drew1 | refine below_set ?_ GE194.out) | exact HB.out))) : w.heap.size ≤ gb195)); have n4_ := n3_; have n5_ := Aside0.mk ((by rw [hg]; exact Nat.ne_of_lt (blk_lt BK194.out) : gb194 ≠ gb195)); have n6_ := Aside0.mk ((by rw [hg]; exact Nat.ne_of_gt (blk_lt BK194.out) : gb195 ≠ gb194)); clear BK194; clear HB; have BK194 := n0_; have HB := n1_; have BK195 := n2_; have GW195 := n3_; have GE195 := n4_; have NB194_195 := n5_; have NB195_194 := n6_; clear n0_ n1_ n2_ n3_ n4_ n5_ n6_; clear hb hbox hg))  -- boxed
    go_ret
    exact ⟨by first | rfl | (simp [errW_none, errW_some] <;> rfl) | (simp [*, errW_none, errW_some] <;> rfl), by repeat (first | (with_reducible first | exact HB.out | apply below_alloc | apply pw_below_drewN | apply below_drew1 | refine below_set ?_ GE194.out | refine below_set ?_ GE195.out) | exact HB.out)⟩

/-! ### laws_eqGuard: function 87 -/
def laws_eqGuard.f (a0_0 : Int) (a0_1 : Int) (a1_0 : Int) (a1_1 : Int) : Option (Bool) := if a0_0 = a1_0 then (if a0_1 = a1_1 then (some true) else (some false)) else (some false)
set_option maxHeartbeats 8000000 in
set_option maxRecDepth 100000 in
theorem laws_eqGuard.calls (a0_0 : Int) (a0_1 : Int) (a1_0 : Int) (a1_1 : Int) (r : Bool) (w : World) (h : laws_eqGuard.f a0_0 a0_1 a1_0 a1_1 = some r) :
    Calls Try.prog 87 #[.agg #[.int .i64 a0_0, .int .i64 a0_1], .agg #[.int .i64 a1_0, .int .i64 a1_1]] w fun e w' => e = .returned (.bool r) ∧ Below w.heap.size w w' := by
  have hu58 := Try.underlying58
  have HB := Aside0.mk (Below.refl w.heap.size w)
  have H : (if a0_0 = a1_0 then (if a0_1 = a1_1 then (some true) else (some false)) else (some false)) = some r := h
  clear h
  by_cases c3 : a0_0 = a1_0
  · rw [if_pos c3] at H
    have c3b0 : (a0_0 == a1_0) = true := beq_iff_eq.mpr c3
    have c3b1 : (a0_0 != a1_0) = false := bne_eq_false_iff_eq.mpr c3
    clear c3
    by_cases c4 : a0_1 = a1_1
    · rw [if_pos c4] at H
      have c4b0 : (a0_1 == a1_1) = true := beq_iff_eq.mpr c4
      have c4b1 : (a0_1 != a1_1) = false := bne_eq_false_iff_eq.mpr c4
      clear c4
      obtain rfl := Option.some.inj H
      go_enter Try.func87, Try.ntmps87
      go_wp2_with (first | ((with_reducible refine gate_dst (N := 2) rfl ?_); refine box_event ?hg (N := 2) ?hd (cs := #[.int .i64 a0_0, .int .i64 a0_1]) (t := 58) ?hr ?_; (case hd => rfl); (case hg => rfl); (case hr => first | (go_simp; done) | (go_simp; rfl)); intro gb196 hg w5 hbox hb; have n0_ := Aside0.mk (below_step (by repeat (first | (with_reducible first | exact HB.out | apply below_alloc | apply pw_below_drewN | apply below_drew1) | exact HB.out)) hb); have n1_ := Aside0.mk (hbox); have n2_ := Aside0.mk ((by rw [hg]; exact (below_size (by repeat (first | (with_reducible first | exact HB.out | apply below_alloc | apply pw_below_drewN | apply below_drew1) | exact HB.out))) : w.heap.size ≤ gb196)); have n3_ := n2_; clear HB; have HB := n0_; have BK196 := n1_; have GW196 := n2_; have GE196 := n3_; clear n0_ n1_ n2_ n3_; clear hb hbox hg) | ((with_reducible refine gate_dst (N := 3) rfl ?_); refine box_event ?hg (N := 3) ?hd (cs := #[.int .i64 a1_0, .int .i64 a1_1]) (t := 58) ?hr ?_; (case hd => rfl); (case hg => rfl); (case hr => first | (go_simp; done) | (go_simp; rfl)); intro gb197 hg w6 hbox hb; have n0_ := Aside0.mk (blk_below (by (with_reducible repeat (first | refine blk_drewN ?_ _ | refine blk_drew ?_ | refine blk_alloc ?_ _)); exact BK196.out) hb); have n1_ := Aside0.mk (below_step (by repeat (first | (with_reducible first | exact HB.out | apply below_alloc | apply pw_below_drewN | apply below_drew1 | refine below_set ?_ GE196.out) | exact HB.out)) hb); have n2_ := Aside0.mk (hbox); have n3_ := Aside0.mk ((by rw [hg]; exact (below_size (by repeat (first | (with_reducible first | exact HB.out | apply below_alloc | apply pw_below_drewN | apply below_drew1 | refine below_set ?_ GE196.out) | exact HB.out))) : w.heap.size ≤ gb197)); have n4_ := n3_; have n5_ := Aside0.mk ((by rw [hg]; exact Nat.ne_of_lt (blk_lt (by (with_reducible repeat (first | refine blk_drewN ?_ _ | refine blk_drew ?_ | refine blk_alloc ?_ _)); exact BK196.out)) : gb196 ≠ gb197)); have n6_ := Aside0.mk ((by rw [hg]; exact Nat.ne_of_gt (blk_lt (by (with_reducible repeat (first | refine blk_drewN ?_ _ | refine blk_drew ?_ | refine blk_alloc ?_ _)); exact BK196.out)) : gb197 ≠ gb196)); clear BK196; clear HB; have BK196 := n0_; have HB := n1_; have BK197 := n2_; have GW197 := n3_; have GE197 := n4_; have NB196_197 := n5_; have NB197_196 := n6_; clear n0_ n1_ n2_ n3_ n4_ n5_ n6_; clear hb hbox hg; have hnb7 := NB196_197.out; have hnc7 := NB197_196.out; obtain ⟨hcz8_0, hcz8_1⟩ := cc_2 BK196.out; obtain ⟨hfz8_0, hfz8_1⟩ := ff_2 BK196.out; obtain ⟨hcz9_0, hcz9_1⟩ := cc_2 BK197.out; have hfz9_0 := blk_frozen BK197.out 0; have hfz9_1 := blk_frozen BK197.out 1))
      go_ret
      exact ⟨by first | rfl | (simp [errW_none, errW_some] <;> rfl) | (simp [*, errW_none, errW_some] <;> rfl), by repeat (first | (with_reducible first | exact HB.out | apply below_alloc | apply pw_below_drewN | apply below_drew1 | refine below_set ?_ GE196.out | refine below_set ?_ GE197.out) | exact HB.out)⟩
    · rw [if_neg c4] at H
      have c4b0 : (a0_1 == a1_1) = false := beq_eq_false_iff_ne.mpr c4
      have c4b1 : (a0_1 != a1_1) = true := bne_iff_ne.mpr c4
      obtain rfl := Option.some.inj H
      go_enter Try.func87, Try.ntmps87
      go_wp2_with (first | ((with_reducible refine gate_dst (N := 2) rfl ?_); refine box_event ?hg (N := 2) ?hd (cs := #[.int .i64 a0_0, .int .i64 a0_1]) (t := 58) ?hr ?_; (case hd => rfl); (case hg => rfl); (case hr => first | (go_simp; done) | (go_simp; rfl)); intro gb196 hg w10 hbox hb; have n0_ := Aside0.mk (below_step (by repeat (first | (with_reducible first | exact HB.out | apply below_alloc | apply pw_below_drewN | apply below_drew1) | exact HB.out)) hb); have n1_ := Aside0.mk (hbox); have n2_ := Aside0.mk ((by rw [hg]; exact (below_size (by repeat (first | (with_reducible first | exact HB.out | apply below_alloc | apply pw_below_drewN | apply below_drew1) | exact HB.out))) : w.heap.size ≤ gb196)); have n3_ := n2_; clear HB; have HB := n0_; have BK196 := n1_; have GW196 := n2_; have GE196 := n3_; clear n0_ n1_ n2_ n3_; clear hb hbox hg) | ((with_reducible refine gate_dst (N := 3) rfl ?_); refine box_event ?hg (N := 3) ?hd (cs := #[.int .i64 a1_0, .int .i64 a1_1]) (t := 58) ?hr ?_; (case hd => rfl); (case hg => rfl); (case hr => first | (go_simp; done) | (go_simp; rfl)); intro gb197 hg w11 hbox hb; have n0_ := Aside0.mk (blk_below (by (with_reducible repeat (first | refine blk_drewN ?_ _ | refine blk_drew ?_ | refine blk_alloc ?_ _)); exact BK196.out) hb); have n1_ := Aside0.mk (below_step (by repeat (first | (with_reducible first | exact HB.out | apply below_alloc | apply pw_below_drewN | apply below_drew1 | refine below_set ?_ GE196.out) | exact HB.out)) hb); have n2_ := Aside0.mk (hbox); have n3_ := Aside0.mk ((by rw [hg]; exact (below_size (by repeat (first | (with_reducible first | exact HB.out | apply below_alloc | apply pw_below_drewN | apply below_drew1 | refine below_set ?_ GE196.out) | exact HB.out))) : w.heap.size ≤ gb197)); have n4_ := n3_; have n5_ := Aside0.mk ((by rw [hg]; exact Nat.ne_of_lt (blk_lt (by (with_reducible repeat (first | refine blk_drewN ?_ _ | refine blk_drew ?_ | refine blk_alloc ?_ _)); exact BK196.out)) : gb196 ≠ gb197)); have n6_ := Aside0.mk ((by rw [hg]; exact Nat.ne_of_gt (blk_lt (by (with_reducible repeat (first | refine blk_drewN ?_ _ | refine blk_drew ?_ | refine blk_alloc ?_ _)); exact BK196.out)) : gb197 ≠ gb196)); clear BK196; clear HB; have BK196 := n0_; have HB := n1_; have BK197 := n2_; have GW197 := n3_; have GE197 := n4_; have NB196_197 := n5_; have NB197_196 := n6_; clear n0_ n1_ n2_ n3_ n4_ n5_ n6_; clear hb hbox hg; have hnb12 := NB196_197.out; have hnc12 := NB197_196.out; obtain ⟨hcz13_0, hcz13_1⟩ := cc_2 BK196.out; obtain ⟨hfz13_0, hfz13_1⟩ := ff_2 BK196.out; obtain ⟨hcz14_0, hcz14_1⟩ := cc_2 BK197.out; have hfz14_0 := blk_frozen BK197.out 0; have hfz14_1 := blk_frozen BK197.out 1))
      go_ret
      exact ⟨by first | rfl | (simp [errW_none, errW_some] <;> rfl) | (simp [*, errW_none, errW_some] <;> rfl), by repeat (first | (with_reducible first | exact HB.out | apply below_alloc | apply pw_below_drewN | apply below_drew1 | refine below_set ?_ GE196.out | refine below_set ?_ GE197.out) | exact HB.out)⟩
  · rw [if_neg c3] at H
    have c3b0 : (a0_0 == a1_0) = false := beq_eq_false_iff_ne.mpr c3
    have c3b1 : (a0_0 != a1_0) = true := bne_iff_ne.mpr c3
    obtain rfl := Option.some.inj H
    go_enter Try.func87, Try.ntmps87
    go_wp2_with (first | ((with_reducible refine gate_dst (N := 2) rfl ?_); refine box_event ?hg (N := 2) ?hd (cs := #[.int .i64 a0_0, .int .i64 a0_1]) (t := 58) ?hr ?_; (case hd => rfl); (case hg => rfl); (case hr => first | (go_simp; done) | (go_simp; rfl)); intro gb196 hg w15 hbox hb; have n0_ := Aside0.mk (below_step (by repeat (first | (with_reducible first | exact HB.out | apply below_alloc | apply pw_below_drewN | apply below_drew1) | exact HB.out)) hb); have n1_ := Aside0.mk (hbox); have n2_ := Aside0.mk ((by rw [hg]; exact (below_size (by repeat (first | (with_reducible first | exact HB.out | apply below_alloc | apply pw_below_drewN | apply below_drew1) | exact HB.out))) : w.heap.size ≤ gb196)); have n3_ := n2_; clear HB; have HB := n0_; have BK196 := n1_; have GW196 := n2_; have GE196 := n3_; clear n0_ n1_ n2_ n3_; clear hb hbox hg) | ((with_reducible refine gate_dst (N := 3) rfl ?_); refine box_event ?hg (N := 3) ?hd (cs := #[.int .i64 a1_0, .int .i64 a1_1]) (t := 58) ?hr ?_; (case hd => rfl); (case hg => rfl); (case hr => first | (go_simp; done) | (go_simp; rfl)); intro gb197 hg w16 hbox hb; have n0_ := Aside0.mk (blk_below (by (with_reducible repeat (first | refine blk_drewN ?_ _ | refine blk_drew ?_ | refine blk_alloc ?_ _)); exact BK196.out) hb); have n1_ := Aside0.mk (below_step (by repeat (first | (with_reducible first | exact HB.out | apply below_alloc | apply pw_below_drewN | apply below_drew1 | refine below_set ?_ GE196.out) | exact HB.out)) hb); have n2_ := Aside0.mk (hbox); have n3_ := Aside0.mk ((by rw [hg]; exact (below_size (by repeat (first | (with_reducible first | exact HB.out | apply below_alloc | apply pw_below_drewN | apply below_drew1 | refine below_set ?_ GE196.out) | exact HB.out))) : w.heap.size ≤ gb197)); have n4_ := n3_; have n5_ := Aside0.mk ((by rw [hg]; exact Nat.ne_of_lt (blk_lt (by (with_reducible repeat (first | refine blk_drewN ?_ _ | refine blk_drew ?_ | refine blk_alloc ?_ _)); exact BK196.out)) : gb196 ≠ gb197)); have n6_ := Aside0.mk ((by rw [hg]; exact Nat.ne_of_gt (blk_lt (by (with_reducible repeat (first | refine blk_drewN ?_ _ | refine blk_drew ?_ | refine blk_alloc ?_ _)); exact BK196.out)) : gb197 ≠ gb196)); clear BK196; clear HB; have BK196 := n0_; have HB := n1_; have BK197 := n2_; have GW197 := n3_; have GE197 := n4_; have NB196_197 := n5_; have NB197_196 := n6_; clear n0_ n1_ n2_ n3_ n4_ n5_ n6_; clear hb hbox hg; have hnb17 := NB196_197.out; have hnc17 := NB197_196.out; obtain ⟨hcz18_0, hcz18_1⟩ := cc_2 BK196.out; obtain ⟨hfz18_0, hfz18_1⟩ := ff_2 BK196.out; obtain ⟨hcz19_0, hcz19_1⟩ := cc_2 BK197.out; have hfz19_0 := blk_frozen BK197.out 0; have hfz19_1 := blk_frozen BK197.out 1))
    go_ret
    exact ⟨by first | rfl | (simp [errW_none, errW_some] <;> rfl) | (simp [*, errW_none, errW_some] <;> rfl), by repeat (first | (with_reducible first | exact HB.out | apply below_alloc | apply pw_below_drewN | apply below_drew1 | refine below_set ?_ GE196.out | refine below_set ?_ GE197.out) | exact HB.out)⟩

/-! ### laws_eqEvent: function 110 -/
def laws_eqEvent.f (a0_0 : Int) (a0_1 : Int) (a0_2 : Int) (a0_3 : Int) (a0_4 : Int) (a0_5 : Int) (a0_6 : Bool) (a1_0 : Int) (a1_1 : Int) (a1_2 : Int) (a1_3 : Int) (a1_4 : Int) (a1_5 : Int) (a1_6 : Bool) : Option (Bool) := if a0_0 = a1_0 then (if a0_1 = a1_1 then (if a0_2 = a1_2 then (if a0_3 = a1_3 then (if a0_4 = a1_4 then (if a0_5 = a1_5 then (if (a0_6 != a1_6) = true then (some false) else (some true)) else (some false)) else (some false)) else (some false)) else (some false)) else (some false)) else (some false)
set_option maxHeartbeats 8000000 in
set_option maxRecDepth 100000 in
theorem laws_eqEvent.calls (a0_0 : Int) (a0_1 : Int) (a0_2 : Int) (a0_3 : Int) (a0_4 : Int) (a0_5 : Int) (a0_6 : Bool) (a1_0 : Int) (a1_1 : Int) (a1_2 : Int) (a1_3 : Int) (a1_4 : Int) (a1_5 : Int) (a1_6 : Bool) (r : Bool) (w : World) (h : laws_eqEvent.f a0_0 a0_1 a0_2 a0_3 a0_4 a0_5 a0_6 a1_0 a1_1 a1_2 a1_3 a1_4 a1_5 a1_6 = some r) :
    Calls Try.prog 110 #[.agg #[.int .i64 a0_0, .int .i64 a0_1, .int .i64 a0_2, .int .i64 a0_3, .int .i64 a0_4, .int .i64 a0_5, .bool a0_6], .agg #[.int .i64 a1_0, .int .i64 a1_1, .int .i64 a1_2, .int .i64 a1_3, .int .i64 a1_4, .int .i64 a1_5, .bool a1_6]] w fun e w' => e = .returned (.bool r) ∧ Below w.heap.size w w' := by
  have hu40 := Try.underlying40
  have HB := Aside0.mk (Below.refl w.heap.size w)
  have H : (if a0_0 = a1_0 then (if a0_1 = a1_1 then (if a0_2 = a1_2 then (if a0_3 = a1_3 then (if a0_4 = a1_4 then (if a0_5 = a1_5 then (if (a0_6 != a1_6) = true then (some false) else (some true)) else (some false)) else (some false)) else (some false)) else (some false)) else (some false)) else (some false)) = some r := h
  clear h
  by_cases c3 : a0_0 = a1_0
  · rw [if_pos c3] at H
    have c3b0 : (a0_0 == a1_0) = true := beq_iff_eq.mpr c3
    have c3b1 : (a0_0 != a1_0) = false := bne_eq_false_iff_eq.mpr c3
    clear c3
    by_cases c4 : a0_1 = a1_1
    · rw [if_pos c4] at H
      have c4b0 : (a0_1 == a1_1) = true := beq_iff_eq.mpr c4
      have c4b1 : (a0_1 != a1_1) = false := bne_eq_false_iff_eq.mpr c4
      clear c4
      by_cases c5 : a0_2 = a1_2
      · rw [if_pos c5] at H
        have c5b0 : (a0_2 == a1_2) = true := beq_iff_eq.mpr c5
        have c5b1 : (a0_2 != a1_2) = false := bne_eq_false_iff_eq.mpr c5
        clear c5
        by_cases c6 : a0_3 = a1_3
        · rw [if_pos c6] at H
          have c6b0 : (a0_3 == a1_3) = true := beq_iff_eq.mpr c6
          have c6b1 : (a0_3 != a1_3) = false := bne_eq_false_iff_eq.mpr c6
          clear c6
          by_cases c7 : a0_4 = a1_4
          · rw [if_pos c7] at H
            have c7b0 : (a0_4 == a1_4) = true := beq_iff_eq.mpr c7
            have c7b1 : (a0_4 != a1_4) = false := bne_eq_false_iff_eq.mpr c7
            clear c7
            by_cases c8 : a0_5 = a1_5
            · rw [if_pos c8] at H
              have c8b0 : (a0_5 == a1_5) = true := beq_iff_eq.mpr c8
              have c8b1 : (a0_5 != a1_5) = false := bne_eq_false_iff_eq.mpr c8
              clear c8
              by_cases c9 : (a0_6 != a1_6) = true
              · rw [if_pos c9] at H
                have c9b0 : (a0_6 != a1_6) = true := c9
                (try (have c9b1 : decide (a0_6 = a1_6) = false := by simpa using c9))
                (try (have c9b2 : (a0_6 == a1_6) = false := by simpa using c9))
                (try (have c9b3 : ¬ (a0_6 = a1_6) := by simpa using c9))
                clear c9
                obtain rfl := Option.some.inj H
                go_enter Try.func110, Try.ntmps110
                go_wp2_with (first | ((with_reducible refine gate_load (t := 3) rfl ?_); refine bx_load rfl _ (by rfl) gb198 _ (by rfl) BK198.out _ Try.underlying3 rfl _ (by rfl) ?_) | ((with_reducible refine gate_load (t := 4) rfl ?_); refine bx_load rfl _ (by rfl) gb198 _ (by rfl) BK198.out _ Try.underlying4 rfl _ (by rfl) ?_) | ((with_reducible refine gate_load (t := 40) rfl ?_); refine load_box rfl 40 _ rfl gb198 rfl Try.underlying40 rfl BK198.out (by kernel_rfl) ?_) | ((with_reducible refine gate_load (t := 3) rfl ?_); refine bx_load rfl _ (by rfl) gb199 _ (by rfl) BK199.out _ Try.underlying3 rfl _ (by rfl) ?_) | ((with_reducible refine gate_load (t := 4) rfl ?_); refine bx_load rfl _ (by rfl) gb199 _ (by rfl) BK199.out _ Try.underlying4 rfl _ (by rfl) ?_) | ((with_reducible refine gate_load (t := 40) rfl ?_); refine load_box rfl 40 _ rfl gb199 rfl Try.underlying40 rfl BK199.out (by kernel_rfl) ?_) | ((with_reducible refine gate_st (t := 40) rfl ?_); refine bx_store rfl rfl _ _ (by rfl) gb198 0 (by rfl) BK198.out _ (by rfl) (by kernel_rfl) (by exact Nat.le_of_ble_eq_true rfl) (by exact oo_7 rfl rfl rfl rfl rfl rfl rfl) ?_; intro w_ hbk_ hg_; simp only [List.take_succ_cons, List.take_zero, List.drop_succ_cons, List.drop_zero, List.cons_append, List.nil_append, List.length_cons, List.length_nil, Nat.reduceAdd] at hbk_; have hlt_ := blk_lt BK198.out; (try (have nc_ := Aside0.mk (bx_other BK199.out hg_ NB199_198.out); clear BK199; have BK199 := nc_; clear nc_)); have nb_ := Aside0.mk hbk_; have nh_ := Aside0.mk (bx_below HB.out hg_ GE198.out hlt_); clear BK198 HB; have BK198 := nb_; have HB := nh_; clear nb_ nh_ hbk_ hg_ hlt_) | ((with_reducible refine gate_st (t := 40) rfl ?_); refine bx_store rfl rfl _ _ (by rfl) gb199 0 (by rfl) BK199.out _ (by rfl) (by kernel_rfl) (by exact Nat.le_of_ble_eq_true rfl) (by exact oo_7 rfl rfl rfl rfl rfl rfl rfl) ?_; intro w_ hbk_ hg_; simp only [List.take_succ_cons, List.take_zero, List.drop_succ_cons, List.drop_zero, List.cons_append, List.nil_append, List.length_cons, List.length_nil, Nat.reduceAdd] at hbk_; have hlt_ := blk_lt BK199.out; (try (have nc_ := Aside0.mk (bx_other BK198.out hg_ NB198_199.out); clear BK198; have BK198 := nc_; clear nc_)); have nb_ := Aside0.mk hbk_; have nh_ := Aside0.mk (bx_below HB.out hg_ GE199.out hlt_); clear BK199 HB; have BK199 := nb_; have HB := nh_; clear nb_ nh_ hbk_ hg_ hlt_) | ((with_reducible refine gate_dst (N := 2) rfl ?_); refine box_event ?hg (N := 2) ?hd (cs := #[.int .i64 a0_0, .int .i64 a0_1, .int .i64 a0_2, .int .i64 a0_3, .int .i64 a0_4, .int .i64 a0_5, .bool a0_6]) (t := 40) ?hr ?_; (case hd => rfl); (case hg => rfl); (case hr => first | (go_simp; done) | (go_simp; rfl)); intro gb198 hg w10 hbox hb; have n0_ := Aside0.mk (below_step (by repeat (first | (with_reducible first | exact HB.out | apply below_alloc | apply pw_below_drewN | apply below_drew1) | exact HB.out)) hb); have n1_ := Aside0.mk (hbox); have n2_ := Aside0.mk ((by rw [hg]; exact (below_size (by repeat (first | (with_reducible first | exact HB.out | apply below_alloc | apply pw_below_drewN | apply below_drew1) | exact HB.out))) : w.heap.size ≤ gb198)); have n3_ := n2_; clear HB; have HB := n0_; have BK198 := n1_; have GW198 := n2_; have GE198 := n3_; clear n0_ n1_ n2_ n3_; clear hb hbox hg) | ((with_reducible refine gate_dst (N := 3) rfl ?_); refine box_event ?hg (N := 3) ?hd (cs := #[.int .i64 a1_0, .int .i64 a1_1, .int .i64 a1_2, .int .i64 a1_3, .int .i64 a1_4, .int .i64 a1_5, .bool a1_6]) (t := 40) ?hr ?_; (case hd => rfl); (case hg => rfl); (case hr => first | (go_simp; done) | (go_simp; rfl)); intro gb199 hg w11 hbox hb; have n0_ := Aside0.mk (blk_below BK198.out hb); have n1_ := Aside0.mk (below_step (by repeat (first | (with_reducible first | exact HB.out | apply below_alloc | apply pw_below_drewN | apply below_drew1 | refine below_set ?_ GE198.out) | exact HB.out)) hb); have n2_ := Aside0.mk (hbox); have n3_ := Aside0.mk ((by rw [hg]; exact (below_size (by repeat (first | (with_reducible first | exact HB.out | apply below_alloc | apply pw_below_drewN | apply below_drew1 | refine below_set ?_ GE198.out) | exact HB.out))) : w.heap.size ≤ gb199)); have n4_ := n3_; have n5_ := Aside0.mk ((by rw [hg]; exact Nat.ne_of_lt (blk_lt BK198.out) : gb198 ≠ gb199)); have n6_ := Aside0.mk ((by rw [hg]; exact Nat.ne_of_gt (blk_lt BK198.out) : gb199 ≠ gb198)); clear BK198; clear HB; have BK198 := n0_; have HB := n1_; have BK199 := n2_; have GW199 := n3_; have GE199 := n4_; have NB198_199 := n5_; have NB199_198 := n6_; clear n0_ n1_ n2_ n3_ n4_ n5_ n6_; clear hb hbox hg))  -- boxed
                go_ret
                exact ⟨by first | rfl | (simp [errW_none, errW_some] <;> rfl) | (simp [*, errW_none, errW_some] <;> rfl), by repeat (first | (with_reducible first | exact HB.out | apply below_alloc | apply pw_below_drewN | apply below_drew1 | refine below_set ?_ GE198.out | refine below_set ?_ GE199.out) | exact HB.out)⟩
              · rw [if_neg c9] at H
                have c9b0 : (a0_6 != a1_6) = false := by simpa using c9
                (try (have c9b1 : decide (a0_6 = a1_6) = true := by simpa using c9))
                (try (have c9b2 : (a0_6 == a1_6) = true := by simpa using c9))
                clear c9
                obtain rfl := Option.some.inj H
                go_enter Try.func110, Try.ntmps110
                go_wp2_with (first | ((with_reducible refine gate_load (t := 3) rfl ?_); refine bx_load rfl _ (by rfl) gb198 _ (by rfl) BK198.out _ Try.underlying3 rfl _ (by rfl) ?_) | ((with_reducible refine gate_load (t := 4) rfl ?_); refine bx_load rfl _ (by rfl) gb198 _ (by rfl) BK198.out _ Try.underlying4 rfl _ (by rfl) ?_) | ((with_reducible refine gate_load (t := 40) rfl ?_); refine load_box rfl 40 _ rfl gb198 rfl Try.underlying40 rfl BK198.out (by kernel_rfl) ?_) | ((with_reducible refine gate_load (t := 3) rfl ?_); refine bx_load rfl _ (by rfl) gb199 _ (by rfl) BK199.out _ Try.underlying3 rfl _ (by rfl) ?_) | ((with_reducible refine gate_load (t := 4) rfl ?_); refine bx_load rfl _ (by rfl) gb199 _ (by rfl) BK199.out _ Try.underlying4 rfl _ (by rfl) ?_) | ((with_reducible refine gate_load (t := 40) rfl ?_); refine load_box rfl 40 _ rfl gb199 rfl Try.underlying40 rfl BK199.out (by kernel_rfl) ?_) | ((with_reducible refine gate_st (t := 40) rfl ?_); refine bx_store rfl rfl _ _ (by rfl) gb198 0 (by rfl) BK198.out _ (by rfl) (by kernel_rfl) (by exact Nat.le_of_ble_eq_true rfl) (by exact oo_7 rfl rfl rfl rfl rfl rfl rfl) ?_; intro w_ hbk_ hg_; simp only [List.take_succ_cons, List.take_zero, List.drop_succ_cons, List.drop_zero, List.cons_append, List.nil_append, List.length_cons, List.length_nil, Nat.reduceAdd] at hbk_; have hlt_ := blk_lt BK198.out; (try (have nc_ := Aside0.mk (bx_other BK199.out hg_ NB199_198.out); clear BK199; have BK199 := nc_; clear nc_)); have nb_ := Aside0.mk hbk_; have nh_ := Aside0.mk (bx_below HB.out hg_ GE198.out hlt_); clear BK198 HB; have BK198 := nb_; have HB := nh_; clear nb_ nh_ hbk_ hg_ hlt_) | ((with_reducible refine gate_st (t := 40) rfl ?_); refine bx_store rfl rfl _ _ (by rfl) gb199 0 (by rfl) BK199.out _ (by rfl) (by kernel_rfl) (by exact Nat.le_of_ble_eq_true rfl) (by exact oo_7 rfl rfl rfl rfl rfl rfl rfl) ?_; intro w_ hbk_ hg_; simp only [List.take_succ_cons, List.take_zero, List.drop_succ_cons, List.drop_zero, List.cons_append, List.nil_append, List.length_cons, List.length_nil, Nat.reduceAdd] at hbk_; have hlt_ := blk_lt BK199.out; (try (have nc_ := Aside0.mk (bx_other BK198.out hg_ NB198_199.out); clear BK198; have BK198 := nc_; clear nc_)); have nb_ := Aside0.mk hbk_; have nh_ := Aside0.mk (bx_below HB.out hg_ GE199.out hlt_); clear BK199 HB; have BK199 := nb_; have HB := nh_; clear nb_ nh_ hbk_ hg_ hlt_) | ((with_reducible refine gate_dst (N := 2) rfl ?_); refine box_event ?hg (N := 2) ?hd (cs := #[.int .i64 a0_0, .int .i64 a0_1, .int .i64 a0_2, .int .i64 a0_3, .int .i64 a0_4, .int .i64 a0_5, .bool a0_6]) (t := 40) ?hr ?_; (case hd => rfl); (case hg => rfl); (case hr => first | (go_simp; done) | (go_simp; rfl)); intro gb198 hg w15 hbox hb; have n0_ := Aside0.mk (below_step (by repeat (first | (with_reducible first | exact HB.out | apply below_alloc | apply pw_below_drewN | apply below_drew1) | exact HB.out)) hb); have n1_ := Aside0.mk (hbox); have n2_ := Aside0.mk ((by rw [hg]; exact (below_size (by repeat (first | (with_reducible first | exact HB.out | apply below_alloc | apply pw_below_drewN | apply below_drew1) | exact HB.out))) : w.heap.size ≤ gb198)); have n3_ := n2_; clear HB; have HB := n0_; have BK198 := n1_; have GW198 := n2_; have GE198 := n3_; clear n0_ n1_ n2_ n3_; clear hb hbox hg) | ((with_reducible refine gate_dst (N := 3) rfl ?_); refine box_event ?hg (N := 3) ?hd (cs := #[.int .i64 a1_0, .int .i64 a1_1, .int .i64 a1_2, .int .i64 a1_3, .int .i64 a1_4, .int .i64 a1_5, .bool a1_6]) (t := 40) ?hr ?_; (case hd => rfl); (case hg => rfl); (case hr => first | (go_simp; done) | (go_simp; rfl)); intro gb199 hg w16 hbox hb; have n0_ := Aside0.mk (blk_below BK198.out hb); have n1_ := Aside0.mk (below_step (by repeat (first | (with_reducible first | exact HB.out | apply below_alloc | apply pw_below_drewN | apply below_drew1 | refine below_set ?_ GE198.out) | exact HB.out)) hb); have n2_ := Aside0.mk (hbox); have n3_ := Aside0.mk ((by rw [hg]; exact (below_size (by repeat (first | (with_reducible first | exact HB.out | apply below_alloc | apply pw_below_drewN | apply below_drew1 | refine below_set ?_ GE198.out) | exact HB.out))) : w.heap.size ≤ gb199)); have n4_ := n3_; have n5_ := Aside0.mk ((by rw [hg]; exact Nat.ne_of_lt (blk_lt BK198.out) : gb198 ≠ gb199)); have n6_ := Aside0.mk ((by rw [hg]; exact Nat.ne_of_gt (blk_lt BK198.out) : gb199 ≠ gb198)); clear BK198; clear HB; have BK198 := n0_; have HB := n1_; have BK199 := n2_; have GW199 := n3_; have GE199 := n4_; have NB198_199 := n5_; have NB199_198 := n6_; clear n0_ n1_ n2_ n3_ n4_ n5_ n6_; clear hb hbox hg))  -- boxed
                go_ret
                exact ⟨by first | rfl | (simp [errW_none, errW_some] <;> rfl) | (simp [*, errW_none, errW_some] <;> rfl), by repeat (first | (with_reducible first | exact HB.out | apply below_alloc | apply pw_below_drewN | apply below_drew1 | refine below_set ?_ GE198.out | refine below_set ?_ GE199.out) | exact HB.out)⟩
            · rw [if_neg c8] at H
              have c8b0 : (a0_5 == a1_5) = false := beq_eq_false_iff_ne.mpr c8
              have c8b1 : (a0_5 != a1_5) = true := bne_iff_ne.mpr c8
              obtain rfl := Option.some.inj H
              go_enter Try.func110, Try.ntmps110
              go_wp2_with (first | ((with_reducible refine gate_load (t := 3) rfl ?_); refine bx_load rfl _ (by rfl) gb198 _ (by rfl) BK198.out _ Try.underlying3 rfl _ (by rfl) ?_) | ((with_reducible refine gate_load (t := 4) rfl ?_); refine bx_load rfl _ (by rfl) gb198 _ (by rfl) BK198.out _ Try.underlying4 rfl _ (by rfl) ?_) | ((with_reducible refine gate_load (t := 40) rfl ?_); refine load_box rfl 40 _ rfl gb198 rfl Try.underlying40 rfl BK198.out (by kernel_rfl) ?_) | ((with_reducible refine gate_load (t := 3) rfl ?_); refine bx_load rfl _ (by rfl) gb199 _ (by rfl) BK199.out _ Try.underlying3 rfl _ (by rfl) ?_) | ((with_reducible refine gate_load (t := 4) rfl ?_); refine bx_load rfl _ (by rfl) gb199 _ (by rfl) BK199.out _ Try.underlying4 rfl _ (by rfl) ?_) | ((with_reducible refine gate_load (t := 40) rfl ?_); refine load_box rfl 40 _ rfl gb199 rfl Try.underlying40 rfl BK199.out (by kernel_rfl) ?_) | ((with_reducible refine gate_st (t := 40) rfl ?_); refine bx_store rfl rfl _ _ (by rfl) gb198 0 (by rfl) BK198.out _ (by rfl) (by kernel_rfl) (by exact Nat.le_of_ble_eq_true rfl) (by exact oo_7 rfl rfl rfl rfl rfl rfl rfl) ?_; intro w_ hbk_ hg_; simp only [List.take_succ_cons, List.take_zero, List.drop_succ_cons, List.drop_zero, List.cons_append, List.nil_append, List.length_cons, List.length_nil, Nat.reduceAdd] at hbk_; have hlt_ := blk_lt BK198.out; (try (have nc_ := Aside0.mk (bx_other BK199.out hg_ NB199_198.out); clear BK199; have BK199 := nc_; clear nc_)); have nb_ := Aside0.mk hbk_; have nh_ := Aside0.mk (bx_below HB.out hg_ GE198.out hlt_); clear BK198 HB; have BK198 := nb_; have HB := nh_; clear nb_ nh_ hbk_ hg_ hlt_) | ((with_reducible refine gate_st (t := 40) rfl ?_); refine bx_store rfl rfl _ _ (by rfl) gb199 0 (by rfl) BK199.out _ (by rfl) (by kernel_rfl) (by exact Nat.le_of_ble_eq_true rfl) (by exact oo_7 rfl rfl rfl rfl rfl rfl rfl) ?_; intro w_ hbk_ hg_; simp only [List.take_succ_cons, List.take_zero, List.drop_succ_cons, List.drop_zero, List.cons_append, List.nil_append, List.length_cons, List.length_nil, Nat.reduceAdd] at hbk_; have hlt_ := blk_lt BK199.out; (try (have nc_ := Aside0.mk (bx_other BK198.out hg_ NB198_199.out); clear BK198; have BK198 := nc_; clear nc_)); have nb_ := Aside0.mk hbk_; have nh_ := Aside0.mk (bx_below HB.out hg_ GE199.out hlt_); clear BK199 HB; have BK199 := nb_; have HB := nh_; clear nb_ nh_ hbk_ hg_ hlt_) | ((with_reducible refine gate_dst (N := 2) rfl ?_); refine box_event ?hg (N := 2) ?hd (cs := #[.int .i64 a0_0, .int .i64 a0_1, .int .i64 a0_2, .int .i64 a0_3, .int .i64 a0_4, .int .i64 a0_5, .bool a0_6]) (t := 40) ?hr ?_; (case hd => rfl); (case hg => rfl); (case hr => first | (go_simp; done) | (go_simp; rfl)); intro gb198 hg w20 hbox hb; have n0_ := Aside0.mk (below_step (by repeat (first | (with_reducible first | exact HB.out | apply below_alloc | apply pw_below_drewN | apply below_drew1) | exact HB.out)) hb); have n1_ := Aside0.mk (hbox); have n2_ := Aside0.mk ((by rw [hg]; exact (below_size (by repeat (first | (with_reducible first | exact HB.out | apply below_alloc | apply pw_below_drewN | apply below_drew1) | exact HB.out))) : w.heap.size ≤ gb198)); have n3_ := n2_; clear HB; have HB := n0_; have BK198 := n1_; have GW198 := n2_; have GE198 := n3_; clear n0_ n1_ n2_ n3_; clear hb hbox hg) | ((with_reducible refine gate_dst (N := 3) rfl ?_); refine box_event ?hg (N := 3) ?hd (cs := #[.int .i64 a1_0, .int .i64 a1_1, .int .i64 a1_2, .int .i64 a1_3, .int .i64 a1_4, .int .i64 a1_5, .bool a1_6]) (t := 40) ?hr ?_; (case hd => rfl); (case hg => rfl); (case hr => first | (go_simp; done) | (go_simp; rfl)); intro gb199 hg w21 hbox hb; have n0_ := Aside0.mk (blk_below BK198.out hb); have n1_ := Aside0.mk (below_step (by repeat (first | (with_reducible first | exact HB.out | apply below_alloc | apply pw_below_drewN | apply below_drew1 | refine below_set ?_ GE198.out) | exact HB.out)) hb); have n2_ := Aside0.mk (hbox); have n3_ := Aside0.mk ((by rw [hg]; exact (below_size (by repeat (first | (with_reducible first | exact HB.out | apply below_alloc | apply pw_below_drewN | apply below_drew1 | refine below_set ?_ GE198.out) | exact HB.out))) : w.heap.size ≤ gb199)); have n4_ := n3_; have n5_ := Aside0.mk ((by rw [hg]; exact Nat.ne_of_lt (blk_lt BK198.out) : gb198 ≠ gb199)); have n6_ := Aside0.mk ((by rw [hg]; exact Nat.ne_of_gt (blk_lt BK198.out) : gb199 ≠ gb198)); clear BK198; clear HB; have BK198 := n0_; have HB := n1_; have BK199 := n2_; have GW199 := n3_; have GE199 := n4_; have NB198_199 := n5_; have NB199_198 := n6_; clear n0_ n1_ n2_ n3_ n4_ n5_ n6_; clear hb hbox hg))  -- boxed
              go_ret
              exact ⟨by first | rfl | (simp [errW_none, errW_some] <;> rfl) | (simp [*, errW_none, errW_some] <;> rfl), by repeat (first | (with_reducible first | exact HB.out | apply below_alloc | apply pw_below_drewN | apply below_drew1 | refine below_set ?_ GE198.out | refine below_set ?_ GE199.out) | exact HB.out)⟩
          · rw [if_neg c7] at H
            have c7b0 : (a0_4 == a1_4) = false := beq_eq_false_iff_ne.mpr c7
            have c7b1 : (a0_4 != a1_4) = true := bne_iff_ne.mpr c7
            obtain rfl := Option.some.inj H
            go_enter Try.func110, Try.ntmps110
            go_wp2_with (first | ((with_reducible refine gate_load (t := 3) rfl ?_); refine bx_load rfl _ (by rfl) gb198 _ (by rfl) BK198.out _ Try.underlying3 rfl _ (by rfl) ?_) | ((with_reducible refine gate_load (t := 4) rfl ?_); refine bx_load rfl _ (by rfl) gb198 _ (by rfl) BK198.out _ Try.underlying4 rfl _ (by rfl) ?_) | ((with_reducible refine gate_load (t := 40) rfl ?_); refine load_box rfl 40 _ rfl gb198 rfl Try.underlying40 rfl BK198.out (by kernel_rfl) ?_) | ((with_reducible refine gate_load (t := 3) rfl ?_); refine bx_load rfl _ (by rfl) gb199 _ (by rfl) BK199.out _ Try.underlying3 rfl _ (by rfl) ?_) | ((with_reducible refine gate_load (t := 4) rfl ?_); refine bx_load rfl _ (by rfl) gb199 _ (by rfl) BK199.out _ Try.underlying4 rfl _ (by rfl) ?_) | ((with_reducible refine gate_load (t := 40) rfl ?_); refine load_box rfl 40 _ rfl gb199 rfl Try.underlying40 rfl BK199.out (by kernel_rfl) ?_) | ((with_reducible refine gate_st (t := 40) rfl ?_); refine bx_store rfl rfl _ _ (by rfl) gb198 0 (by rfl) BK198.out _ (by rfl) (by kernel_rfl) (by exact Nat.le_of_ble_eq_true rfl) (by exact oo_7 rfl rfl rfl rfl rfl rfl rfl) ?_; intro w_ hbk_ hg_; simp only [List.take_succ_cons, List.take_zero, List.drop_succ_cons, List.drop_zero, List.cons_append, List.nil_append, List.length_cons, List.length_nil, Nat.reduceAdd] at hbk_; have hlt_ := blk_lt BK198.out; (try (have nc_ := Aside0.mk (bx_other BK199.out hg_ NB199_198.out); clear BK199; have BK199 := nc_; clear nc_)); have nb_ := Aside0.mk hbk_; have nh_ := Aside0.mk (bx_below HB.out hg_ GE198.out hlt_); clear BK198 HB; have BK198 := nb_; have HB := nh_; clear nb_ nh_ hbk_ hg_ hlt_) | ((with_reducible refine gate_st (t := 40) rfl ?_); refine bx_store rfl rfl _ _ (by rfl) gb199 0 (by rfl) BK199.out _ (by rfl) (by kernel_rfl) (by exact Nat.le_of_ble_eq_true rfl) (by exact oo_7 rfl rfl rfl rfl rfl rfl rfl) ?_; intro w_ hbk_ hg_; simp only [List.take_succ_cons, List.take_zero, List.drop_succ_cons, List.drop_zero, List.cons_append, List.nil_append, List.length_cons, List.length_nil, Nat.reduceAdd] at hbk_; have hlt_ := blk_lt BK199.out; (try (have nc_ := Aside0.mk (bx_other BK198.out hg_ NB198_199.out); clear BK198; have BK198 := nc_; clear nc_)); have nb_ := Aside0.mk hbk_; have nh_ := Aside0.mk (bx_below HB.out hg_ GE199.out hlt_); clear BK199 HB; have BK199 := nb_; have HB := nh_; clear nb_ nh_ hbk_ hg_ hlt_) | ((with_reducible refine gate_dst (N := 2) rfl ?_); refine box_event ?hg (N := 2) ?hd (cs := #[.int .i64 a0_0, .int .i64 a0_1, .int .i64 a0_2, .int .i64 a0_3, .int .i64 a0_4, .int .i64 a0_5, .bool a0_6]) (t := 40) ?hr ?_; (case hd => rfl); (case hg => rfl); (case hr => first | (go_simp; done) | (go_simp; rfl)); intro gb198 hg w25 hbox hb; have n0_ := Aside0.mk (below_step (by repeat (first | (with_reducible first | exact HB.out | apply below_alloc | apply pw_below_drewN | apply below_drew1) | exact HB.out)) hb); have n1_ := Aside0.mk (hbox); have n2_ := Aside0.mk ((by rw [hg]; exact (below_size (by repeat (first | (with_reducible first | exact HB.out | apply below_alloc | apply pw_below_drewN | apply below_drew1) | exact HB.out))) : w.heap.size ≤ gb198)); have n3_ := n2_; clear HB; have HB := n0_; have BK198 := n1_; have GW198 := n2_; have GE198 := n3_; clear n0_ n1_ n2_ n3_; clear hb hbox hg) | ((with_reducible refine gate_dst (N := 3) rfl ?_); refine box_event ?hg (N := 3) ?hd (cs := #[.int .i64 a1_0, .int .i64 a1_1, .int .i64 a1_2, .int .i64 a1_3, .int .i64 a1_4, .int .i64 a1_5, .bool a1_6]) (t := 40) ?hr ?_; (case hd => rfl); (case hg => rfl); (case hr => first | (go_simp; done) | (go_simp; rfl)); intro gb199 hg w26 hbox hb; have n0_ := Aside0.mk (blk_below BK198.out hb); have n1_ := Aside0.mk (below_step (by repeat (first | (with_reducible first | exact HB.out | apply below_alloc | apply pw_below_drewN | apply below_drew1 | refine below_set ?_ GE198.out) | exact HB.out)) hb); have n2_ := Aside0.mk (hbox); have n3_ := Aside0.mk ((by rw [hg]; exact (below_size (by repeat (first | (with_reducible first | exact HB.out | apply below_alloc | apply pw_below_drewN | apply below_drew1 | refine below_set ?_ GE198.out) | exact HB.out))) : w.heap.size ≤ gb199)); have n4_ := n3_; have n5_ := Aside0.mk ((by rw [hg]; exact Nat.ne_of_lt (blk_lt BK198.out) : gb198 ≠ gb199)); have n6_ := Aside0.mk ((by rw [hg]; exact Nat.ne_of_gt (blk_lt BK198.out) : gb199 ≠ gb198)); clear BK198; clear HB; have BK198 := n0_; have HB := n1_; have BK199 := n2_; have GW199 := n3_; have GE199 := n4_; have NB198_199 := n5_; have NB199_198 := n6_; clear n0_ n1_ n2_ n3_ n4_ n5_ n6_; clear hb hbox hg))  -- boxed
            go_ret
            exact ⟨by first | rfl | (simp [errW_none, errW_some] <;> rfl) | (simp [*, errW_none, errW_some] <;> rfl), by repeat (first | (with_reducible first | exact HB.out | apply below_alloc | apply pw_below_drewN | apply below_drew1 | refine below_set ?_ GE198.out | refine below_set ?_ GE199.out) | exact HB.out)⟩
        · rw [if_neg c6] at H
          have c6b0 : (a0_3 == a1_3) = false := beq_eq_false_iff_ne.mpr c6
          have c6b1 : (a0_3 != a1_3) = true := bne_iff_ne.mpr c6
          obtain rfl := Option.some.inj H
          go_enter Try.func110, Try.ntmps110
          go_wp2_with (first | ((with_reducible refine gate_load (t := 3) rfl ?_); refine bx_load rfl _ (by rfl) gb198 _ (by rfl) BK198.out _ Try.underlying3 rfl _ (by rfl) ?_) | ((with_reducible refine gate_load (t := 4) rfl ?_); refine bx_load rfl _ (by rfl) gb198 _ (by rfl) BK198.out _ Try.underlying4 rfl _ (by rfl) ?_) | ((with_reducible refine gate_load (t := 40) rfl ?_); refine load_box rfl 40 _ rfl gb198 rfl Try.underlying40 rfl BK198.out (by kernel_rfl) ?_) | ((with_reducible refine gate_load (t := 3) rfl ?_); refine bx_load rfl _ (by rfl) gb199 _ (by rfl) BK199.out _ Try.underlying3 rfl _ (by rfl) ?_) | ((with_reducible refine gate_load (t := 4) rfl ?_); refine bx_load rfl _ (by rfl) gb199 _ (by rfl) BK199.out _ Try.underlying4 rfl _ (by rfl) ?_) | ((with_reducible refine gate_load (t := 40) rfl ?_); refine load_box rfl 40 _ rfl gb199 rfl Try.underlying40 rfl BK199.out (by kernel_rfl) ?_) | ((with_reducible refine gate_st (t := 40) rfl ?_); refine bx_store rfl rfl _ _ (by rfl) gb198 0 (by rfl) BK198.out _ (by rfl) (by kernel_rfl) (by exact Nat.le_of_ble_eq_true rfl) (by exact oo_7 rfl rfl rfl rfl rfl rfl rfl) ?_; intro w_ hbk_ hg_; simp only [List.take_succ_cons, List.take_zero, List.drop_succ_cons, List.drop_zero, List.cons_append, List.nil_append, List.length_cons, List.length_nil, Nat.reduceAdd] at hbk_; have hlt_ := blk_lt BK198.out; (try (have nc_ := Aside0.mk (bx_other BK199.out hg_ NB199_198.out); clear BK199; have BK199 := nc_; clear nc_)); have nb_ := Aside0.mk hbk_; have nh_ := Aside0.mk (bx_below HB.out hg_ GE198.out hlt_); clear BK198 HB; have BK198 := nb_; have HB := nh_; clear nb_ nh_ hbk_ hg_ hlt_) | ((with_reducible refine gate_st (t := 40) rfl ?_); refine bx_store rfl rfl _ _ (by rfl) gb199 0 (by rfl) BK199.out _ (by rfl) (by kernel_rfl) (by exact Nat.le_of_ble_eq_true rfl) (by exact oo_7 rfl rfl rfl rfl rfl rfl rfl) ?_; intro w_ hbk_ hg_; simp only [List.take_succ_cons, List.take_zero, List.drop_succ_cons, List.drop_zero, List.cons_append, List.nil_append, List.length_cons, List.length_nil, Nat.reduceAdd] at hbk_; have hlt_ := blk_lt BK199.out; (try (have nc_ := Aside0.mk (bx_other BK198.out hg_ NB198_199.out); clear BK198; have BK198 := nc_; clear nc_)); have nb_ := Aside0.mk hbk_; have nh_ := Aside0.mk (bx_below HB.out hg_ GE199.out hlt_); clear BK199 HB; have BK199 := nb_; have HB := nh_; clear nb_ nh_ hbk_ hg_ hlt_) | ((with_reducible refine gate_dst (N := 2) rfl ?_); refine box_event ?hg (N := 2) ?hd (cs := #[.int .i64 a0_0, .int .i64 a0_1, .int .i64 a0_2, .int .i64 a0_3, .int .i64 a0_4, .int .i64 a0_5, .bool a0_6]) (t := 40) ?hr ?_; (case hd => rfl); (case hg => rfl); (case hr => first | (go_simp; done) | (go_simp; rfl)); intro gb198 hg w30 hbox hb; have n0_ := Aside0.mk (below_step (by repeat (first | (with_reducible first | exact HB.out | apply below_alloc | apply pw_below_drewN | apply below_drew1) | exact HB.out)) hb); have n1_ := Aside0.mk (hbox); have n2_ := Aside0.mk ((by rw [hg]; exact (below_size (by repeat (first | (with_reducible first | exact HB.out | apply below_alloc | apply pw_below_drewN | apply below_drew1) | exact HB.out))) : w.heap.size ≤ gb198)); have n3_ := n2_; clear HB; have HB := n0_; have BK198 := n1_; have GW198 := n2_; have GE198 := n3_; clear n0_ n1_ n2_ n3_; clear hb hbox hg) | ((with_reducible refine gate_dst (N := 3) rfl ?_); refine box_event ?hg (N := 3) ?hd (cs := #[.int .i64 a1_0, .int .i64 a1_1, .int .i64 a1_2, .int .i64 a1_3, .int .i64 a1_4, .int .i64 a1_5, .bool a1_6]) (t := 40) ?hr ?_; (case hd => rfl); (case hg => rfl); (case hr => first | (go_simp; done) | (go_simp; rfl)); intro gb199 hg w31 hbox hb; have n0_ := Aside0.mk (blk_below BK198.out hb); have n1_ := Aside0.mk (below_step (by repeat (first | (with_reducible first | exact HB.out | apply below_alloc | apply pw_below_drewN | apply below_drew1 | refine below_set ?_ GE198.out) | exact HB.out)) hb); have n2_ := Aside0.mk (hbox); have n3_ := Aside0.mk ((by rw [hg]; exact (below_size (by repeat (first | (with_reducible first | exact HB.out | apply below_alloc | apply pw_below_drewN | apply below_drew1 | refine below_set ?_ GE198.out) | exact HB.out))) : w.heap.size ≤ gb199)); have n4_ := n3_; have n5_ := Aside0.mk ((by rw [hg]; exact Nat.ne_of_lt (blk_lt BK198.out) : gb198 ≠ gb199)); have n6_ := Aside0.mk ((by rw [hg]; exact Nat.ne_of_gt (blk_lt BK198.out) : gb199 ≠ gb198)); clear BK198; clear HB; have BK198 := n0_; have HB := n1_; have BK199 := n2_; have GW199 := n3_; have GE199 := n4_; have NB198_199 := n5_; have NB199_198 := n6_; clear n0_ n1_ n2_ n3_ n4_ n5_ n6_; clear hb hbox hg))  -- boxed
          go_ret
          exact ⟨by first | rfl | (simp [errW_none, errW_some] <;> rfl) | (simp [*, errW_none, errW_some] <;> rfl), by repeat (first | (with_reducible first | exact HB.out | apply below_alloc | apply pw_below_drewN | apply below_drew1 | refine below_set ?_ GE198.out | refine below_set ?_ GE199.out) | exact HB.out)⟩
      · rw [if_neg c5] at H
        have c5b0 : (a0_2 == a1_2) = false := beq_eq_false_iff_ne.mpr c5
        have c5b1 : (a0_2 != a1_2) = true := bne_iff_ne.mpr c5
        obtain rfl := Option.some.inj H
        go_enter Try.func110, Try.ntmps110
        go_wp2_with (first | ((with_reducible refine gate_load (t := 3) rfl ?_); refine bx_load rfl _ (by rfl) gb198 _ (by rfl) BK198.out _ Try.underlying3 rfl _ (by rfl) ?_) | ((with_reducible refine gate_load (t := 4) rfl ?_); refine bx_load rfl _ (by rfl) gb198 _ (by rfl) BK198.out _ Try.underlying4 rfl _ (by rfl) ?_) | ((with_reducible refine gate_load (t := 40) rfl ?_); refine load_box rfl 40 _ rfl gb198 rfl Try.underlying40 rfl BK198.out (by kernel_rfl) ?_) | ((with_reducible refine gate_load (t := 3) rfl ?_); refine bx_load rfl _ (by rfl) gb199 _ (by rfl) BK199.out _ Try.underlying3 rfl _ (by rfl) ?_) | ((with_reducible refine gate_load (t := 4) rfl ?_); refine bx_load rfl _ (by rfl) gb199 _ (by rfl) BK199.out _ Try.underlying4 rfl _ (by rfl) ?_) | ((with_reducible refine gate_load (t := 40) rfl ?_); refine load_box rfl 40 _ rfl gb199 rfl Try.underlying40 rfl BK199.out (by kernel_rfl) ?_) | ((with_reducible refine gate_st (t := 40) rfl ?_); refine bx_store rfl rfl _ _ (by rfl) gb198 0 (by rfl) BK198.out _ (by rfl) (by kernel_rfl) (by exact Nat.le_of_ble_eq_true rfl) (by exact oo_7 rfl rfl rfl rfl rfl rfl rfl) ?_; intro w_ hbk_ hg_; simp only [List.take_succ_cons, List.take_zero, List.drop_succ_cons, List.drop_zero, List.cons_append, List.nil_append, List.length_cons, List.length_nil, Nat.reduceAdd] at hbk_; have hlt_ := blk_lt BK198.out; (try (have nc_ := Aside0.mk (bx_other BK199.out hg_ NB199_198.out); clear BK199; have BK199 := nc_; clear nc_)); have nb_ := Aside0.mk hbk_; have nh_ := Aside0.mk (bx_below HB.out hg_ GE198.out hlt_); clear BK198 HB; have BK198 := nb_; have HB := nh_; clear nb_ nh_ hbk_ hg_ hlt_) | ((with_reducible refine gate_st (t := 40) rfl ?_); refine bx_store rfl rfl _ _ (by rfl) gb199 0 (by rfl) BK199.out _ (by rfl) (by kernel_rfl) (by exact Nat.le_of_ble_eq_true rfl) (by exact oo_7 rfl rfl rfl rfl rfl rfl rfl) ?_; intro w_ hbk_ hg_; simp only [List.take_succ_cons, List.take_zero, List.drop_succ_cons, List.drop_zero, List.cons_append, List.nil_append, List.length_cons, List.length_nil, Nat.reduceAdd] at hbk_; have hlt_ := blk_lt BK199.out; (try (have nc_ := Aside0.mk (bx_other BK198.out hg_ NB198_199.out); clear BK198; have BK198 := nc_; clear nc_)); have nb_ := Aside0.mk hbk_; have nh_ := Aside0.mk (bx_below HB.out hg_ GE199.out hlt_); clear BK199 HB; have BK199 := nb_; have HB := nh_; clear nb_ nh_ hbk_ hg_ hlt_) | ((with_reducible refine gate_dst (N := 2) rfl ?_); refine box_event ?hg (N := 2) ?hd (cs := #[.int .i64 a0_0, .int .i64 a0_1, .int .i64 a0_2, .int .i64 a0_3, .int .i64 a0_4, .int .i64 a0_5, .bool a0_6]) (t := 40) ?hr ?_; (case hd => rfl); (case hg => rfl); (case hr => first | (go_simp; done) | (go_simp; rfl)); intro gb198 hg w35 hbox hb; have n0_ := Aside0.mk (below_step (by repeat (first | (with_reducible first | exact HB.out | apply below_alloc | apply pw_below_drewN | apply below_drew1) | exact HB.out)) hb); have n1_ := Aside0.mk (hbox); have n2_ := Aside0.mk ((by rw [hg]; exact (below_size (by repeat (first | (with_reducible first | exact HB.out | apply below_alloc | apply pw_below_drewN | apply below_drew1) | exact HB.out))) : w.heap.size ≤ gb198)); have n3_ := n2_; clear HB; have HB := n0_; have BK198 := n1_; have GW198 := n2_; have GE198 := n3_; clear n0_ n1_ n2_ n3_; clear hb hbox hg) | ((with_reducible refine gate_dst (N := 3) rfl ?_); refine box_event ?hg (N := 3) ?hd (cs := #[.int .i64 a1_0, .int .i64 a1_1, .int .i64 a1_2, .int .i64 a1_3, .int .i64 a1_4, .int .i64 a1_5, .bool a1_6]) (t := 40) ?hr ?_; (case hd => rfl); (case hg => rfl); (case hr => first | (go_simp; done) | (go_simp; rfl)); intro gb199 hg w36 hbox hb; have n0_ := Aside0.mk (blk_below BK198.out hb); have n1_ := Aside0.mk (below_step (by repeat (first | (with_reducible first | exact HB.out | apply below_alloc | apply pw_below_drewN | apply below_drew1 | refine below_set ?_ GE198.out) | exact HB.out)) hb); have n2_ := Aside0.mk (hbox); have n3_ := Aside0.mk ((by rw [hg]; exact (below_size (by repeat (first | (with_reducible first | exact HB.out | apply below_alloc | apply pw_below_drewN | apply below_drew1 | refine below_set ?_ GE198.out) | exact HB.out))) : w.heap.size ≤ gb199)); have n4_ := n3_; have n5_ := Aside0.mk ((by rw [hg]; exact Nat.ne_of_lt (blk_lt BK198.out) : gb198 ≠ gb199)); have n6_ := Aside0.mk ((by rw [hg]; exact Nat.ne_of_gt (blk_lt BK198.out) : gb199 ≠ gb198)); clear BK198; clear HB; have BK198 := n0_; have HB := n1_; have BK199 := n2_; have GW199 := n3_; have GE199 := n4_; have NB198_199 := n5_; have NB199_198 := n6_; clear n0_ n1_ n2_ n3_ n4_ n5_ n6_; clear hb hbox hg))  -- boxed
        go_ret
        exact ⟨by first | rfl | (simp [errW_none, errW_some] <;> rfl) | (simp [*, errW_none, errW_some] <;> rfl), by repeat (first | (with_reducible first | exact HB.out | apply below_alloc | apply pw_below_drewN | apply below_drew1 | refine below_set ?_ GE198.out | refine below_set ?_ GE199.out) | exact HB.out)⟩
    · rw [if_neg c4] at H
      have c4b0 : (a0_1 == a1_1) = false := beq_eq_false_iff_ne.mpr c4
      have c4b1 : (a0_1 != a1_1) = true := bne_iff_ne.mpr c4
      obtain rfl := Option.some.inj H
      go_enter Try.func110, Try.ntmps110
      go_wp2_with (first | ((with_reducible refine gate_load (t := 3) rfl ?_); refine bx_load rfl _ (by rfl) gb198 _ (by rfl) BK198.out _ Try.underlying3 rfl _ (by rfl) ?_) | ((with_reducible refine gate_load (t := 4) rfl ?_); refine bx_load rfl _ (by rfl) gb198 _ (by rfl) BK198.out _ Try.underlying4 rfl _ (by rfl) ?_) | ((with_reducible refine gate_load (t := 40) rfl ?_); refine load_box rfl 40 _ rfl gb198 rfl Try.underlying40 rfl BK198.out (by kernel_rfl) ?_) | ((with_reducible refine gate_load (t := 3) rfl ?_); refine bx_load rfl _ (by rfl) gb199 _ (by rfl) BK199.out _ Try.underlying3 rfl _ (by rfl) ?_) | ((with_reducible refine gate_load (t := 4) rfl ?_); refine bx_load rfl _ (by rfl) gb199 _ (by rfl) BK199.out _ Try.underlying4 rfl _ (by rfl) ?_) | ((with_reducible refine gate_load (t := 40) rfl ?_); refine load_box rfl 40 _ rfl gb199 rfl Try.underlying40 rfl BK199.out (by kernel_rfl) ?_) | ((with_reducible refine gate_st (t := 40) rfl ?_); refine bx_store rfl rfl _ _ (by rfl) gb198 0 (by rfl) BK198.out _ (by rfl) (by kernel_rfl) (by exact Nat.le_of_ble_eq_true rfl) (by exact oo_7 rfl rfl rfl rfl rfl rfl rfl) ?_; intro w_ hbk_ hg_; simp only [List.take_succ_cons, List.take_zero, List.drop_succ_cons, List.drop_zero, List.cons_append, List.nil_append, List.length_cons, List.length_nil, Nat.reduceAdd] at hbk_; have hlt_ := blk_lt BK198.out; (try (have nc_ := Aside0.mk (bx_other BK199.out hg_ NB199_198.out); clear BK199; have BK199 := nc_; clear nc_)); have nb_ := Aside0.mk hbk_; have nh_ := Aside0.mk (bx_below HB.out hg_ GE198.out hlt_); clear BK198 HB; have BK198 := nb_; have HB := nh_; clear nb_ nh_ hbk_ hg_ hlt_) | ((with_reducible refine gate_st (t := 40) rfl ?_); refine bx_store rfl rfl _ _ (by rfl) gb199 0 (by rfl) BK199.out _ (by rfl) (by kernel_rfl) (by exact Nat.le_of_ble_eq_true rfl) (by exact oo_7 rfl rfl rfl rfl rfl rfl rfl) ?_; intro w_ hbk_ hg_; simp only [List.take_succ_cons, List.take_zero, List.drop_succ_cons, List.drop_zero, List.cons_append, List.nil_append, List.length_cons, List.length_nil, Nat.reduceAdd] at hbk_; have hlt_ := blk_lt BK199.out; (try (have nc_ := Aside0.mk (bx_other BK198.out hg_ NB198_199.out); clear BK198; have BK198 := nc_; clear nc_)); have nb_ := Aside0.mk hbk_; have nh_ := Aside0.mk (bx_below HB.out hg_ GE199.out hlt_); clear BK199 HB; have BK199 := nb_; have HB := nh_; clear nb_ nh_ hbk_ hg_ hlt_) | ((with_reducible refine gate_dst (N := 2) rfl ?_); refine box_event ?hg (N := 2) ?hd (cs := #[.int .i64 a0_0, .int .i64 a0_1, .int .i64 a0_2, .int .i64 a0_3, .int .i64 a0_4, .int .i64 a0_5, .bool a0_6]) (t := 40) ?hr ?_; (case hd => rfl); (case hg => rfl); (case hr => first | (go_simp; done) | (go_simp; rfl)); intro gb198 hg w40 hbox hb; have n0_ := Aside0.mk (below_step (by repeat (first | (with_reducible first | exact HB.out | apply below_alloc | apply pw_below_drewN | apply below_drew1) | exact HB.out)) hb); have n1_ := Aside0.mk (hbox); have n2_ := Aside0.mk ((by rw [hg]; exact (below_size (by repeat (first | (with_reducible first | exact HB.out | apply below_alloc | apply pw_below_drewN | apply below_drew1) | exact HB.out))) : w.heap.size ≤ gb198)); have n3_ := n2_; clear HB; have HB := n0_; have BK198 := n1_; have GW198 := n2_; have GE198 := n3_; clear n0_ n1_ n2_ n3_; clear hb hbox hg) | ((with_reducible refine gate_dst (N := 3) rfl ?_); refine box_event ?hg (N := 3) ?hd (cs := #[.int .i64 a1_0, .int .i64 a1_1, .int .i64 a1_2, .int .i64 a1_3, .int .i64 a1_4, .int .i64 a1_5, .bool a1_6]) (t := 40) ?hr ?_; (case hd => rfl); (case hg => rfl); (case hr => first | (go_simp; done) | (go_simp; rfl)); intro gb199 hg w41 hbox hb; have n0_ := Aside0.mk (blk_below BK198.out hb); have n1_ := Aside0.mk (below_step (by repeat (first | (with_reducible first | exact HB.out | apply below_alloc | apply pw_below_drewN | apply below_drew1 | refine below_set ?_ GE198.out) | exact HB.out)) hb); have n2_ := Aside0.mk (hbox); have n3_ := Aside0.mk ((by rw [hg]; exact (below_size (by repeat (first | (with_reducible first | exact HB.out | apply below_alloc | apply pw_below_drewN | apply below_drew1 | refine below_set ?_ GE198.out) | exact HB.out))) : w.heap.size ≤ gb199)); have n4_ := n3_; have n5_ := Aside0.mk ((by rw [hg]; exact Nat.ne_of_lt (blk_lt BK198.out) : gb198 ≠ gb199)); have n6_ := Aside0.mk ((by rw [hg]; exact Nat.ne_of_gt (blk_lt BK198.out) : gb199 ≠ gb198)); clear BK198; clear HB; have BK198 := n0_; have HB := n1_; have BK199 := n2_; have GW199 := n3_; have GE199 := n4_; have NB198_199 := n5_; have NB199_198 := n6_; clear n0_ n1_ n2_ n3_ n4_ n5_ n6_; clear hb hbox hg))  -- boxed
      go_ret
      exact ⟨by first | rfl | (simp [errW_none, errW_some] <;> rfl) | (simp [*, errW_none, errW_some] <;> rfl), by repeat (first | (with_reducible first | exact HB.out | apply below_alloc | apply pw_below_drewN | apply below_drew1 | refine below_set ?_ GE198.out | refine below_set ?_ GE199.out) | exact HB.out)⟩
  · rw [if_neg c3] at H
    have c3b0 : (a0_0 == a1_0) = false := beq_eq_false_iff_ne.mpr c3
    have c3b1 : (a0_0 != a1_0) = true := bne_iff_ne.mpr c3
    obtain rfl := Option.some.inj H
    go_enter Try.func110, Try.ntmps110
    go_wp2_with (first | ((with_reducible refine gate_load (t := 3) rfl ?_); refine bx_load rfl _ (by rfl) gb198 _ (by rfl) BK198.out _ Try.underlying3 rfl _ (by rfl) ?_) | ((with_reducible refine gate_load (t := 4) rfl ?_); refine bx_load rfl _ (by rfl) gb198 _ (by rfl) BK198.out _ Try.underlying4 rfl _ (by rfl) ?_) | ((with_reducible refine gate_load (t := 40) rfl ?_); refine load_box rfl 40 _ rfl gb198 rfl Try.underlying40 rfl BK198.out (by kernel_rfl) ?_) | ((with_reducible refine gate_load (t := 3) rfl ?_); refine bx_load rfl _ (by rfl) gb199 _ (by rfl) BK199.out _ Try.underlying3 rfl _ (by rfl) ?_) | ((with_reducible refine gate_load (t := 4) rfl ?_); refine bx_load rfl _ (by rfl) gb199 _ (by rfl) BK199.out _ Try.underlying4 rfl _ (by rfl) ?_) | ((with_reducible refine gate_load (t := 40) rfl ?_); refine load_box rfl 40 _ rfl gb199 rfl Try.underlying40 rfl BK199.out (by kernel_rfl) ?_) | ((with_reducible refine gate_st (t := 40) rfl ?_); refine bx_store rfl rfl _ _ (by rfl) gb198 0 (by rfl) BK198.out _ (by rfl) (by kernel_rfl) (by exact Nat.le_of_ble_eq_true rfl) (by exact oo_7 rfl rfl rfl rfl rfl rfl rfl) ?_; intro w_ hbk_ hg_; simp only [List.take_succ_cons, List.take_zero, List.drop_succ_cons, List.drop_zero, List.cons_append, List.nil_append, List.length_cons, List.length_nil, Nat.reduceAdd] at hbk_; have hlt_ := blk_lt BK198.out; (try (have nc_ := Aside0.mk (bx_other BK199.out hg_ NB199_198.out); clear BK199; have BK199 := nc_; clear nc_)); have nb_ := Aside0.mk hbk_; have nh_ := Aside0.mk (bx_below HB.out hg_ GE198.out hlt_); clear BK198 HB; have BK198 := nb_; have HB := nh_; clear nb_ nh_ hbk_ hg_ hlt_) | ((with_reducible refine gate_st (t := 40) rfl ?_); refine bx_store rfl rfl _ _ (by rfl) gb199 0 (by rfl) BK199.out _ (by rfl) (by kernel_rfl) (by exact Nat.le_of_ble_eq_true rfl) (by exact oo_7 rfl rfl rfl rfl rfl rfl rfl) ?_; intro w_ hbk_ hg_; simp only [List.take_succ_cons, List.take_zero, List.drop_succ_cons, List.drop_zero, List.cons_append, List.nil_append, List.length_cons, List.length_nil, Nat.reduceAdd] at hbk_; have hlt_ := blk_lt BK199.out; (try (have nc_ := Aside0.mk (bx_other BK198.out hg_ NB198_199.out); clear BK198; have BK198 := nc_; clear nc_)); have nb_ := Aside0.mk hbk_; have nh_ := Aside0.mk (bx_below HB.out hg_ GE199.out hlt_); clear BK199 HB; have BK199 := nb_; have HB := nh_; clear nb_ nh_ hbk_ hg_ hlt_) | ((with_reducible refine gate_dst (N := 2) rfl ?_); refine box_event ?hg (N := 2) ?hd (cs := #[.int .i64 a0_0, .int .i64 a0_1, .int .i64 a0_2, .int .i64 a0_3, .int .i64 a0_4, .int .i64 a0_5, .bool a0_6]) (t := 40) ?hr ?_; (case hd => rfl); (case hg => rfl); (case hr => first | (go_simp; done) | (go_simp; rfl)); intro gb198 hg w45 hbox hb; have n0_ := Aside0.mk (below_step (by repeat (first | (with_reducible first | exact HB.out | apply below_alloc | apply pw_below_drewN | apply below_drew1) | exact HB.out)) hb); have n1_ := Aside0.mk (hbox); have n2_ := Aside0.mk ((by rw [hg]; exact (below_size (by repeat (first | (with_reducible first | exact HB.out | apply below_alloc | apply pw_below_drewN | apply below_drew1) | exact HB.out))) : w.heap.size ≤ gb198)); have n3_ := n2_; clear HB; have HB := n0_; have BK198 := n1_; have GW198 := n2_; have GE198 := n3_; clear n0_ n1_ n2_ n3_; clear hb hbox hg) | ((with_reducible refine gate_dst (N := 3) rfl ?_); refine box_event ?hg (N := 3) ?hd (cs := #[.int .i64 a1_0, .int .i64 a1_1, .int .i64 a1_2, .int .i64 a1_3, .int .i64 a1_4, .int .i64 a1_5, .bool a1_6]) (t := 40) ?hr ?_; (case hd => rfl); (case hg => rfl); (case hr => first | (go_simp; done) | (go_simp; rfl)); intro gb199 hg w46 hbox hb; have n0_ := Aside0.mk (blk_below BK198.out hb); have n1_ := Aside0.mk (below_step (by repeat (first | (with_reducible first | exact HB.out | apply below_alloc | apply pw_below_drewN | apply below_drew1 | refine below_set ?_ GE198.out) | exact HB.out)) hb); have n2_ := Aside0.mk (hbox); have n3_ := Aside0.mk ((by rw [hg]; exact (below_size (by repeat (first | (with_reducible first | exact HB.out | apply below_alloc | apply pw_below_drewN | apply below_drew1 | refine below_set ?_ GE198.out) | exact HB.out))) : w.heap.size ≤ gb199)); have n4_ := n3_; have n5_ := Aside0.mk ((by rw [hg]; exact Nat.ne_of_lt (blk_lt BK198.out) : gb198 ≠ gb199)); have n6_ := Aside0.mk ((by rw [hg]; exact Nat.ne_of_gt (blk_lt BK198.out) : gb199 ≠ gb198)); clear BK198; clear HB; have BK198 := n0_; have HB := n1_; have BK199 := n2_; have GW199 := n3_; have GE199 := n4_; have NB198_199 := n5_; have NB199_198 := n6_; clear n0_ n1_ n2_ n3_ n4_ n5_ n6_; clear hb hbox hg))  -- boxed
    go_ret
    exact ⟨by first | rfl | (simp [errW_none, errW_some] <;> rfl) | (simp [*, errW_none, errW_some] <;> rfl), by repeat (first | (with_reducible first | exact HB.out | apply below_alloc | apply pw_below_drewN | apply below_drew1 | refine below_set ?_ GE198.out | refine below_set ?_ GE199.out) | exact HB.out)⟩

end Go.Proofs.Ytnbmifoebaoemaa.PFnExactMostLeft
