-- Written by wip/fix.py (a program of this session) out of the print of this claim.
import Derived.Test.YtljnfcmcjhggfaaPFnExactStoppedOfx0
import Derived.Test.YtljnfcmcjhggfaaPFnExactStoppedOfx1
import Derived.Test.YtljnfcmcjhggfaaPFnExactStoppedOfx2
namespace Go.Proofs.Ytljnfcmcjhggfaa.PFnExactStoppedOf
open Go.RowKit Go.Proofs.YtljnfcmcjhggfaaW.PrintWords Go.Proofs.YtljnfcmcjhggfaaW.PrintLast Go.Proofs.YtljnfcmcjhggfaaW.PrintMore
attribute [local go_sem] max2_int min2_int max_two min_two max_three min_three max_four min_four   -- for this text's walks alone
set_option linter.unusedVariables false
set_option linter.unusedSimpArgs false

/-! ### laws_eqTurnS: function 58 -/
def laws_eqTurnS.l0 : Nat → List (S71) → List (S71) → Int → Option (Bool)
  | 0, _, _, _ => none
  | k + 1, x0, x1, x5 => if x5 < (x0.length : Int) then (if 0 ≤ x5 then (if x5 < (x1.length : Int) then ((laws_eqTurn.f k ((rd_T71 x0 x5).f0) ((rd_T71 x0 x5).f1) ((rd_T71 x0 x5).f2) ((rd_T71 x0 x5).f3) ((rd_T71 x0 x5).f4.f0) ((rd_T71 x0 x5).f4.f1) ((rd_T71 x0 x5).f4.f2) ((rd_T71 x0 x5).f4.f3) ((rd_T71 x0 x5).f4.f4) ((rd_T71 x0 x5).f4.f5) ((rd_T71 x0 x5).f4.f6) ((rd_T71 x0 x5).f5) ((rd_T71 x0 x5).f6) ((rd_T71 x0 x5).f7) ((rd_T71 x1 x5).f0) ((rd_T71 x1 x5).f1) ((rd_T71 x1 x5).f2) ((rd_T71 x1 x5).f3) ((rd_T71 x1 x5).f4.f0) ((rd_T71 x1 x5).f4.f1) ((rd_T71 x1 x5).f4.f2) ((rd_T71 x1 x5).f4.f3) ((rd_T71 x1 x5).f4.f4) ((rd_T71 x1 x5).f4.f5) ((rd_T71 x1 x5).f4.f6) ((rd_T71 x1 x5).f5) ((rd_T71 x1 x5).f6) ((rd_T71 x1 x5).f7)).bind fun t170 => (if t170 = true then (laws_eqTurnS.l0 k x0 x1 (wrap64 (x5 + 1))) else (some false))) else (none)) else (none)) else (some true)
def laws_eqTurnS.f (k : Nat) (l0 : List (S71)) (l1 : List (S71)) : Option (Bool) := if (l0.length : Int) = (l1.length : Int) then (laws_eqTurnS.l0 k l0 l1 0) else (some false)
theorem laws_eqTurnS.mono_l : ∀ k, (∀ y0 y1 y2, LeO (laws_eqTurnS.l0 k y0 y1 y2) (laws_eqTurnS.l0 (k + 1) y0 y1 y2))
  | 0 => fun _ _ _ r h => by simp [laws_eqTurnS.l0] at h
  | k + 1 => by
    have ih0 := laws_eqTurnS.mono_l k
    · intro y0 y1 y2
      unfold laws_eqTurnS.l0
      repeat' first
      | (with_reducible exact ih0 _ _ _)
      | (with_reducible exact laws_eqTurn.mono _ _ _ _ _ _ _ _ _ _ _ _ _ _ _ _ _ _ _ _ _ _ _ _ _ _ _ _ _)
      | (with_reducible exact LeO.refl _)
      | (with_reducible exact LeO.none _)
      | (with_reducible refine LeO.ite ?_ ?_)
      | (with_reducible refine LeO.bind ?_ (fun _ => ?_))
      | exact ih0 _ _ _
      | exact laws_eqTurn.mono _ _ _ _ _ _ _ _ _ _ _ _ _ _ _ _ _ _ _ _ _ _ _ _ _ _ _ _ _
      | exact LeO.none _
      | refine LeO.ite ?_ ?_
      | refine LeO.bind ?_ (fun _ => ?_)
theorem laws_eqTurnS.mono : ∀ a0 a1 k, LeO (laws_eqTurnS.f k a0 a1) (laws_eqTurnS.f (k + 1) a0 a1) := by
  intro a0 a1 k
  have ih0 := laws_eqTurnS.mono_l k
  unfold laws_eqTurnS.f
  repeat' first
      | (with_reducible exact ih0 _ _ _)
      | (with_reducible exact laws_eqTurn.mono _ _ _ _ _ _ _ _ _ _ _ _ _ _ _ _ _ _ _ _ _ _ _ _ _ _ _ _ _)
      | (with_reducible exact LeO.refl _)
      | (with_reducible exact LeO.none _)
      | (with_reducible refine LeO.ite ?_ ?_)
      | (with_reducible refine LeO.bind ?_ (fun _ => ?_))
      | exact ih0 _ _ _
      | exact laws_eqTurn.mono _ _ _ _ _ _ _ _ _ _ _ _ _ _ _ _ _ _ _ _ _ _ _ _ _ _ _ _ _
      | exact LeO.none _
      | refine LeO.ite ?_ ?_
      | refine LeO.bind ?_ (fun _ => ?_)
def laws_eqTurnS.T6 : Bool × List (List Nat × List Nat) := (true, [([], []), ([], []), ([0, 1], [0, 1]), ([2], [2]), ([], []), ([], []), ([4, 5], [4, 5]), ([6], [6]), ([3, 7], [3, 7]), ([8], [8])])
def laws_eqTurnS.B6 : List Nat := [0, 0, 3, 7, 0, 0, 48, 112, 255, 511]
theorem laws_eqTurnS.tab6 : rtab .any (opsOf Try.f58 6) = laws_eqTurnS.T6 := by kernel_rfl
theorem laws_eqTurnS.bits6 : waitsOk laws_eqTurnS.T6.2 laws_eqTurnS.B6 = true := by kernel_rfl
set_option maxHeartbeats 8000000 in
set_option maxRecDepth 100000 in
theorem laws_eqTurnS.calls (k : Nat) (A0 : Option Addr) (c0 : Nat) (l0 : List (S71)) (A1 : Option Addr) (c1 : Nat) (l1 : List (S71)) (r : Bool) (w : World) (hr0 : Kd.C k71 w A0 l0.length l0) (hc0 : l0.length ≤ c0) (hr1 : Kd.C k71 w A1 l1.length l1) (hc1 : l1.length ≤ c1) (h : laws_eqTurnS.f k l0 l1 = some r) :
    Calls Try.prog 58 #[.slice A0 l0.length c0, .slice A1 l1.length c1] w fun e w' => e = .returned (.bool r) ∧ Below w.heap.size w w' := by
  have hu71 := Try.underlying71
  have HR0 := Aside0.mk hr0
  have HC0 := Aside0.mk hc0
  clear hr0 hc0
  have HR1 := Aside0.mk hr1
  have HC1 := Aside0.mk hc1
  clear hr1 hc1
  have HB := Aside0.mk (Below.refl w.heap.size w)
  have H : (if (l0.length : Int) = (l1.length : Int) then (laws_eqTurnS.l0 k l0 l1 0) else (some false)) = some r := h
  clear h
  by_cases c3 : (l0.length : Int) = (l1.length : Int)
  · rw [if_pos c3] at H
    have c3b0 : ((l0.length : Int) == (l1.length : Int)) = true := beq_iff_eq.mpr c3
    have c3b1 : ((l0.length : Int) != (l1.length : Int)) = false := bne_eq_false_iff_eq.mpr c3
    have c3b2 : (l0.length == l1.length) = true := by first | simpa using c3 | (simp at c3 ⊢; omega)
    clear c3
    have H' := Aside0.mk H
    clear H
    go_enter Try.func58, Try.ntmps58
    go_wp2
    go_loopg [5] k (fun kq v5 w' => ∃ (x5_1 : Int), v5 = .int .i64 x5_1 ∧ Aside0 (laws_eqTurnS.l0 kq l0 l1 x5_1 = some r) ∧ Aside0 (kq ≤ k) ∧ Aside0 (Below w.heap.size w w'))
    case atStart => exact ⟨(0), (by first | rfl | (simp; done) | (simp [*]; done)), H', ⟨Nat.le_refl _⟩, ⟨by repeat (first | (with_reducible first | exact HB.out | apply below_alloc | apply pw_below_drewN | apply below_drew1) | exact HB.out)⟩⟩
    case round =>
      clear H'
      try clear c1
      try clear p2
      try clear c3
      try clear c3b0
      try clear c3b1
      try clear c3b2
      obtain ⟨x5_1, rfl, HA, HK1, HB⟩ := hrel
      cases gk with
      | zero => exact absurd HA.out (by simp [laws_eqTurnS.l0])
      | succ k1 =>
        have H := HA.out
        clear HA
        simp only [laws_eqTurnS.l0] at H
        by_cases c4 : x5_1 < (l0.length : Int)
        · rw [if_pos c4] at H
          have c4b0 : decide (x5_1 < (l0.length : Int)) = true := decide_eq_true c4
          clear c4
          by_cases c5 : 0 ≤ x5_1
          · rw [if_pos c5] at H
            have c5b0 : decide (0 ≤ x5_1) = true := decide_eq_true c5
            clear c5
            by_cases c6 : x5_1 < (l1.length : Int)
            · rw [if_pos c6] at H
              have c6b0 : decide (x5_1 < (l1.length : Int)) = true := decide_eq_true c6
              clear c6
              replace H := Option.bind_eq_some_iff.mp H
              obtain ⟨t170, A70, H⟩ := H
              replace H : (if t170 = true then (laws_eqTurnS.l0 k1 l0 l1 (wrap64 (x5_1 + 1))) else (some false)) = some r := H
              have A7 := Aside0.mk A70
              clear A70
              by_cases c8 : t170 = true
              · subst c8
                have H1 : (laws_eqTurnS.l0 k1 l0 l1 (wrap64 (x5_1 + 1))) = some r := by rw [if_pos rfl] at H; exact H
                clear H
                have H := H1
                clear H1
                have H' := Aside0.mk H
                clear H
                try go_wp2
                have n0_ := Aside0.mk (below_drew1 HB.out)
                clear HB
                have HB := n0_
                clear n0_
                have p168 : 0 ≤ (x5_1 : Int) := of_decide_eq_true (by first | (with_reducible assumption) | assumption)
                have q168 : x5_1 < (l0.length : Int) := of_decide_eq_true (by first | (with_reducible assumption) | assumption)
                obtain ⟨ad168, A168_11, c168_11, e168, hx168_0, hx168_1, hx168_2, hx168_3, hx168_4, hx168_5, hx168_6, hx168_7, hx168_8, hx168_9, hx168_10, hx168_11, hx168_12, hx168_13, hl168_11, hi168_11⟩ := at_T71 HR0.out x5_1 p168 q168
                have hw168_13 := hx168_13
                have hw168_12 := hx168_12
                have hw168_11 := hx168_11
                have hw168_10 := hx168_10
                have hw168_9 := hx168_9
                have hw168_8 := hx168_8
                have hw168_7 := hx168_7
                have hw168_6 := hx168_6
                have hw168_5 := hx168_5
                have hw168_4 := hx168_4
                have hw168_3 := hx168_3
                have hw168_2 := hx168_2
                have hw168_1 := hx168_1
                have hw168_0 := hx168_0
                cases e168
                replace hx168_0 := (HB.out.cell (World.block_lt_of_cell? w _ hx168_0)).trans hx168_0
                replace hx168_1 := (HB.out.cell (World.block_lt_of_cell? w _ hx168_1)).trans hx168_1
                replace hx168_2 := (HB.out.cell (World.block_lt_of_cell? w _ hx168_2)).trans hx168_2
                replace hx168_3 := (HB.out.cell (World.block_lt_of_cell? w _ hx168_3)).trans hx168_3
                replace hx168_4 := (HB.out.cell (World.block_lt_of_cell? w _ hx168_4)).trans hx168_4
                replace hx168_5 := (HB.out.cell (World.block_lt_of_cell? w _ hx168_5)).trans hx168_5
                replace hx168_6 := (HB.out.cell (World.block_lt_of_cell? w _ hx168_6)).trans hx168_6
                replace hx168_7 := (HB.out.cell (World.block_lt_of_cell? w _ hx168_7)).trans hx168_7
                replace hx168_8 := (HB.out.cell (World.block_lt_of_cell? w _ hx168_8)).trans hx168_8
                replace hx168_9 := (HB.out.cell (World.block_lt_of_cell? w _ hx168_9)).trans hx168_9
                replace hx168_10 := (HB.out.cell (World.block_lt_of_cell? w _ hx168_10)).trans hx168_10
                replace hx168_11 := (HB.out.cell (World.block_lt_of_cell? w _ hx168_11)).trans hx168_11
                replace hx168_12 := (HB.out.cell (World.block_lt_of_cell? w _ hx168_12)).trans hx168_12
                replace hx168_13 := (HB.out.cell (World.block_lt_of_cell? w _ hx168_13)).trans hx168_13
                have HR168_11 := Aside0.mk hi168_11
                have HC168_11 := Aside0.mk hl168_11
                clear hi168_11 hl168_11
                replace p168 := eq_true p168
                replace q168 := eq_true q168
                have p169 : 0 ≤ (x5_1 : Int) := of_decide_eq_true (by first | (with_reducible assumption) | assumption)
                have q169 : x5_1 < (l1.length : Int) := of_decide_eq_true (by first | (with_reducible assumption) | assumption)
                obtain ⟨ad169, A169_11, c169_11, e169, hx169_0, hx169_1, hx169_2, hx169_3, hx169_4, hx169_5, hx169_6, hx169_7, hx169_8, hx169_9, hx169_10, hx169_11, hx169_12, hx169_13, hl169_11, hi169_11⟩ := at_T71 HR1.out x5_1 p169 q169
                have hw169_13 := hx169_13
                have hw169_12 := hx169_12
                have hw169_11 := hx169_11
                have hw169_10 := hx169_10
                have hw169_9 := hx169_9
                have hw169_8 := hx169_8
                have hw169_7 := hx169_7
                have hw169_6 := hx169_6
                have hw169_5 := hx169_5
                have hw169_4 := hx169_4
                have hw169_3 := hx169_3
                have hw169_2 := hx169_2
                have hw169_1 := hx169_1
                have hw169_0 := hx169_0
                cases e169
                replace hx169_0 := (HB.out.cell (World.block_lt_of_cell? w _ hx169_0)).trans hx169_0
                replace hx169_1 := (HB.out.cell (World.block_lt_of_cell? w _ hx169_1)).trans hx169_1
                replace hx169_2 := (HB.out.cell (World.block_lt_of_cell? w _ hx169_2)).trans hx169_2
                replace hx169_3 := (HB.out.cell (World.block_lt_of_cell? w _ hx169_3)).trans hx169_3
                replace hx169_4 := (HB.out.cell (World.block_lt_of_cell? w _ hx169_4)).trans hx169_4
                replace hx169_5 := (HB.out.cell (World.block_lt_of_cell? w _ hx169_5)).trans hx169_5
                replace hx169_6 := (HB.out.cell (World.block_lt_of_cell? w _ hx169_6)).trans hx169_6
                replace hx169_7 := (HB.out.cell (World.block_lt_of_cell? w _ hx169_7)).trans hx169_7
                replace hx169_8 := (HB.out.cell (World.block_lt_of_cell? w _ hx169_8)).trans hx169_8
                replace hx169_9 := (HB.out.cell (World.block_lt_of_cell? w _ hx169_9)).trans hx169_9
                replace hx169_10 := (HB.out.cell (World.block_lt_of_cell? w _ hx169_10)).trans hx169_10
                replace hx169_11 := (HB.out.cell (World.block_lt_of_cell? w _ hx169_11)).trans hx169_11
                replace hx169_12 := (HB.out.cell (World.block_lt_of_cell? w _ hx169_12)).trans hx169_12
                replace hx169_13 := (HB.out.cell (World.block_lt_of_cell? w _ hx169_13)).trans hx169_13
                have HR169_11 := Aside0.mk hi169_11
                have HC169_11 := Aside0.mk hl169_11
                clear hi169_11 hl169_11
                replace p169 := eq_true p169
                replace q169 := eq_true q169
                refine start_ (n := 10) (S := fun w' => w'.cell? (ad168.add ((x5_1).toNat * 14)) = some (.int .i64 ((rd_T71 l0 x5_1).f0)) ∧ w'.cell? ⟨(ad168.add ((x5_1).toNat * 14)).block, (ad168.add ((x5_1).toNat * 14)).off + 1, none⟩ = some (.int .i64 ((rd_T71 l0 x5_1).f1)) ∧ w'.cell? ⟨(ad168.add ((x5_1).toNat * 14)).block, (ad168.add ((x5_1).toNat * 14)).off + 2, none⟩ = some (.int .i64 ((rd_T71 l0 x5_1).f2)) ∧ w'.cell? ⟨(ad168.add ((x5_1).toNat * 14)).block, (ad168.add ((x5_1).toNat * 14)).off + 3, none⟩ = some (.int .i64 ((rd_T71 l0 x5_1).f3)) ∧ w'.cell? ⟨(ad168.add ((x5_1).toNat * 14)).block, (ad168.add ((x5_1).toNat * 14)).off + 4, none⟩ = some (.int .i64 ((rd_T71 l0 x5_1).f4.f0)) ∧ w'.cell? ⟨(ad168.add ((x5_1).toNat * 14)).block, (ad168.add ((x5_1).toNat * 14)).off + 5, none⟩ = some (.int .i64 ((rd_T71 l0 x5_1).f4.f1)) ∧ w'.cell? ⟨(ad168.add ((x5_1).toNat * 14)).block, (ad168.add ((x5_1).toNat * 14)).off + 6, none⟩ = some (.int .i64 ((rd_T71 l0 x5_1).f4.f2)) ∧ w'.cell? ⟨(ad168.add ((x5_1).toNat * 14)).block, (ad168.add ((x5_1).toNat * 14)).off + 7, none⟩ = some (.int .i64 ((rd_T71 l0 x5_1).f4.f3)) ∧ w'.cell? ⟨(ad168.add ((x5_1).toNat * 14)).block, (ad168.add ((x5_1).toNat * 14)).off + 8, none⟩ = some (.int .i64 ((rd_T71 l0 x5_1).f4.f4)) ∧ w'.cell? ⟨(ad168.add ((x5_1).toNat * 14)).block, (ad168.add ((x5_1).toNat * 14)).off + 9, none⟩ = some (.int .i64 ((rd_T71 l0 x5_1).f4.f5)) ∧ w'.cell? ⟨(ad168.add ((x5_1).toNat * 14)).block, (ad168.add ((x5_1).toNat * 14)).off + 10, none⟩ = some (.bool ((rd_T71 l0 x5_1).f4.f6)) ∧ w'.cell? ⟨(ad168.add ((x5_1).toNat * 14)).block, (ad168.add ((x5_1).toNat * 14)).off + 11, none⟩ = some (.slice A168_11 ((rd_T71 l0 x5_1).f5).length c168_11) ∧ w'.cell? ⟨(ad168.add ((x5_1).toNat * 14)).block, (ad168.add ((x5_1).toNat * 14)).off + 12, none⟩ = some (.int .i64 ((rd_T71 l0 x5_1).f6)) ∧ w'.cell? ⟨(ad168.add ((x5_1).toNat * 14)).block, (ad168.add ((x5_1).toNat * 14)).off + 13, none⟩ = some (.int .i64 ((rd_T71 l0 x5_1).f7)) ∧ w'.cell? (ad169.add ((x5_1).toNat * 14)) = some (.int .i64 ((rd_T71 l1 x5_1).f0)) ∧ w'.cell? ⟨(ad169.add ((x5_1).toNat * 14)).block, (ad169.add ((x5_1).toNat * 14)).off + 1, none⟩ = some (.int .i64 ((rd_T71 l1 x5_1).f1)) ∧ w'.cell? ⟨(ad169.add ((x5_1).toNat * 14)).block, (ad169.add ((x5_1).toNat * 14)).off + 2, none⟩ = some (.int .i64 ((rd_T71 l1 x5_1).f2)) ∧ w'.cell? ⟨(ad169.add ((x5_1).toNat * 14)).block, (ad169.add ((x5_1).toNat * 14)).off + 3, none⟩ = some (.int .i64 ((rd_T71 l1 x5_1).f3)) ∧ w'.cell? ⟨(ad169.add ((x5_1).toNat * 14)).block, (ad169.add ((x5_1).toNat * 14)).off + 4, none⟩ = some (.int .i64 ((rd_T71 l1 x5_1).f4.f0)) ∧ w'.cell? ⟨(ad169.add ((x5_1).toNat * 14)).block, (ad169.add ((x5_1).toNat * 14)).off + 5, none⟩ = some (.int .i64 ((rd_T71 l1 x5_1).f4.f1)) ∧ w'.cell? ⟨(ad169.add ((x5_1).toNat * 14)).block, (ad169.add ((x5_1).toNat * 14)).off + 6, none⟩ = some (.int .i64 ((rd_T71 l1 x5_1).f4.f2)) ∧ w'.cell? ⟨(ad169.add ((x5_1).toNat * 14)).block, (ad169.add ((x5_1).toNat * 14)).off + 7, none⟩ = some (.int .i64 ((rd_T71 l1 x5_1).f4.f3)) ∧ w'.cell? ⟨(ad169.add ((x5_1).toNat * 14)).block, (ad169.add ((x5_1).toNat * 14)).off + 8, none⟩ = some (.int .i64 ((rd_T71 l1 x5_1).f4.f4)) ∧ w'.cell? ⟨(ad169.add ((x5_1).toNat * 14)).block, (ad169.add ((x5_1).toNat * 14)).off + 9, none⟩ = some (.int .i64 ((rd_T71 l1 x5_1).f4.f5)) ∧ w'.cell? ⟨(ad169.add ((x5_1).toNat * 14)).block, (ad169.add ((x5_1).toNat * 14)).off + 10, none⟩ = some (.bool ((rd_T71 l1 x5_1).f4.f6)) ∧ w'.cell? ⟨(ad169.add ((x5_1).toNat * 14)).block, (ad169.add ((x5_1).toNat * 14)).off + 11, none⟩ = some (.slice A169_11 ((rd_T71 l1 x5_1).f5).length c169_11) ∧ w'.cell? ⟨(ad169.add ((x5_1).toNat * 14)).block, (ad169.add ((x5_1).toNat * 14)).off + 12, none⟩ = some (.int .i64 ((rd_T71 l1 x5_1).f6)) ∧ w'.cell? ⟨(ad169.add ((x5_1).toNat * 14)).block, (ad169.add ((x5_1).toNat * 14)).off + 13, none⟩ = some (.int .i64 ((rd_T71 l1 x5_1).f7))) (ds := []) #[false, false, false, false, false, false, false, false, false, false] (by kernel_rfl) rfl rfl ⟨((HB.out.cell (World.block_lt_of_cell? w _ hw168_0)).trans hw168_0), ((HB.out.cell (World.block_lt_of_cell? w _ hw168_1)).trans hw168_1), ((HB.out.cell (World.block_lt_of_cell? w _ hw168_2)).trans hw168_2), ((HB.out.cell (World.block_lt_of_cell? w _ hw168_3)).trans hw168_3), ((HB.out.cell (World.block_lt_of_cell? w _ hw168_4)).trans hw168_4), ((HB.out.cell (World.block_lt_of_cell? w _ hw168_5)).trans hw168_5), ((HB.out.cell (World.block_lt_of_cell? w _ hw168_6)).trans hw168_6), ((HB.out.cell (World.block_lt_of_cell? w _ hw168_7)).trans hw168_7), ((HB.out.cell (World.block_lt_of_cell? w _ hw168_8)).trans hw168_8), ((HB.out.cell (World.block_lt_of_cell? w _ hw168_9)).trans hw168_9), ((HB.out.cell (World.block_lt_of_cell? w _ hw168_10)).trans hw168_10), ((HB.out.cell (World.block_lt_of_cell? w _ hw168_11)).trans hw168_11), ((HB.out.cell (World.block_lt_of_cell? w _ hw168_12)).trans hw168_12), ((HB.out.cell (World.block_lt_of_cell? w _ hw168_13)).trans hw168_13), ((HB.out.cell (World.block_lt_of_cell? w _ hw169_0)).trans hw169_0), ((HB.out.cell (World.block_lt_of_cell? w _ hw169_1)).trans hw169_1), ((HB.out.cell (World.block_lt_of_cell? w _ hw169_2)).trans hw169_2), ((HB.out.cell (World.block_lt_of_cell? w _ hw169_3)).trans hw169_3), ((HB.out.cell (World.block_lt_of_cell? w _ hw169_4)).trans hw169_4), ((HB.out.cell (World.block_lt_of_cell? w _ hw169_5)).trans hw169_5), ((HB.out.cell (World.block_lt_of_cell? w _ hw169_6)).trans hw169_6), ((HB.out.cell (World.block_lt_of_cell? w _ hw169_7)).trans hw169_7), ((HB.out.cell (World.block_lt_of_cell? w _ hw169_8)).trans hw169_8), ((HB.out.cell (World.block_lt_of_cell? w _ hw169_9)).trans hw169_9), ((HB.out.cell (World.block_lt_of_cell? w _ hw169_10)).trans hw169_10), ((HB.out.cell (World.block_lt_of_cell? w _ hw169_11)).trans hw169_11), ((HB.out.cell (World.block_lt_of_cell? w _ hw169_12)).trans hw169_12), ((HB.out.cell (World.block_lt_of_cell? w _ hw169_13)).trans hw169_13)⟩ (fun hHeld => ?_); refine with_tabW laws_eqTurnS.tab6 laws_eqTurnS.bits6 (fun HT_ HW_ => ?_)
                generalize wr.drew = w9 at HB HR168_11 HR169_11 hx168_0 hx168_1 hx168_10 hx168_11 hx168_12 hx168_13 hx168_2 hx168_3 hx168_4 hx168_5 hx168_6 hx168_7 hx168_8 hx168_9 hx169_0 hx169_1 hx169_10 hx169_11 hx169_12 hx169_13 hx169_2 hx169_3 hx169_4 hx169_5 hx169_6 hx169_7 hx169_8 hx169_9 hHeld ⊢
                refine pure_ (i := 0) (N := some 17) (v := ?_) (a' := ?_) #[true, false, false, false, false, false, false, false, false, false] rfl rfl (any_of HT_.out (by kernel_rfl)) (fun _ _ _ h => h) (Or.inl ⟨by rfl, ?_⟩) ?_ ?_
                rotate_left
                · intro w'
                  go_simp
                  with_reducible rfl
                rotate_left
                · simp only [Act.put, List.setIfInBounds_toArray, List.set_cons_zero, List.set_cons_succ, i64_w, i32_w]
                  rfl
                refine pure_ (i := 1) (N := some 18) (v := ?_) (a' := ?_) #[true, true, false, false, false, false, false, false, false, false] rfl rfl (any_of HT_.out (by kernel_rfl)) (fun _ _ _ h => h) (Or.inl ⟨by rfl, ?_⟩) ?_ ?_
                rotate_left
                · intro w'
                  go_simp
                  with_reducible rfl
                rotate_left
                · simp only [Act.put, List.setIfInBounds_toArray, List.set_cons_zero, List.set_cons_succ, i64_w, i32_w]
                  rfl
                refine pure_ (i := 2) (N := some 19) (v := ?_) (a' := ?_) #[true, true, true, false, false, false, false, false, false, false] rfl rfl (any_of HT_.out (by kernel_rfl)) (fun _ _ _ h => h) (Or.inl ⟨by rfl, ?_⟩) ?_ ?_
                rotate_left
                · intro w'
                  go_simp
                  with_reducible rfl
                rotate_left
                · simp only [Act.put, List.setIfInBounds_toArray, List.set_cons_zero, List.set_cons_succ, i64_w, i32_w]
                  rfl
                refine pure_ (i := 4) (N := some 21) (v := ?_) (a' := ?_) #[true, true, true, false, true, false, false, false, false, false] rfl rfl (any_of HT_.out (by kernel_rfl)) (fun _ _ _ h => h) (Or.inl ⟨by rfl, ?_⟩) ?_ ?_
                rotate_left
                · intro w'
                  go_simp
                  with_reducible rfl
                rotate_left
                · simp only [Act.put, List.setIfInBounds_toArray, List.set_cons_zero, List.set_cons_succ, i64_w, i32_w]
                  rfl
                refine pure_ (i := 5) (N := some 22) (v := ?_) (a' := ?_) #[true, true, true, false, true, true, false, false, false, false] rfl rfl (any_of HT_.out (by kernel_rfl)) (fun _ _ _ h => h) (Or.inl ⟨by rfl, ?_⟩) ?_ ?_
                rotate_left
                · intro w'
                  go_simp
                  with_reducible rfl
                rotate_left
                · simp only [Act.put, List.setIfInBounds_toArray, List.set_cons_zero, List.set_cons_succ, i64_w, i32_w]
                  rfl
                refine pure_ (i := 6) (N := some 23) (v := ?_) (a' := ?_) #[true, true, true, false, true, true, true, false, false, false] rfl rfl (any_of HT_.out (by kernel_rfl)) (fun _ _ _ h => h) (Or.inl ⟨by rfl, ?_⟩) ?_ ?_
                rotate_left
                · intro w'
                  go_simp
                  with_reducible rfl
                rotate_left
                · simp only [Act.put, List.setIfInBounds_toArray, List.set_cons_zero, List.set_cons_succ, i64_w, i32_w]
                  rfl
                refine take_ (i := 3) (N := some 20) (v := ?_) (a' := ?_) #[true, true, true, true, true, true, true, false, false, false] rfl rfl (take_ofW HT_.out HW_.out (by kernel_rfl)) (fun _ _ _ h => h) (Or.inl ⟨by rfl, ?_⟩) hHeld ?_ ?_
                rotate_left
                · rintro w' ⟨s0, s1, s2, s3, s4, s5, s6, s7, s8, s9, s10, s11, s12, s13, s14, s15, s16, s17, s18, s19, s20, s21, s22, s23, s24, s25, s26, s27⟩
                  go_simp
                  with_reducible rfl
                rotate_left
                · simp only [Act.put, List.setIfInBounds_toArray, List.set_cons_zero, List.set_cons_succ, i64_w, i32_w]
                  rfl
                refine take_ (i := 7) (N := some 24) (v := ?_) (a' := ?_) #[true, true, true, true, true, true, true, true, false, false] rfl rfl (take_ofW HT_.out HW_.out (by kernel_rfl)) (fun _ _ _ h => h) (Or.inl ⟨by rfl, ?_⟩) hHeld ?_ ?_
                rotate_left
                · rintro w' ⟨s0, s1, s2, s3, s4, s5, s6, s7, s8, s9, s10, s11, s12, s13, s14, s15, s16, s17, s18, s19, s20, s21, s22, s23, s24, s25, s26, s27⟩
                  go_simp
                  with_reducible rfl
                rotate_left
                · simp only [Act.put, List.setIfInBounds_toArray, List.set_cons_zero, List.set_cons_succ, i64_w, i32_w]
                  rfl
                refine one_ (i := 8) (N := some 25) #[true, true, true, true, true, true, true, true, true, false] rfl rfl (one_of HT_.out (by kernel_rfl)) (by decide) (fun K hK => ?_)
                refine goes_ Try.func53 (by kernel_rfl) rfl #[.agg #[.int .i64 ((rd_T71 l0 x5_1).f0), .int .i64 ((rd_T71 l0 x5_1).f1), .int .i64 ((rd_T71 l0 x5_1).f2), .int .i64 ((rd_T71 l0 x5_1).f3), .int .i64 ((rd_T71 l0 x5_1).f4.f0), .int .i64 ((rd_T71 l0 x5_1).f4.f1), .int .i64 ((rd_T71 l0 x5_1).f4.f2), .int .i64 ((rd_T71 l0 x5_1).f4.f3), .int .i64 ((rd_T71 l0 x5_1).f4.f4), .int .i64 ((rd_T71 l0 x5_1).f4.f5), .bool ((rd_T71 l0 x5_1).f4.f6), .slice A168_11 ((rd_T71 l0 x5_1).f5).length c168_11, .int .i64 ((rd_T71 l0 x5_1).f6), .int .i64 ((rd_T71 l0 x5_1).f7)], .agg #[.int .i64 ((rd_T71 l1 x5_1).f0), .int .i64 ((rd_T71 l1 x5_1).f1), .int .i64 ((rd_T71 l1 x5_1).f2), .int .i64 ((rd_T71 l1 x5_1).f3), .int .i64 ((rd_T71 l1 x5_1).f4.f0), .int .i64 ((rd_T71 l1 x5_1).f4.f1), .int .i64 ((rd_T71 l1 x5_1).f4.f2), .int .i64 ((rd_T71 l1 x5_1).f4.f3), .int .i64 ((rd_T71 l1 x5_1).f4.f4), .int .i64 ((rd_T71 l1 x5_1).f4.f5), .bool ((rd_T71 l1 x5_1).f4.f6), .slice A169_11 ((rd_T71 l1 x5_1).f5).length c169_11, .int .i64 ((rd_T71 l1 x5_1).f6), .int .i64 ((rd_T71 l1 x5_1).f7)]] (by rfl) rfl rfl (by (try simp only [List.map_toArray, List.map_cons, List.map_nil]); first | done | rfl | (simp only [List.length_drop, List.length_take]; rfl)) ?_
                with_reducible refine (laws_eqTurn.calls k1 ((rd_T71 l0 x5_1).f0) ((rd_T71 l0 x5_1).f1) ((rd_T71 l0 x5_1).f2) ((rd_T71 l0 x5_1).f3) ((rd_T71 l0 x5_1).f4.f0) ((rd_T71 l0 x5_1).f4.f1) ((rd_T71 l0 x5_1).f4.f2) ((rd_T71 l0 x5_1).f4.f3) ((rd_T71 l0 x5_1).f4.f4) ((rd_T71 l0 x5_1).f4.f5) ((rd_T71 l0 x5_1).f4.f6) _ _ ((rd_T71 l0 x5_1).f5) ((rd_T71 l0 x5_1).f6) ((rd_T71 l0 x5_1).f7) ((rd_T71 l1 x5_1).f0) ((rd_T71 l1 x5_1).f1) ((rd_T71 l1 x5_1).f2) ((rd_T71 l1 x5_1).f3) ((rd_T71 l1 x5_1).f4.f0) ((rd_T71 l1 x5_1).f4.f1) ((rd_T71 l1 x5_1).f4.f2) ((rd_T71 l1 x5_1).f4.f3) ((rd_T71 l1 x5_1).f4.f4) ((rd_T71 l1 x5_1).f4.f5) ((rd_T71 l1 x5_1).f4.f6) _ _ ((rd_T71 l1 x5_1).f5) ((rd_T71 l1 x5_1).f6) ((rd_T71 l1 x5_1).f7) true _ ?side1 ?side2 ?side3 ?side4 A7.out).mono ?_
                (case side1 => repeat (first | exact (Kd.C_below HR168_11.out HB.out) | (with_reducible refine Kd.C_alloc ?_ _) | (with_reducible refine Kd.C_drewN ?_ _) | (with_reducible refine Kd.C_drew ?_)))
                (case side2 => exact HC168_11.out)
                (case side3 => repeat (first | exact (Kd.C_below HR169_11.out HB.out) | (with_reducible refine Kd.C_alloc ?_ _) | (with_reducible refine Kd.C_drewN ?_ _) | (with_reducible refine Kd.C_drew ?_)))
                (case side4 => exact HC169_11.out)
                rintro e w10 ⟨rfl, hb⟩
                refine ⟨_, rfl, ?_⟩
                have n0_ := Aside0.mk (below_step (by repeat (first | (with_reducible first | exact HB.out | apply below_alloc | apply pw_below_drewN | apply below_drew1) | exact HB.out)) hb)
                clear HB
                have HB := n0_
                clear n0_
                (try clear hb)
                (try clear hb2)
                (try clear hk)
                (try clear hi)
                refine hK.out _ _ ⟨((HB.out.cell (World.block_lt_of_cell? w _ hw168_0)).trans hw168_0), ((HB.out.cell (World.block_lt_of_cell? w _ hw168_1)).trans hw168_1), ((HB.out.cell (World.block_lt_of_cell? w _ hw168_2)).trans hw168_2), ((HB.out.cell (World.block_lt_of_cell? w _ hw168_3)).trans hw168_3), ((HB.out.cell (World.block_lt_of_cell? w _ hw168_4)).trans hw168_4), ((HB.out.cell (World.block_lt_of_cell? w _ hw168_5)).trans hw168_5), ((HB.out.cell (World.block_lt_of_cell? w _ hw168_6)).trans hw168_6), ((HB.out.cell (World.block_lt_of_cell? w _ hw168_7)).trans hw168_7), ((HB.out.cell (World.block_lt_of_cell? w _ hw168_8)).trans hw168_8), ((HB.out.cell (World.block_lt_of_cell? w _ hw168_9)).trans hw168_9), ((HB.out.cell (World.block_lt_of_cell? w _ hw168_10)).trans hw168_10), ((HB.out.cell (World.block_lt_of_cell? w _ hw168_11)).trans hw168_11), ((HB.out.cell (World.block_lt_of_cell? w _ hw168_12)).trans hw168_12), ((HB.out.cell (World.block_lt_of_cell? w _ hw168_13)).trans hw168_13), ((HB.out.cell (World.block_lt_of_cell? w _ hw169_0)).trans hw169_0), ((HB.out.cell (World.block_lt_of_cell? w _ hw169_1)).trans hw169_1), ((HB.out.cell (World.block_lt_of_cell? w _ hw169_2)).trans hw169_2), ((HB.out.cell (World.block_lt_of_cell? w _ hw169_3)).trans hw169_3), ((HB.out.cell (World.block_lt_of_cell? w _ hw169_4)).trans hw169_4), ((HB.out.cell (World.block_lt_of_cell? w _ hw169_5)).trans hw169_5), ((HB.out.cell (World.block_lt_of_cell? w _ hw169_6)).trans hw169_6), ((HB.out.cell (World.block_lt_of_cell? w _ hw169_7)).trans hw169_7), ((HB.out.cell (World.block_lt_of_cell? w _ hw169_8)).trans hw169_8), ((HB.out.cell (World.block_lt_of_cell? w _ hw169_9)).trans hw169_9), ((HB.out.cell (World.block_lt_of_cell? w _ hw169_10)).trans hw169_10), ((HB.out.cell (World.block_lt_of_cell? w _ hw169_11)).trans hw169_11), ((HB.out.cell (World.block_lt_of_cell? w _ hw169_12)).trans hw169_12), ((HB.out.cell (World.block_lt_of_cell? w _ hw169_13)).trans hw169_13)⟩ (fun hHeld => ?_)
                clear hK K
                refine norm_ (a' := ?_) ?_ ?_
                rotate_left
                · show Act.put _ (some 25) _ = _
                  simp only [Act.put, List.setIfInBounds_toArray, List.set_cons_zero, List.set_cons_succ, i64_w, i32_w]
                  rfl
                refine pure_ (i := 9) (N := some 26) (v := ?_) (a' := ?_) #[true, true, true, true, true, true, true, true, true, true] rfl rfl (any_of HT_.out (by kernel_rfl)) (fun _ _ _ h => h) (Or.inl ⟨by rfl, ?_⟩) ?_ ?_
                rotate_left
                · intro w'
                  go_simp
                  with_reducible rfl
                rotate_left
                · simp only [Act.put, List.setIfInBounds_toArray, List.set_cons_zero, List.set_cons_succ, i64_w, i32_w]
                  rfl
                refine done_ (done_of HT_.out (by kernel_rfl)) ?_
                try go_wp2
                go_roundg k1
                case measure => have := HK1.out; omega
                case rel => exact ⟨(wrap64 (x5_1 + 1)), (by first | rfl | (simp; done) | (simp [*]; done)), H', ⟨by have := HK1.out; omega⟩, ⟨by repeat (first | (with_reducible first | exact HB.out | apply below_alloc | apply pw_below_drewN | apply below_drew1) | exact HB.out)⟩⟩
              · replace c8 := Bool.eq_false_iff.mpr c8
                subst c8
                have H1 : (some false) = some r := by rw [if_neg (show ¬ (false = true) by decide)] at H; exact H
                clear H
                have H := H1
                clear H1
                obtain rfl := Option.some.inj H
                try go_wp2
                have n0_ := Aside0.mk (below_drew1 HB.out)
                clear HB
                have HB := n0_
                clear n0_
                have p168 : 0 ≤ (x5_1 : Int) := of_decide_eq_true (by first | (with_reducible assumption) | assumption)
                have q168 : x5_1 < (l0.length : Int) := of_decide_eq_true (by first | (with_reducible assumption) | assumption)
                obtain ⟨ad168, A168_11, c168_11, e168, hx168_0, hx168_1, hx168_2, hx168_3, hx168_4, hx168_5, hx168_6, hx168_7, hx168_8, hx168_9, hx168_10, hx168_11, hx168_12, hx168_13, hl168_11, hi168_11⟩ := at_T71 HR0.out x5_1 p168 q168
                have hw168_13 := hx168_13
                have hw168_12 := hx168_12
                have hw168_11 := hx168_11
                have hw168_10 := hx168_10
                have hw168_9 := hx168_9
                have hw168_8 := hx168_8
                have hw168_7 := hx168_7
                have hw168_6 := hx168_6
                have hw168_5 := hx168_5
                have hw168_4 := hx168_4
                have hw168_3 := hx168_3
                have hw168_2 := hx168_2
                have hw168_1 := hx168_1
                have hw168_0 := hx168_0
                cases e168
                replace hx168_0 := (HB.out.cell (World.block_lt_of_cell? w _ hx168_0)).trans hx168_0
                replace hx168_1 := (HB.out.cell (World.block_lt_of_cell? w _ hx168_1)).trans hx168_1
                replace hx168_2 := (HB.out.cell (World.block_lt_of_cell? w _ hx168_2)).trans hx168_2
                replace hx168_3 := (HB.out.cell (World.block_lt_of_cell? w _ hx168_3)).trans hx168_3
                replace hx168_4 := (HB.out.cell (World.block_lt_of_cell? w _ hx168_4)).trans hx168_4
                replace hx168_5 := (HB.out.cell (World.block_lt_of_cell? w _ hx168_5)).trans hx168_5
                replace hx168_6 := (HB.out.cell (World.block_lt_of_cell? w _ hx168_6)).trans hx168_6
                replace hx168_7 := (HB.out.cell (World.block_lt_of_cell? w _ hx168_7)).trans hx168_7
                replace hx168_8 := (HB.out.cell (World.block_lt_of_cell? w _ hx168_8)).trans hx168_8
                replace hx168_9 := (HB.out.cell (World.block_lt_of_cell? w _ hx168_9)).trans hx168_9
                replace hx168_10 := (HB.out.cell (World.block_lt_of_cell? w _ hx168_10)).trans hx168_10
                replace hx168_11 := (HB.out.cell (World.block_lt_of_cell? w _ hx168_11)).trans hx168_11
                replace hx168_12 := (HB.out.cell (World.block_lt_of_cell? w _ hx168_12)).trans hx168_12
                replace hx168_13 := (HB.out.cell (World.block_lt_of_cell? w _ hx168_13)).trans hx168_13
                have HR168_11 := Aside0.mk hi168_11
                have HC168_11 := Aside0.mk hl168_11
                clear hi168_11 hl168_11
                replace p168 := eq_true p168
                replace q168 := eq_true q168
                have p169 : 0 ≤ (x5_1 : Int) := of_decide_eq_true (by first | (with_reducible assumption) | assumption)
                have q169 : x5_1 < (l1.length : Int) := of_decide_eq_true (by first | (with_reducible assumption) | assumption)
                obtain ⟨ad169, A169_11, c169_11, e169, hx169_0, hx169_1, hx169_2, hx169_3, hx169_4, hx169_5, hx169_6, hx169_7, hx169_8, hx169_9, hx169_10, hx169_11, hx169_12, hx169_13, hl169_11, hi169_11⟩ := at_T71 HR1.out x5_1 p169 q169
                have hw169_13 := hx169_13
                have hw169_12 := hx169_12
                have hw169_11 := hx169_11
                have hw169_10 := hx169_10
                have hw169_9 := hx169_9
                have hw169_8 := hx169_8
                have hw169_7 := hx169_7
                have hw169_6 := hx169_6
                have hw169_5 := hx169_5
                have hw169_4 := hx169_4
                have hw169_3 := hx169_3
                have hw169_2 := hx169_2
                have hw169_1 := hx169_1
                have hw169_0 := hx169_0
                cases e169
                replace hx169_0 := (HB.out.cell (World.block_lt_of_cell? w _ hx169_0)).trans hx169_0
                replace hx169_1 := (HB.out.cell (World.block_lt_of_cell? w _ hx169_1)).trans hx169_1
                replace hx169_2 := (HB.out.cell (World.block_lt_of_cell? w _ hx169_2)).trans hx169_2
                replace hx169_3 := (HB.out.cell (World.block_lt_of_cell? w _ hx169_3)).trans hx169_3
                replace hx169_4 := (HB.out.cell (World.block_lt_of_cell? w _ hx169_4)).trans hx169_4
                replace hx169_5 := (HB.out.cell (World.block_lt_of_cell? w _ hx169_5)).trans hx169_5
                replace hx169_6 := (HB.out.cell (World.block_lt_of_cell? w _ hx169_6)).trans hx169_6
                replace hx169_7 := (HB.out.cell (World.block_lt_of_cell? w _ hx169_7)).trans hx169_7
                replace hx169_8 := (HB.out.cell (World.block_lt_of_cell? w _ hx169_8)).trans hx169_8
                replace hx169_9 := (HB.out.cell (World.block_lt_of_cell? w _ hx169_9)).trans hx169_9
                replace hx169_10 := (HB.out.cell (World.block_lt_of_cell? w _ hx169_10)).trans hx169_10
                replace hx169_11 := (HB.out.cell (World.block_lt_of_cell? w _ hx169_11)).trans hx169_11
                replace hx169_12 := (HB.out.cell (World.block_lt_of_cell? w _ hx169_12)).trans hx169_12
                replace hx169_13 := (HB.out.cell (World.block_lt_of_cell? w _ hx169_13)).trans hx169_13
                have HR169_11 := Aside0.mk hi169_11
                have HC169_11 := Aside0.mk hl169_11
                clear hi169_11 hl169_11
                replace p169 := eq_true p169
                replace q169 := eq_true q169
                refine start_ (n := 10) (S := fun w' => w'.cell? (ad168.add ((x5_1).toNat * 14)) = some (.int .i64 ((rd_T71 l0 x5_1).f0)) ∧ w'.cell? ⟨(ad168.add ((x5_1).toNat * 14)).block, (ad168.add ((x5_1).toNat * 14)).off + 1, none⟩ = some (.int .i64 ((rd_T71 l0 x5_1).f1)) ∧ w'.cell? ⟨(ad168.add ((x5_1).toNat * 14)).block, (ad168.add ((x5_1).toNat * 14)).off + 2, none⟩ = some (.int .i64 ((rd_T71 l0 x5_1).f2)) ∧ w'.cell? ⟨(ad168.add ((x5_1).toNat * 14)).block, (ad168.add ((x5_1).toNat * 14)).off + 3, none⟩ = some (.int .i64 ((rd_T71 l0 x5_1).f3)) ∧ w'.cell? ⟨(ad168.add ((x5_1).toNat * 14)).block, (ad168.add ((x5_1).toNat * 14)).off + 4, none⟩ = some (.int .i64 ((rd_T71 l0 x5_1).f4.f0)) ∧ w'.cell? ⟨(ad168.add ((x5_1).toNat * 14)).block, (ad168.add ((x5_1).toNat * 14)).off + 5, none⟩ = some (.int .i64 ((rd_T71 l0 x5_1).f4.f1)) ∧ w'.cell? ⟨(ad168.add ((x5_1).toNat * 14)).block, (ad168.add ((x5_1).toNat * 14)).off + 6, none⟩ = some (.int .i64 ((rd_T71 l0 x5_1).f4.f2)) ∧ w'.cell? ⟨(ad168.add ((x5_1).toNat * 14)).block, (ad168.add ((x5_1).toNat * 14)).off + 7, none⟩ = some (.int .i64 ((rd_T71 l0 x5_1).f4.f3)) ∧ w'.cell? ⟨(ad168.add ((x5_1).toNat * 14)).block, (ad168.add ((x5_1).toNat * 14)).off + 8, none⟩ = some (.int .i64 ((rd_T71 l0 x5_1).f4.f4)) ∧ w'.cell? ⟨(ad168.add ((x5_1).toNat * 14)).block, (ad168.add ((x5_1).toNat * 14)).off + 9, none⟩ = some (.int .i64 ((rd_T71 l0 x5_1).f4.f5)) ∧ w'.cell? ⟨(ad168.add ((x5_1).toNat * 14)).block, (ad168.add ((x5_1).toNat * 14)).off + 10, none⟩ = some (.bool ((rd_T71 l0 x5_1).f4.f6)) ∧ w'.cell? ⟨(ad168.add ((x5_1).toNat * 14)).block, (ad168.add ((x5_1).toNat * 14)).off + 11, none⟩ = some (.slice A168_11 ((rd_T71 l0 x5_1).f5).length c168_11) ∧ w'.cell? ⟨(ad168.add ((x5_1).toNat * 14)).block, (ad168.add ((x5_1).toNat * 14)).off + 12, none⟩ = some (.int .i64 ((rd_T71 l0 x5_1).f6)) ∧ w'.cell? ⟨(ad168.add ((x5_1).toNat * 14)).block, (ad168.add ((x5_1).toNat * 14)).off + 13, none⟩ = some (.int .i64 ((rd_T71 l0 x5_1).f7)) ∧ w'.cell? (ad169.add ((x5_1).toNat * 14)) = some (.int .i64 ((rd_T71 l1 x5_1).f0)) ∧ w'.cell? ⟨(ad169.add ((x5_1).toNat * 14)).block, (ad169.add ((x5_1).toNat * 14)).off + 1, none⟩ = some (.int .i64 ((rd_T71 l1 x5_1).f1)) ∧ w'.cell? ⟨(ad169.add ((x5_1).toNat * 14)).block, (ad169.add ((x5_1).toNat * 14)).off + 2, none⟩ = some (.int .i64 ((rd_T71 l1 x5_1).f2)) ∧ w'.cell? ⟨(ad169.add ((x5_1).toNat * 14)).block, (ad169.add ((x5_1).toNat * 14)).off + 3, none⟩ = some (.int .i64 ((rd_T71 l1 x5_1).f3)) ∧ w'.cell? ⟨(ad169.add ((x5_1).toNat * 14)).block, (ad169.add ((x5_1).toNat * 14)).off + 4, none⟩ = some (.int .i64 ((rd_T71 l1 x5_1).f4.f0)) ∧ w'.cell? ⟨(ad169.add ((x5_1).toNat * 14)).block, (ad169.add ((x5_1).toNat * 14)).off + 5, none⟩ = some (.int .i64 ((rd_T71 l1 x5_1).f4.f1)) ∧ w'.cell? ⟨(ad169.add ((x5_1).toNat * 14)).block, (ad169.add ((x5_1).toNat * 14)).off + 6, none⟩ = some (.int .i64 ((rd_T71 l1 x5_1).f4.f2)) ∧ w'.cell? ⟨(ad169.add ((x5_1).toNat * 14)).block, (ad169.add ((x5_1).toNat * 14)).off + 7, none⟩ = some (.int .i64 ((rd_T71 l1 x5_1).f4.f3)) ∧ w'.cell? ⟨(ad169.add ((x5_1).toNat * 14)).block, (ad169.add ((x5_1).toNat * 14)).off + 8, none⟩ = some (.int .i64 ((rd_T71 l1 x5_1).f4.f4)) ∧ w'.cell? ⟨(ad169.add ((x5_1).toNat * 14)).block, (ad169.add ((x5_1).toNat * 14)).off + 9, none⟩ = some (.int .i64 ((rd_T71 l1 x5_1).f4.f5)) ∧ w'.cell? ⟨(ad169.add ((x5_1).toNat * 14)).block, (ad169.add ((x5_1).toNat * 14)).off + 10, none⟩ = some (.bool ((rd_T71 l1 x5_1).f4.f6)) ∧ w'.cell? ⟨(ad169.add ((x5_1).toNat * 14)).block, (ad169.add ((x5_1).toNat * 14)).off + 11, none⟩ = some (.slice A169_11 ((rd_T71 l1 x5_1).f5).length c169_11) ∧ w'.cell? ⟨(ad169.add ((x5_1).toNat * 14)).block, (ad169.add ((x5_1).toNat * 14)).off + 12, none⟩ = some (.int .i64 ((rd_T71 l1 x5_1).f6)) ∧ w'.cell? ⟨(ad169.add ((x5_1).toNat * 14)).block, (ad169.add ((x5_1).toNat * 14)).off + 13, none⟩ = some (.int .i64 ((rd_T71 l1 x5_1).f7))) (ds := []) #[false, false, false, false, false, false, false, false, false, false] (by kernel_rfl) rfl rfl ⟨((HB.out.cell (World.block_lt_of_cell? w _ hw168_0)).trans hw168_0), ((HB.out.cell (World.block_lt_of_cell? w _ hw168_1)).trans hw168_1), ((HB.out.cell (World.block_lt_of_cell? w _ hw168_2)).trans hw168_2), ((HB.out.cell (World.block_lt_of_cell? w _ hw168_3)).trans hw168_3), ((HB.out.cell (World.block_lt_of_cell? w _ hw168_4)).trans hw168_4), ((HB.out.cell (World.block_lt_of_cell? w _ hw168_5)).trans hw168_5), ((HB.out.cell (World.block_lt_of_cell? w _ hw168_6)).trans hw168_6), ((HB.out.cell (World.block_lt_of_cell? w _ hw168_7)).trans hw168_7), ((HB.out.cell (World.block_lt_of_cell? w _ hw168_8)).trans hw168_8), ((HB.out.cell (World.block_lt_of_cell? w _ hw168_9)).trans hw168_9), ((HB.out.cell (World.block_lt_of_cell? w _ hw168_10)).trans hw168_10), ((HB.out.cell (World.block_lt_of_cell? w _ hw168_11)).trans hw168_11), ((HB.out.cell (World.block_lt_of_cell? w _ hw168_12)).trans hw168_12), ((HB.out.cell (World.block_lt_of_cell? w _ hw168_13)).trans hw168_13), ((HB.out.cell (World.block_lt_of_cell? w _ hw169_0)).trans hw169_0), ((HB.out.cell (World.block_lt_of_cell? w _ hw169_1)).trans hw169_1), ((HB.out.cell (World.block_lt_of_cell? w _ hw169_2)).trans hw169_2), ((HB.out.cell (World.block_lt_of_cell? w _ hw169_3)).trans hw169_3), ((HB.out.cell (World.block_lt_of_cell? w _ hw169_4)).trans hw169_4), ((HB.out.cell (World.block_lt_of_cell? w _ hw169_5)).trans hw169_5), ((HB.out.cell (World.block_lt_of_cell? w _ hw169_6)).trans hw169_6), ((HB.out.cell (World.block_lt_of_cell? w _ hw169_7)).trans hw169_7), ((HB.out.cell (World.block_lt_of_cell? w _ hw169_8)).trans hw169_8), ((HB.out.cell (World.block_lt_of_cell? w _ hw169_9)).trans hw169_9), ((HB.out.cell (World.block_lt_of_cell? w _ hw169_10)).trans hw169_10), ((HB.out.cell (World.block_lt_of_cell? w _ hw169_11)).trans hw169_11), ((HB.out.cell (World.block_lt_of_cell? w _ hw169_12)).trans hw169_12), ((HB.out.cell (World.block_lt_of_cell? w _ hw169_13)).trans hw169_13)⟩ (fun hHeld => ?_); refine with_tabW laws_eqTurnS.tab6 laws_eqTurnS.bits6 (fun HT_ HW_ => ?_)
                generalize wr.drew = w11 at HB HR168_11 HR169_11 hx168_0 hx168_1 hx168_10 hx168_11 hx168_12 hx168_13 hx168_2 hx168_3 hx168_4 hx168_5 hx168_6 hx168_7 hx168_8 hx168_9 hx169_0 hx169_1 hx169_10 hx169_11 hx169_12 hx169_13 hx169_2 hx169_3 hx169_4 hx169_5 hx169_6 hx169_7 hx169_8 hx169_9 hHeld ⊢
                refine pure_ (i := 0) (N := some 17) (v := ?_) (a' := ?_) #[true, false, false, false, false, false, false, false, false, false] rfl rfl (any_of HT_.out (by kernel_rfl)) (fun _ _ _ h => h) (Or.inl ⟨by rfl, ?_⟩) ?_ ?_
                rotate_left
                · intro w'
                  go_simp
                  with_reducible rfl
                rotate_left
                · simp only [Act.put, List.setIfInBounds_toArray, List.set_cons_zero, List.set_cons_succ, i64_w, i32_w]
                  rfl
                refine pure_ (i := 1) (N := some 18) (v := ?_) (a' := ?_) #[true, true, false, false, false, false, false, false, false, false] rfl rfl (any_of HT_.out (by kernel_rfl)) (fun _ _ _ h => h) (Or.inl ⟨by rfl, ?_⟩) ?_ ?_
                rotate_left
                · intro w'
                  go_simp
                  with_reducible rfl
                rotate_left
                · simp only [Act.put, List.setIfInBounds_toArray, List.set_cons_zero, List.set_cons_succ, i64_w, i32_w]
                  rfl
                refine pure_ (i := 2) (N := some 19) (v := ?_) (a' := ?_) #[true, true, true, false, false, false, false, false, false, false] rfl rfl (any_of HT_.out (by kernel_rfl)) (fun _ _ _ h => h) (Or.inl ⟨by rfl, ?_⟩) ?_ ?_
                rotate_left
                · intro w'
                  go_simp
                  with_reducible rfl
                rotate_left
                · simp only [Act.put, List.setIfInBounds_toArray, List.set_cons_zero, List.set_cons_succ, i64_w, i32_w]
                  rfl
                refine pure_ (i := 4) (N := some 21) (v := ?_) (a' := ?_) #[true, true, true, false, true, false, false, false, false, false] rfl rfl (any_of HT_.out (by kernel_rfl)) (fun _ _ _ h => h) (Or.inl ⟨by rfl, ?_⟩) ?_ ?_
                rotate_left
                · intro w'
                  go_simp
                  with_reducible rfl
                rotate_left
                · simp only [Act.put, List.setIfInBounds_toArray, List.set_cons_zero, List.set_cons_succ, i64_w, i32_w]
                  rfl
                refine pure_ (i := 5) (N := some 22) (v := ?_) (a' := ?_) #[true, true, true, false, true, true, false, false, false, false] rfl rfl (any_of HT_.out (by kernel_rfl)) (fun _ _ _ h => h) (Or.inl ⟨by rfl, ?_⟩) ?_ ?_
                rotate_left
                · intro w'
                  go_simp
                  with_reducible rfl
                rotate_left
                · simp only [Act.put, List.setIfInBounds_toArray, List.set_cons_zero, List.set_cons_succ, i64_w, i32_w]
                  rfl
                refine pure_ (i := 6) (N := some 23) (v := ?_) (a' := ?_) #[true, true, true, false, true, true, true, false, false, false] rfl rfl (any_of HT_.out (by kernel_rfl)) (fun _ _ _ h => h) (Or.inl ⟨by rfl, ?_⟩) ?_ ?_
                rotate_left
                · intro w'
                  go_simp
                  with_reducible rfl
                rotate_left
                · simp only [Act.put, List.setIfInBounds_toArray, List.set_cons_zero, List.set_cons_succ, i64_w, i32_w]
                  rfl
                refine take_ (i := 3) (N := some 20) (v := ?_) (a' := ?_) #[true, true, true, true, true, true, true, false, false, false] rfl rfl (take_ofW HT_.out HW_.out (by kernel_rfl)) (fun _ _ _ h => h) (Or.inl ⟨by rfl, ?_⟩) hHeld ?_ ?_
                rotate_left
                · rintro w' ⟨s0, s1, s2, s3, s4, s5, s6, s7, s8, s9, s10, s11, s12, s13, s14, s15, s16, s17, s18, s19, s20, s21, s22, s23, s24, s25, s26, s27⟩
                  go_simp
                  with_reducible rfl
                rotate_left
                · simp only [Act.put, List.setIfInBounds_toArray, List.set_cons_zero, List.set_cons_succ, i64_w, i32_w]
                  rfl
                refine take_ (i := 7) (N := some 24) (v := ?_) (a' := ?_) #[true, true, true, true, true, true, true, true, false, false] rfl rfl (take_ofW HT_.out HW_.out (by kernel_rfl)) (fun _ _ _ h => h) (Or.inl ⟨by rfl, ?_⟩) hHeld ?_ ?_
                rotate_left
                · rintro w' ⟨s0, s1, s2, s3, s4, s5, s6, s7, s8, s9, s10, s11, s12, s13, s14, s15, s16, s17, s18, s19, s20, s21, s22, s23, s24, s25, s26, s27⟩
                  go_simp
                  with_reducible rfl
                rotate_left
                · simp only [Act.put, List.setIfInBounds_toArray, List.set_cons_zero, List.set_cons_succ, i64_w, i32_w]
                  rfl
                refine one_ (i := 8) (N := some 25) #[true, true, true, true, true, true, true, true, true, false] rfl rfl (one_of HT_.out (by kernel_rfl)) (by decide) (fun K hK => ?_)
                refine goes_ Try.func53 (by kernel_rfl) rfl #[.agg #[.int .i64 ((rd_T71 l0 x5_1).f0), .int .i64 ((rd_T71 l0 x5_1).f1), .int .i64 ((rd_T71 l0 x5_1).f2), .int .i64 ((rd_T71 l0 x5_1).f3), .int .i64 ((rd_T71 l0 x5_1).f4.f0), .int .i64 ((rd_T71 l0 x5_1).f4.f1), .int .i64 ((rd_T71 l0 x5_1).f4.f2), .int .i64 ((rd_T71 l0 x5_1).f4.f3), .int .i64 ((rd_T71 l0 x5_1).f4.f4), .int .i64 ((rd_T71 l0 x5_1).f4.f5), .bool ((rd_T71 l0 x5_1).f4.f6), .slice A168_11 ((rd_T71 l0 x5_1).f5).length c168_11, .int .i64 ((rd_T71 l0 x5_1).f6), .int .i64 ((rd_T71 l0 x5_1).f7)], .agg #[.int .i64 ((rd_T71 l1 x5_1).f0), .int .i64 ((rd_T71 l1 x5_1).f1), .int .i64 ((rd_T71 l1 x5_1).f2), .int .i64 ((rd_T71 l1 x5_1).f3), .int .i64 ((rd_T71 l1 x5_1).f4.f0), .int .i64 ((rd_T71 l1 x5_1).f4.f1), .int .i64 ((rd_T71 l1 x5_1).f4.f2), .int .i64 ((rd_T71 l1 x5_1).f4.f3), .int .i64 ((rd_T71 l1 x5_1).f4.f4), .int .i64 ((rd_T71 l1 x5_1).f4.f5), .bool ((rd_T71 l1 x5_1).f4.f6), .slice A169_11 ((rd_T71 l1 x5_1).f5).length c169_11, .int .i64 ((rd_T71 l1 x5_1).f6), .int .i64 ((rd_T71 l1 x5_1).f7)]] (by rfl) rfl rfl (by (try simp only [List.map_toArray, List.map_cons, List.map_nil]); first | done | rfl | (simp only [List.length_drop, List.length_take]; rfl)) ?_
                with_reducible refine (laws_eqTurn.calls k1 ((rd_T71 l0 x5_1).f0) ((rd_T71 l0 x5_1).f1) ((rd_T71 l0 x5_1).f2) ((rd_T71 l0 x5_1).f3) ((rd_T71 l0 x5_1).f4.f0) ((rd_T71 l0 x5_1).f4.f1) ((rd_T71 l0 x5_1).f4.f2) ((rd_T71 l0 x5_1).f4.f3) ((rd_T71 l0 x5_1).f4.f4) ((rd_T71 l0 x5_1).f4.f5) ((rd_T71 l0 x5_1).f4.f6) _ _ ((rd_T71 l0 x5_1).f5) ((rd_T71 l0 x5_1).f6) ((rd_T71 l0 x5_1).f7) ((rd_T71 l1 x5_1).f0) ((rd_T71 l1 x5_1).f1) ((rd_T71 l1 x5_1).f2) ((rd_T71 l1 x5_1).f3) ((rd_T71 l1 x5_1).f4.f0) ((rd_T71 l1 x5_1).f4.f1) ((rd_T71 l1 x5_1).f4.f2) ((rd_T71 l1 x5_1).f4.f3) ((rd_T71 l1 x5_1).f4.f4) ((rd_T71 l1 x5_1).f4.f5) ((rd_T71 l1 x5_1).f4.f6) _ _ ((rd_T71 l1 x5_1).f5) ((rd_T71 l1 x5_1).f6) ((rd_T71 l1 x5_1).f7) false _ ?side1 ?side2 ?side3 ?side4 A7.out).mono ?_
                (case side1 => repeat (first | exact (Kd.C_below HR168_11.out HB.out) | (with_reducible refine Kd.C_alloc ?_ _) | (with_reducible refine Kd.C_drewN ?_ _) | (with_reducible refine Kd.C_drew ?_)))
                (case side2 => exact HC168_11.out)
                (case side3 => repeat (first | exact (Kd.C_below HR169_11.out HB.out) | (with_reducible refine Kd.C_alloc ?_ _) | (with_reducible refine Kd.C_drewN ?_ _) | (with_reducible refine Kd.C_drew ?_)))
                (case side4 => exact HC169_11.out)
                rintro e w12 ⟨rfl, hb⟩
                refine ⟨_, rfl, ?_⟩
                have n0_ := Aside0.mk (below_step (by repeat (first | (with_reducible first | exact HB.out | apply below_alloc | apply pw_below_drewN | apply below_drew1) | exact HB.out)) hb)
                clear HB
                have HB := n0_
                clear n0_
                (try clear hb)
                (try clear hb2)
                (try clear hk)
                (try clear hi)
                refine hK.out _ _ ⟨((HB.out.cell (World.block_lt_of_cell? w _ hw168_0)).trans hw168_0), ((HB.out.cell (World.block_lt_of_cell? w _ hw168_1)).trans hw168_1), ((HB.out.cell (World.block_lt_of_cell? w _ hw168_2)).trans hw168_2), ((HB.out.cell (World.block_lt_of_cell? w _ hw168_3)).trans hw168_3), ((HB.out.cell (World.block_lt_of_cell? w _ hw168_4)).trans hw168_4), ((HB.out.cell (World.block_lt_of_cell? w _ hw168_5)).trans hw168_5), ((HB.out.cell (World.block_lt_of_cell? w _ hw168_6)).trans hw168_6), ((HB.out.cell (World.block_lt_of_cell? w _ hw168_7)).trans hw168_7), ((HB.out.cell (World.block_lt_of_cell? w _ hw168_8)).trans hw168_8), ((HB.out.cell (World.block_lt_of_cell? w _ hw168_9)).trans hw168_9), ((HB.out.cell (World.block_lt_of_cell? w _ hw168_10)).trans hw168_10), ((HB.out.cell (World.block_lt_of_cell? w _ hw168_11)).trans hw168_11), ((HB.out.cell (World.block_lt_of_cell? w _ hw168_12)).trans hw168_12), ((HB.out.cell (World.block_lt_of_cell? w _ hw168_13)).trans hw168_13), ((HB.out.cell (World.block_lt_of_cell? w _ hw169_0)).trans hw169_0), ((HB.out.cell (World.block_lt_of_cell? w _ hw169_1)).trans hw169_1), ((HB.out.cell (World.block_lt_of_cell? w _ hw169_2)).trans hw169_2), ((HB.out.cell (World.block_lt_of_cell? w _ hw169_3)).trans hw169_3), ((HB.out.cell (World.block_lt_of_cell? w _ hw169_4)).trans hw169_4), ((HB.out.cell (World.block_lt_of_cell? w _ hw169_5)).trans hw169_5), ((HB.out.cell (World.block_lt_of_cell? w _ hw169_6)).trans hw169_6), ((HB.out.cell (World.block_lt_of_cell? w _ hw169_7)).trans hw169_7), ((HB.out.cell (World.block_lt_of_cell? w _ hw169_8)).trans hw169_8), ((HB.out.cell (World.block_lt_of_cell? w _ hw169_9)).trans hw169_9), ((HB.out.cell (World.block_lt_of_cell? w _ hw169_10)).trans hw169_10), ((HB.out.cell (World.block_lt_of_cell? w _ hw169_11)).trans hw169_11), ((HB.out.cell (World.block_lt_of_cell? w _ hw169_12)).trans hw169_12), ((HB.out.cell (World.block_lt_of_cell? w _ hw169_13)).trans hw169_13)⟩ (fun hHeld => ?_)
                clear hK K
                refine norm_ (a' := ?_) ?_ ?_
                rotate_left
                · show Act.put _ (some 25) _ = _
                  simp only [Act.put, List.setIfInBounds_toArray, List.set_cons_zero, List.set_cons_succ, i64_w, i32_w]
                  rfl
                refine pure_ (i := 9) (N := some 26) (v := ?_) (a' := ?_) #[true, true, true, true, true, true, true, true, true, true] rfl rfl (any_of HT_.out (by kernel_rfl)) (fun _ _ _ h => h) (Or.inl ⟨by rfl, ?_⟩) ?_ ?_
                rotate_left
                · intro w'
                  go_simp
                  with_reducible rfl
                rotate_left
                · simp only [Act.put, List.setIfInBounds_toArray, List.set_cons_zero, List.set_cons_succ, i64_w, i32_w]
                  rfl
                refine done_ (done_of HT_.out (by kernel_rfl)) ?_
                try go_wp2
                go_ret
                exact ⟨by first | rfl | (simp [errW_none, errW_some] <;> rfl) | (simp [*, errW_none, errW_some] <;> rfl), by repeat (first | (with_reducible first | exact HB.out | apply below_alloc | apply pw_below_drewN | apply below_drew1) | exact HB.out)⟩
            · rw [if_neg c6] at H
              exact absurd H (by simp)
          · rw [if_neg c5] at H
            exact absurd H (by simp)
        · rw [if_neg c4] at H
          have c4b0 : decide (x5_1 < (l0.length : Int)) = false := decide_eq_false c4
          clear c4
          obtain rfl := Option.some.inj H
          go_wp2
          go_ret
          exact ⟨by first | rfl | (simp [errW_none, errW_some] <;> rfl) | (simp [*, errW_none, errW_some] <;> rfl), by repeat (first | (with_reducible first | exact HB.out | apply below_alloc | apply pw_below_drewN | apply below_drew1) | exact HB.out)⟩
  · rw [if_neg c3] at H
    have c3b0 : ((l0.length : Int) == (l1.length : Int)) = false := beq_eq_false_iff_ne.mpr c3
    have c3b1 : ((l0.length : Int) != (l1.length : Int)) = true := bne_iff_ne.mpr c3
    have c3b2 : (l0.length == l1.length) = false := by first | simpa using c3 | (simp at c3 ⊢; omega)
    obtain rfl := Option.some.inj H
    go_enter Try.func58, Try.ntmps58
    go_wp2
    go_ret
    exact ⟨by first | rfl | (simp [errW_none, errW_some] <;> rfl) | (simp [*, errW_none, errW_some] <;> rfl), by repeat (first | (with_reducible first | exact HB.out | apply below_alloc | apply pw_below_drewN | apply below_drew1) | exact HB.out)⟩

/-! ### laws_FnExactStoppedOf: function 13 -/
def laws_FnExactStoppedOf.f (k : Nat) (l0 : List (S67)) : Option (Bool) := (laws_szTurnS.f k l0 1048576).bind fun t171 => (if t171 < 0 then (some true) else ((laws_toTurnS.f k l0).bind fun t172 => ((spec_StoppedOf.f k t172).bind fun t175 => ((laws_toTurnS.f k l0).bind fun t176 => ((impl_StoppedOf.f k t176).bind fun t179 => (if t179 = t175 then ((laws_toTurnS.f k l0).bind fun t180 => ((laws_eqTurnS.f k t176 t180).bind fun t183 => (if t183 = true then (some true) else (some false)))) else (some false)))))))
theorem laws_FnExactStoppedOf.mono : ∀ a0 k, LeO (laws_FnExactStoppedOf.f k a0) (laws_FnExactStoppedOf.f (k + 1) a0) := by
  intro a0 k
  unfold laws_FnExactStoppedOf.f
  repeat' first
      | (with_reducible exact impl_StoppedOf.mono _ _)
      | (with_reducible exact laws_eqTurnS.mono _ _ _)
      | (with_reducible exact laws_szTurnS.mono _ _ _)
      | (with_reducible exact laws_toTurnS.mono _ _)
      | (with_reducible exact spec_StoppedOf.mono _ _)
      | (with_reducible exact LeO.refl _)
      | (with_reducible exact LeO.none _)
      | (with_reducible refine LeO.ite ?_ ?_)
      | (with_reducible refine LeO.bind ?_ (fun _ => ?_))
      | exact impl_StoppedOf.mono _ _
      | exact laws_eqTurnS.mono _ _ _
      | exact laws_szTurnS.mono _ _ _
      | exact laws_toTurnS.mono _ _
      | exact spec_StoppedOf.mono _ _
      | exact LeO.none _
      | refine LeO.ite ?_ ?_
      | refine LeO.bind ?_ (fun _ => ?_)
set_option maxHeartbeats 8000000 in
set_option maxRecDepth 100000 in
theorem laws_FnExactStoppedOf.calls (k : Nat) (A0 : Option Addr) (c0 : Nat) (l0 : List (S67)) (r : Bool) (w : World) (hr0 : Kd.C k67 w A0 l0.length l0) (hc0 : l0.length ≤ c0) (h : laws_FnExactStoppedOf.f k l0 = some r) :
    Calls Try.prog 13 #[.slice A0 l0.length c0] w fun e w' => e = .returned (.bool r) ∧ Below w.heap.size w w' := by
  have HR0 := Aside0.mk hr0
  have HC0 := Aside0.mk hc0
  clear hr0 hc0
  have HB := Aside0.mk (Below.refl w.heap.size w)
  have H : ((laws_szTurnS.f k l0 1048576).bind fun t171 => (if t171 < 0 then (some true) else ((laws_toTurnS.f k l0).bind fun t172 => ((spec_StoppedOf.f k t172).bind fun t175 => ((laws_toTurnS.f k l0).bind fun t176 => ((impl_StoppedOf.f k t176).bind fun t179 => (if t179 = t175 then ((laws_toTurnS.f k l0).bind fun t180 => ((laws_eqTurnS.f k t176 t180).bind fun t183 => (if t183 = true then (some true) else (some false)))) else (some false)))))))) = some r := h
  clear h
  replace H := Option.bind_eq_some_iff.mp H
  obtain ⟨t171, A20, H⟩ := H
  replace H : (if t171 < 0 then (some true) else ((laws_toTurnS.f k l0).bind fun t172 => ((spec_StoppedOf.f k t172).bind fun t175 => ((laws_toTurnS.f k l0).bind fun t176 => ((impl_StoppedOf.f k t176).bind fun t179 => (if t179 = t175 then ((laws_toTurnS.f k l0).bind fun t180 => ((laws_eqTurnS.f k t176 t180).bind fun t183 => (if t183 = true then (some true) else (some false)))) else (some false))))))) = some r := H
  have A2 := Aside0.mk A20
  clear A20
  by_cases c3 : t171 < 0
  · rw [if_pos c3] at H
    have c3b0 : decide (t171 < 0) = true := decide_eq_true c3
    clear c3
    obtain rfl := Option.some.inj H
    go_enter Try.func13, Try.ntmps13
    go_wp2_with (first | ((with_reducible refine gate_callee (f := 54) rfl ?_); refine goesL_ (some 9) rfl rfl Try.func54 (by kernel_rfl) rfl #[.slice A0 l0.length c0, .int .i64 1048576] rfl (by (try simp only [List.map_toArray, List.map_cons, List.map_nil]); first | done | rfl | (simp only [List.length_drop, List.length_take]; rfl)) ?_; (with_reducible refine (laws_szTurnS.calls k _ _ l0 1048576 t171 _ ?side1 ?side2 A2.out).mono ?_); (case side1 => repeat (first | exact HR0.out | (with_reducible refine Kd.C_alloc ?_ _) | (with_reducible refine Kd.C_drewN ?_ _) | (with_reducible refine Kd.C_drew ?_))); (case side2 => exact HC0.out); rintro e w4 ⟨rfl, hb⟩; refine ⟨_, rfl, ?_⟩; have n0_ := Aside0.mk (below_step (by repeat (first | (with_reducible first | exact HB.out | apply below_alloc | apply pw_below_drewN | apply below_drew1) | exact HB.out)) hb); clear HB; have HB := n0_; clear n0_; (try clear hb); (try clear hb2); (try clear hk); (try clear hi)))
    go_ret
    exact ⟨by first | rfl | (simp [errW_none, errW_some] <;> rfl) | (simp [*, errW_none, errW_some] <;> rfl), by repeat (first | (with_reducible first | exact HB.out | apply below_alloc | apply pw_below_drewN | apply below_drew1) | exact HB.out)⟩
  · rw [if_neg c3] at H
    have c3b0 : decide (t171 < 0) = false := decide_eq_false c3
    clear c3
    replace H := Option.bind_eq_some_iff.mp H
    obtain ⟨t172, A50, H⟩ := H
    replace H : ((spec_StoppedOf.f k t172).bind fun t175 => ((laws_toTurnS.f k l0).bind fun t176 => ((impl_StoppedOf.f k t176).bind fun t179 => (if t179 = t175 then ((laws_toTurnS.f k l0).bind fun t180 => ((laws_eqTurnS.f k t176 t180).bind fun t183 => (if t183 = true then (some true) else (some false)))) else (some false))))) = some r := H
    have A5 := Aside0.mk A50
    clear A50
    replace H := Option.bind_eq_some_iff.mp H
    obtain ⟨t175, A60, H⟩ := H
    replace H : ((laws_toTurnS.f k l0).bind fun t176 => ((impl_StoppedOf.f k t176).bind fun t179 => (if t179 = t175 then ((laws_toTurnS.f k l0).bind fun t180 => ((laws_eqTurnS.f k t176 t180).bind fun t183 => (if t183 = true then (some true) else (some false)))) else (some false)))) = some r := H
    have A6 := Aside0.mk A60
    clear A60
    replace H := Option.bind_eq_some_iff.mp H
    obtain ⟨t176, A70, H⟩ := H
    replace H : ((impl_StoppedOf.f k t176).bind fun t179 => (if t179 = t175 then ((laws_toTurnS.f k l0).bind fun t180 => ((laws_eqTurnS.f k t176 t180).bind fun t183 => (if t183 = true then (some true) else (some false)))) else (some false))) = some r := H
    have A7 := Aside0.mk A70
    clear A70
    replace H := Option.bind_eq_some_iff.mp H
    obtain ⟨t179, A80, H⟩ := H
    replace H : (if t179 = t175 then ((laws_toTurnS.f k l0).bind fun t180 => ((laws_eqTurnS.f k t176 t180).bind fun t183 => (if t183 = true then (some true) else (some false)))) else (some false)) = some r := H
    have A8 := Aside0.mk A80
    clear A80
    by_cases c9 : t179 = t175
    · rw [if_pos c9] at H
      have c9b0 : (t179 == t175) = true := beq_iff_eq.mpr c9
      have c9b1 : (t179 != t175) = false := bne_eq_false_iff_eq.mpr c9
      clear c9
      replace H := Option.bind_eq_some_iff.mp H
      obtain ⟨t180, A100, H⟩ := H
      replace H : ((laws_eqTurnS.f k t176 t180).bind fun t183 => (if t183 = true then (some true) else (some false))) = some r := H
      have A10 := Aside0.mk A100
      clear A100
      replace H := Option.bind_eq_some_iff.mp H
      obtain ⟨t183, A110, H⟩ := H
      replace H : (if t183 = true then (some true) else (some false)) = some r := H
      have A11 := Aside0.mk A110
      clear A110
      by_cases c12 : t183 = true
      · subst c12
        have H1 : (some true) = some r := by rw [if_pos rfl] at H; exact H
        clear H
        have H := H1
        clear H1
        obtain rfl := Option.some.inj H
        go_enter Try.func13, Try.ntmps13
        go_wp2_with (first | ((with_reducible refine gate_callee (f := 54) rfl ?_); refine goesL_ (some 9) rfl rfl Try.func54 (by kernel_rfl) rfl #[.slice A0 l0.length c0, .int .i64 1048576] rfl (by (try simp only [List.map_toArray, List.map_cons, List.map_nil]); first | done | rfl | (simp only [List.length_drop, List.length_take]; rfl)) ?_; (with_reducible refine (laws_szTurnS.calls k _ _ l0 1048576 t171 _ ?side1 ?side2 A2.out).mono ?_); (case side1 => repeat (first | exact HR0.out | (with_reducible refine Kd.C_alloc ?_ _) | (with_reducible refine Kd.C_drewN ?_ _) | (with_reducible refine Kd.C_drew ?_))); (case side2 => exact HC0.out); rintro e w13 ⟨rfl, hb⟩; refine ⟨_, rfl, ?_⟩; have n0_ := Aside0.mk (below_step (by repeat (first | (with_reducible first | exact HB.out | apply below_alloc | apply pw_below_drewN | apply below_drew1) | exact HB.out)) hb); clear HB; have HB := n0_; clear n0_; (try clear hb); (try clear hb2); (try clear hk); (try clear hi)) | ((with_reducible refine gate_callee (f := 56) rfl ?_); refine goesL_ (some 13) rfl rfl Try.func56 (by kernel_rfl) rfl #[.slice A0 l0.length c0] rfl (by (try simp only [List.map_toArray, List.map_cons, List.map_nil]); first | done | rfl | (simp only [List.length_drop, List.length_take]; rfl)) ?_; (with_reducible refine (laws_toTurnS.calls k _ _ l0 t172 _ ?side1 ?side2 A5.out).mono ?_); (case side1 => repeat (first | exact (Kd.C_below HR0.out HB.out) | (with_reducible refine Kd.C_alloc ?_ _) | (with_reducible refine Kd.C_drewN ?_ _) | (with_reducible refine Kd.C_drew ?_))); (case side2 => exact HC0.out); rintro e w14 ⟨v173, rfl, ho0, hb⟩; refine ⟨_, rfl, ?_⟩; have n0_ := Aside0.mk (Kd.S_lower ho0 (below_size (by repeat (first | (with_reducible first | exact HB.out | apply below_alloc | apply pw_below_drewN | apply below_drew1) | exact HB.out)))); have n1_ := Aside0.mk (below_step (by repeat (first | (with_reducible first | exact HB.out | apply below_alloc | apply pw_below_drewN | apply below_drew1) | exact HB.out)) hb); clear HB; have HO174 := n0_; have HB := n1_; clear n0_ n1_; (try clear hb); (try clear hb2); (try clear hk); (try clear hi); (try clear ho0); obtain ⟨Ao15, co15, eo15⟩ := Kd.S_slice HO174.out; subst eo15) | ((with_reducible refine gate_callee (f := 55) rfl ?_); refine goesL_ (some 14) rfl rfl Try.func55 (by kernel_rfl) rfl #[.slice Ao15 t172.length co15] rfl (by (try simp only [List.map_toArray, List.map_cons, List.map_nil]); first | done | rfl | (simp only [List.length_drop, List.length_take]; rfl)) ?_; (with_reducible refine (spec_StoppedOf.calls k _ _ t172 t175 _ ?side1 ?side2 A6.out).mono ?_); (case side1 => repeat (first | exact (Kd.S_reads' HO174.out).2.2 | (with_reducible refine Kd.C_alloc ?_ _) | (with_reducible refine Kd.C_drewN ?_ _) | (with_reducible refine Kd.C_drew ?_))); (case side2 => exact (Kd.S_reads' HO174.out).2.1); rintro e w' ⟨rfl, ⟨nd, rfl⟩⟩; refine ⟨_, rfl, ?_⟩) | ((with_reducible refine gate_callee (f := 56) rfl ?_); refine goesL_ (some 16) rfl rfl Try.func56 (by kernel_rfl) rfl #[.slice A0 l0.length c0] rfl (by (try simp only [List.map_toArray, List.map_cons, List.map_nil]); first | done | rfl | (simp only [List.length_drop, List.length_take]; rfl)) ?_; (with_reducible refine (laws_toTurnS.calls k _ _ l0 t176 _ ?side1 ?side2 A7.out).mono ?_); (case side1 => repeat (first | exact (Kd.C_below HR0.out (by repeat (first | (with_reducible first | exact HB.out | apply below_alloc | apply pw_below_drewN | apply below_drew1) | exact HB.out))) | (with_reducible refine Kd.C_alloc ?_ _) | (with_reducible refine Kd.C_drewN ?_ _) | (with_reducible refine Kd.C_drew ?_))); (case side2 => exact HC0.out); rintro e w16 ⟨v177, rfl, ho0, hb⟩; refine ⟨_, rfl, ?_⟩; have n0_ := Aside0.mk (Kd.S_elder' (by (with_reducible repeat (first | apply Kd.S_alloc | apply Kd.S_drewN | apply Kd.S_drew)); exact HO174.out) (Kd.S_base ho0) hb); have n1_ := Aside0.mk (Kd.S_lower (Kd.S_new' ho0 (Kd.S_lt (by (with_reducible repeat (first | apply Kd.S_alloc | apply Kd.S_drewN | apply Kd.S_drew)); exact HO174.out))) (below_size (by repeat (first | (with_reducible first | exact HB.out | apply below_alloc | apply pw_below_drewN | apply below_drew1) | exact HB.out)))); have n2_ := Aside0.mk (below_step (by repeat (first | (with_reducible first | exact HB.out | apply below_alloc | apply pw_below_drewN | apply below_drew1) | exact HB.out)) hb); clear HO174; clear HB; have HO174 := n0_; have HO178 := n1_; have HB := n2_; clear n0_ n1_ n2_; (try clear hb); (try clear hb2); (try clear hk); (try clear hi); (try clear ho0); obtain ⟨Ao17, co17, eo17⟩ := Kd.S_slice HO178.out; subst eo17) | ((with_reducible refine gate_callee (f := 57) rfl ?_); refine goesL_ (some 18) rfl rfl Try.func57 (by kernel_rfl) rfl #[.slice Ao17 t176.length co17] rfl (by (try simp only [List.map_toArray, List.map_cons, List.map_nil]); first | done | rfl | (simp only [List.length_drop, List.length_take]; rfl)) ?_; (with_reducible refine (impl_StoppedOf.calls k _ _ t176 t179 _ ?side1 ?side2 A8.out).mono ?_); (case side1 => repeat (first | exact (Kd.S_reads' HO178.out).2.2 | (with_reducible refine Kd.C_alloc ?_ _) | (with_reducible refine Kd.C_drewN ?_ _) | (with_reducible refine Kd.C_drew ?_))); (case side2 => exact (Kd.S_reads' HO178.out).2.1); rintro e w18 ⟨rfl, hb⟩; refine ⟨_, rfl, ?_⟩; have n0_ := Aside0.mk (Kd.S_below (by (with_reducible repeat (first | apply Kd.S_alloc | apply Kd.S_drewN | apply Kd.S_drew)); exact HO174.out) hb); have n1_ := Aside0.mk (Kd.S_below (by (with_reducible repeat (first | apply Kd.S_alloc | apply Kd.S_drewN | apply Kd.S_drew)); exact HO178.out) hb); have n2_ := Aside0.mk (below_step (by repeat (first | (with_reducible first | exact HB.out | apply below_alloc | apply pw_below_drewN | apply below_drew1) | exact HB.out)) hb); clear HO174; clear HO178; clear HB; have HO174 := n0_; have HO178 := n1_; have HB := n2_; clear n0_ n1_ n2_; (try clear hb); (try clear hb2); (try clear hk); (try clear hi)) | ((with_reducible refine gate_callee (f := 56) rfl ?_); refine goesL_ (some 24) rfl rfl Try.func56 (by kernel_rfl) rfl #[.slice A0 l0.length c0] rfl (by (try simp only [List.map_toArray, List.map_cons, List.map_nil]); first | done | rfl | (simp only [List.length_drop, List.length_take]; rfl)) ?_; (with_reducible refine (laws_toTurnS.calls k _ _ l0 t180 _ ?side1 ?side2 A10.out).mono ?_); (case side1 => repeat (first | exact (Kd.C_below HR0.out HB.out) | (with_reducible refine Kd.C_alloc ?_ _) | (with_reducible refine Kd.C_drewN ?_ _) | (with_reducible refine Kd.C_drew ?_))); (case side2 => exact HC0.out); rintro e w19 ⟨v181, rfl, ho0, hb⟩; refine ⟨_, rfl, ?_⟩; have n0_ := Aside0.mk (Kd.S_elder' (by (with_reducible repeat (first | apply Kd.S_alloc | apply Kd.S_drewN | apply Kd.S_drew)); exact HO174.out) (Kd.S_base ho0) hb); have n1_ := Aside0.mk (Kd.S_elder' (by (with_reducible repeat (first | apply Kd.S_alloc | apply Kd.S_drewN | apply Kd.S_drew)); exact HO178.out) (Kd.S_base ho0) hb); have n2_ := Aside0.mk (Kd.S_lower (Kd.S_new' (Kd.S_new' ho0 (Kd.S_lt (by (with_reducible repeat (first | apply Kd.S_alloc | apply Kd.S_drewN | apply Kd.S_drew)); exact HO174.out))) (Kd.S_lt (by (with_reducible repeat (first | apply Kd.S_alloc | apply Kd.S_drewN | apply Kd.S_drew)); exact HO178.out))) (below_size (by repeat (first | (with_reducible first | exact HB.out | apply below_alloc | apply pw_below_drewN | apply below_drew1) | exact HB.out)))); have n3_ := Aside0.mk (below_step (by repeat (first | (with_reducible first | exact HB.out | apply below_alloc | apply pw_below_drewN | apply below_drew1) | exact HB.out)) hb); clear HO174; clear HO178; clear HB; have HO174 := n0_; have HO178 := n1_; have HO182 := n2_; have HB := n3_; clear n0_ n1_ n2_ n3_; (try clear hb); (try clear hb2); (try clear hk); (try clear hi); (try clear ho0); obtain ⟨Ao20, co20, eo20⟩ := Kd.S_slice HO182.out; subst eo20) | ((with_reducible refine gate_callee (f := 58) rfl ?_); refine goesL_ (some 25) rfl rfl Try.func58 (by kernel_rfl) rfl #[.slice Ao17 t176.length co17, .slice Ao20 t180.length co20] rfl (by (try simp only [List.map_toArray, List.map_cons, List.map_nil]); first | done | rfl | (simp only [List.length_drop, List.length_take]; rfl)) ?_; (with_reducible refine (laws_eqTurnS.calls k _ _ t176 _ _ t180 true _ ?side1 ?side2 ?side3 ?side4 A11.out).mono ?_); (case side1 => repeat (first | exact (Kd.S_reads' HO178.out).2.2 | (with_reducible refine Kd.C_alloc ?_ _) | (with_reducible refine Kd.C_drewN ?_ _) | (with_reducible refine Kd.C_drew ?_))); (case side2 => exact (Kd.S_reads' HO178.out).2.1); (case side3 => repeat (first | exact (Kd.S_reads' HO182.out).2.2 | (with_reducible refine Kd.C_alloc ?_ _) | (with_reducible refine Kd.C_drewN ?_ _) | (with_reducible refine Kd.C_drew ?_))); (case side4 => exact (Kd.S_reads' HO182.out).2.1); rintro e w21 ⟨rfl, hb⟩; refine ⟨_, rfl, ?_⟩; have n0_ := Aside0.mk (Kd.S_below (by (with_reducible repeat (first | apply Kd.S_alloc | apply Kd.S_drewN | apply Kd.S_drew)); exact HO174.out) hb); have n1_ := Aside0.mk (Kd.S_below (by (with_reducible repeat (first | apply Kd.S_alloc | apply Kd.S_drewN | apply Kd.S_drew)); exact HO178.out) hb); have n2_ := Aside0.mk (Kd.S_below (by (with_reducible repeat (first | apply Kd.S_alloc | apply Kd.S_drewN | apply Kd.S_drew)); exact HO182.out) hb); have n3_ := Aside0.mk (below_step (by repeat (first | (with_reducible first | exact HB.out | apply below_alloc | apply pw_below_drewN | apply below_drew1) | exact HB.out)) hb); clear HO174; clear HO178; clear HO182; clear HB; have HO174 := n0_; have HO178 := n1_; have HO182 := n2_; have HB := n3_; clear n0_ n1_ n2_ n3_; (try clear hb); (try clear hb2); (try clear hk); (try clear hi)))
        go_ret
        exact ⟨by first | rfl | (simp [errW_none, errW_some] <;> rfl) | (simp [*, errW_none, errW_some] <;> rfl), by repeat (first | (with_reducible first | exact HB.out | apply below_alloc | apply pw_below_drewN | apply below_drew1) | exact HB.out)⟩
      · replace c12 := Bool.eq_false_iff.mpr c12
        subst c12
        have H1 : (some false) = some r := by rw [if_neg (show ¬ (false = true) by decide)] at H; exact H
        clear H
        have H := H1
        clear H1
        obtain rfl := Option.some.inj H
        go_enter Try.func13, Try.ntmps13
        go_wp2_with (first | ((with_reducible refine gate_callee (f := 54) rfl ?_); refine goesL_ (some 9) rfl rfl Try.func54 (by kernel_rfl) rfl #[.slice A0 l0.length c0, .int .i64 1048576] rfl (by (try simp only [List.map_toArray, List.map_cons, List.map_nil]); first | done | rfl | (simp only [List.length_drop, List.length_take]; rfl)) ?_; (with_reducible refine (laws_szTurnS.calls k _ _ l0 1048576 t171 _ ?side1 ?side2 A2.out).mono ?_); (case side1 => repeat (first | exact HR0.out | (with_reducible refine Kd.C_alloc ?_ _) | (with_reducible refine Kd.C_drewN ?_ _) | (with_reducible refine Kd.C_drew ?_))); (case side2 => exact HC0.out); rintro e w22 ⟨rfl, hb⟩; refine ⟨_, rfl, ?_⟩; have n0_ := Aside0.mk (below_step (by repeat (first | (with_reducible first | exact HB.out | apply below_alloc | apply pw_below_drewN | apply below_drew1) | exact HB.out)) hb); clear HB; have HB := n0_; clear n0_; (try clear hb); (try clear hb2); (try clear hk); (try clear hi)) | ((with_reducible refine gate_callee (f := 56) rfl ?_); refine goesL_ (some 13) rfl rfl Try.func56 (by kernel_rfl) rfl #[.slice A0 l0.length c0] rfl (by (try simp only [List.map_toArray, List.map_cons, List.map_nil]); first | done | rfl | (simp only [List.length_drop, List.length_take]; rfl)) ?_; (with_reducible refine (laws_toTurnS.calls k _ _ l0 t172 _ ?side1 ?side2 A5.out).mono ?_); (case side1 => repeat (first | exact (Kd.C_below HR0.out HB.out) | (with_reducible refine Kd.C_alloc ?_ _) | (with_reducible refine Kd.C_drewN ?_ _) | (with_reducible refine Kd.C_drew ?_))); (case side2 => exact HC0.out); rintro e w23 ⟨v173, rfl, ho0, hb⟩; refine ⟨_, rfl, ?_⟩; have n0_ := Aside0.mk (Kd.S_lower ho0 (below_size (by repeat (first | (with_reducible first | exact HB.out | apply below_alloc | apply pw_below_drewN | apply below_drew1) | exact HB.out)))); have n1_ := Aside0.mk (below_step (by repeat (first | (with_reducible first | exact HB.out | apply below_alloc | apply pw_below_drewN | apply below_drew1) | exact HB.out)) hb); clear HB; have HO174 := n0_; have HB := n1_; clear n0_ n1_; (try clear hb); (try clear hb2); (try clear hk); (try clear hi); (try clear ho0); obtain ⟨Ao24, co24, eo24⟩ := Kd.S_slice HO174.out; subst eo24) | ((with_reducible refine gate_callee (f := 55) rfl ?_); refine goesL_ (some 14) rfl rfl Try.func55 (by kernel_rfl) rfl #[.slice Ao24 t172.length co24] rfl (by (try simp only [List.map_toArray, List.map_cons, List.map_nil]); first | done | rfl | (simp only [List.length_drop, List.length_take]; rfl)) ?_; (with_reducible refine (spec_StoppedOf.calls k _ _ t172 t175 _ ?side1 ?side2 A6.out).mono ?_); (case side1 => repeat (first | exact (Kd.S_reads' HO174.out).2.2 | (with_reducible refine Kd.C_alloc ?_ _) | (with_reducible refine Kd.C_drewN ?_ _) | (with_reducible refine Kd.C_drew ?_))); (case side2 => exact (Kd.S_reads' HO174.out).2.1); rintro e w' ⟨rfl, ⟨nd, rfl⟩⟩; refine ⟨_, rfl, ?_⟩) | ((with_reducible refine gate_callee (f := 56) rfl ?_); refine goesL_ (some 16) rfl rfl Try.func56 (by kernel_rfl) rfl #[.slice A0 l0.length c0] rfl (by (try simp only [List.map_toArray, List.map_cons, List.map_nil]); first | done | rfl | (simp only [List.length_drop, List.length_take]; rfl)) ?_; (with_reducible refine (laws_toTurnS.calls k _ _ l0 t176 _ ?side1 ?side2 A7.out).mono ?_); (case side1 => repeat (first | exact (Kd.C_below HR0.out (by repeat (first | (with_reducible first | exact HB.out | apply below_alloc | apply pw_below_drewN | apply below_drew1) | exact HB.out))) | (with_reducible refine Kd.C_alloc ?_ _) | (with_reducible refine Kd.C_drewN ?_ _) | (with_reducible refine Kd.C_drew ?_))); (case side2 => exact HC0.out); rintro e w25 ⟨v177, rfl, ho0, hb⟩; refine ⟨_, rfl, ?_⟩; have n0_ := Aside0.mk (Kd.S_elder' (by (with_reducible repeat (first | apply Kd.S_alloc | apply Kd.S_drewN | apply Kd.S_drew)); exact HO174.out) (Kd.S_base ho0) hb); have n1_ := Aside0.mk (Kd.S_lower (Kd.S_new' ho0 (Kd.S_lt (by (with_reducible repeat (first | apply Kd.S_alloc | apply Kd.S_drewN | apply Kd.S_drew)); exact HO174.out))) (below_size (by repeat (first | (with_reducible first | exact HB.out | apply below_alloc | apply pw_below_drewN | apply below_drew1) | exact HB.out)))); have n2_ := Aside0.mk (below_step (by repeat (first | (with_reducible first | exact HB.out | apply below_alloc | apply pw_below_drewN | apply below_drew1) | exact HB.out)) hb); clear HO174; clear HB; have HO174 := n0_; have HO178 := n1_; have HB := n2_; clear n0_ n1_ n2_; (try clear hb); (try clear hb2); (try clear hk); (try clear hi); (try clear ho0); obtain ⟨Ao26, co26, eo26⟩ := Kd.S_slice HO178.out; subst eo26) | ((with_reducible refine gate_callee (f := 57) rfl ?_); refine goesL_ (some 18) rfl rfl Try.func57 (by kernel_rfl) rfl #[.slice Ao26 t176.length co26] rfl (by (try simp only [List.map_toArray, List.map_cons, List.map_nil]); first | done | rfl | (simp only [List.length_drop, List.length_take]; rfl)) ?_; (with_reducible refine (impl_StoppedOf.calls k _ _ t176 t179 _ ?side1 ?side2 A8.out).mono ?_); (case side1 => repeat (first | exact (Kd.S_reads' HO178.out).2.2 | (with_reducible refine Kd.C_alloc ?_ _) | (with_reducible refine Kd.C_drewN ?_ _) | (with_reducible refine Kd.C_drew ?_))); (case side2 => exact (Kd.S_reads' HO178.out).2.1); rintro e w27 ⟨rfl, hb⟩; refine ⟨_, rfl, ?_⟩; have n0_ := Aside0.mk (Kd.S_below (by (with_reducible repeat (first | apply Kd.S_alloc | apply Kd.S_drewN | apply Kd.S_drew)); exact HO174.out) hb); have n1_ := Aside0.mk (Kd.S_below (by (with_reducible repeat (first | apply Kd.S_alloc | apply Kd.S_drewN | apply Kd.S_drew)); exact HO178.out) hb); have n2_ := Aside0.mk (below_step (by repeat (first | (with_reducible first | exact HB.out | apply below_alloc | apply pw_below_drewN | apply below_drew1) | exact HB.out)) hb); clear HO174; clear HO178; clear HB; have HO174 := n0_; have HO178 := n1_; have HB := n2_; clear n0_ n1_ n2_; (try clear hb); (try clear hb2); (try clear hk); (try clear hi)) | ((with_reducible refine gate_callee (f := 56) rfl ?_); refine goesL_ (some 24) rfl rfl Try.func56 (by kernel_rfl) rfl #[.slice A0 l0.length c0] rfl (by (try simp only [List.map_toArray, List.map_cons, List.map_nil]); first | done | rfl | (simp only [List.length_drop, List.length_take]; rfl)) ?_; (with_reducible refine (laws_toTurnS.calls k _ _ l0 t180 _ ?side1 ?side2 A10.out).mono ?_); (case side1 => repeat (first | exact (Kd.C_below HR0.out HB.out) | (with_reducible refine Kd.C_alloc ?_ _) | (with_reducible refine Kd.C_drewN ?_ _) | (with_reducible refine Kd.C_drew ?_))); (case side2 => exact HC0.out); rintro e w28 ⟨v181, rfl, ho0, hb⟩; refine ⟨_, rfl, ?_⟩; have n0_ := Aside0.mk (Kd.S_elder' (by (with_reducible repeat (first | apply Kd.S_alloc | apply Kd.S_drewN | apply Kd.S_drew)); exact HO174.out) (Kd.S_base ho0) hb); have n1_ := Aside0.mk (Kd.S_elder' (by (with_reducible repeat (first | apply Kd.S_alloc | apply Kd.S_drewN | apply Kd.S_drew)); exact HO178.out) (Kd.S_base ho0) hb); have n2_ := Aside0.mk (Kd.S_lower (Kd.S_new' (Kd.S_new' ho0 (Kd.S_lt (by (with_reducible repeat (first | apply Kd.S_alloc | apply Kd.S_drewN | apply Kd.S_drew)); exact HO174.out))) (Kd.S_lt (by (with_reducible repeat (first | apply Kd.S_alloc | apply Kd.S_drewN | apply Kd.S_drew)); exact HO178.out))) (below_size (by repeat (first | (with_reducible first | exact HB.out | apply below_alloc | apply pw_below_drewN | apply below_drew1) | exact HB.out)))); have n3_ := Aside0.mk (below_step (by repeat (first | (with_reducible first | exact HB.out | apply below_alloc | apply pw_below_drewN | apply below_drew1) | exact HB.out)) hb); clear HO174; clear HO178; clear HB; have HO174 := n0_; have HO178 := n1_; have HO182 := n2_; have HB := n3_; clear n0_ n1_ n2_ n3_; (try clear hb); (try clear hb2); (try clear hk); (try clear hi); (try clear ho0); obtain ⟨Ao29, co29, eo29⟩ := Kd.S_slice HO182.out; subst eo29) | ((with_reducible refine gate_callee (f := 58) rfl ?_); refine goesL_ (some 25) rfl rfl Try.func58 (by kernel_rfl) rfl #[.slice Ao26 t176.length co26, .slice Ao29 t180.length co29] rfl (by (try simp only [List.map_toArray, List.map_cons, List.map_nil]); first | done | rfl | (simp only [List.length_drop, List.length_take]; rfl)) ?_; (with_reducible refine (laws_eqTurnS.calls k _ _ t176 _ _ t180 false _ ?side1 ?side2 ?side3 ?side4 A11.out).mono ?_); (case side1 => repeat (first | exact (Kd.S_reads' HO178.out).2.2 | (with_reducible refine Kd.C_alloc ?_ _) | (with_reducible refine Kd.C_drewN ?_ _) | (with_reducible refine Kd.C_drew ?_))); (case side2 => exact (Kd.S_reads' HO178.out).2.1); (case side3 => repeat (first | exact (Kd.S_reads' HO182.out).2.2 | (with_reducible refine Kd.C_alloc ?_ _) | (with_reducible refine Kd.C_drewN ?_ _) | (with_reducible refine Kd.C_drew ?_))); (case side4 => exact (Kd.S_reads' HO182.out).2.1); rintro e w30 ⟨rfl, hb⟩; refine ⟨_, rfl, ?_⟩; have n0_ := Aside0.mk (Kd.S_below (by (with_reducible repeat (first | apply Kd.S_alloc | apply Kd.S_drewN | apply Kd.S_drew)); exact HO174.out) hb); have n1_ := Aside0.mk (Kd.S_below (by (with_reducible repeat (first | apply Kd.S_alloc | apply Kd.S_drewN | apply Kd.S_drew)); exact HO178.out) hb); have n2_ := Aside0.mk (Kd.S_below (by (with_reducible repeat (first | apply Kd.S_alloc | apply Kd.S_drewN | apply Kd.S_drew)); exact HO182.out) hb); have n3_ := Aside0.mk (below_step (by repeat (first | (with_reducible first | exact HB.out | apply below_alloc | apply pw_below_drewN | apply below_drew1) | exact HB.out)) hb); clear HO174; clear HO178; clear HO182; clear HB; have HO174 := n0_; have HO178 := n1_; have HO182 := n2_; have HB := n3_; clear n0_ n1_ n2_ n3_; (try clear hb); (try clear hb2); (try clear hk); (try clear hi)))
        go_ret
        exact ⟨by first | rfl | (simp [errW_none, errW_some] <;> rfl) | (simp [*, errW_none, errW_some] <;> rfl), by repeat (first | (with_reducible first | exact HB.out | apply below_alloc | apply pw_below_drewN | apply below_drew1) | exact HB.out)⟩
    · rw [if_neg c9] at H
      have c9b0 : (t179 == t175) = false := beq_eq_false_iff_ne.mpr c9
      have c9b1 : (t179 != t175) = true := bne_iff_ne.mpr c9
      obtain rfl := Option.some.inj H
      go_enter Try.func13, Try.ntmps13
      go_wp2_with (first | ((with_reducible refine gate_callee (f := 54) rfl ?_); refine goesL_ (some 9) rfl rfl Try.func54 (by kernel_rfl) rfl #[.slice A0 l0.length c0, .int .i64 1048576] rfl (by (try simp only [List.map_toArray, List.map_cons, List.map_nil]); first | done | rfl | (simp only [List.length_drop, List.length_take]; rfl)) ?_; (with_reducible refine (laws_szTurnS.calls k _ _ l0 1048576 t171 _ ?side1 ?side2 A2.out).mono ?_); (case side1 => repeat (first | exact HR0.out | (with_reducible refine Kd.C_alloc ?_ _) | (with_reducible refine Kd.C_drewN ?_ _) | (with_reducible refine Kd.C_drew ?_))); (case side2 => exact HC0.out); rintro e w31 ⟨rfl, hb⟩; refine ⟨_, rfl, ?_⟩; have n0_ := Aside0.mk (below_step (by repeat (first | (with_reducible first | exact HB.out | apply below_alloc | apply pw_below_drewN | apply below_drew1) | exact HB.out)) hb); clear HB; have HB := n0_; clear n0_; (try clear hb); (try clear hb2); (try clear hk); (try clear hi)) | ((with_reducible refine gate_callee (f := 56) rfl ?_); refine goesL_ (some 13) rfl rfl Try.func56 (by kernel_rfl) rfl #[.slice A0 l0.length c0] rfl (by (try simp only [List.map_toArray, List.map_cons, List.map_nil]); first | done | rfl | (simp only [List.length_drop, List.length_take]; rfl)) ?_; (with_reducible refine (laws_toTurnS.calls k _ _ l0 t172 _ ?side1 ?side2 A5.out).mono ?_); (case side1 => repeat (first | exact (Kd.C_below HR0.out HB.out) | (with_reducible refine Kd.C_alloc ?_ _) | (with_reducible refine Kd.C_drewN ?_ _) | (with_reducible refine Kd.C_drew ?_))); (case side2 => exact HC0.out); rintro e w32 ⟨v173, rfl, ho0, hb⟩; refine ⟨_, rfl, ?_⟩; have n0_ := Aside0.mk (Kd.S_lower ho0 (below_size (by repeat (first | (with_reducible first | exact HB.out | apply below_alloc | apply pw_below_drewN | apply below_drew1) | exact HB.out)))); have n1_ := Aside0.mk (below_step (by repeat (first | (with_reducible first | exact HB.out | apply below_alloc | apply pw_below_drewN | apply below_drew1) | exact HB.out)) hb); clear HB; have HO174 := n0_; have HB := n1_; clear n0_ n1_; (try clear hb); (try clear hb2); (try clear hk); (try clear hi); (try clear ho0); obtain ⟨Ao33, co33, eo33⟩ := Kd.S_slice HO174.out; subst eo33) | ((with_reducible refine gate_callee (f := 55) rfl ?_); refine goesL_ (some 14) rfl rfl Try.func55 (by kernel_rfl) rfl #[.slice Ao33 t172.length co33] rfl (by (try simp only [List.map_toArray, List.map_cons, List.map_nil]); first | done | rfl | (simp only [List.length_drop, List.length_take]; rfl)) ?_; (with_reducible refine (spec_StoppedOf.calls k _ _ t172 t175 _ ?side1 ?side2 A6.out).mono ?_); (case side1 => repeat (first | exact (Kd.S_reads' HO174.out).2.2 | (with_reducible refine Kd.C_alloc ?_ _) | (with_reducible refine Kd.C_drewN ?_ _) | (with_reducible refine Kd.C_drew ?_))); (case side2 => exact (Kd.S_reads' HO174.out).2.1); rintro e w' ⟨rfl, ⟨nd, rfl⟩⟩; refine ⟨_, rfl, ?_⟩) | ((with_reducible refine gate_callee (f := 56) rfl ?_); refine goesL_ (some 16) rfl rfl Try.func56 (by kernel_rfl) rfl #[.slice A0 l0.length c0] rfl (by (try simp only [List.map_toArray, List.map_cons, List.map_nil]); first | done | rfl | (simp only [List.length_drop, List.length_take]; rfl)) ?_; (with_reducible refine (laws_toTurnS.calls k _ _ l0 t176 _ ?side1 ?side2 A7.out).mono ?_); (case side1 => repeat (first | exact (Kd.C_below HR0.out (by repeat (first | (with_reducible first | exact HB.out | apply below_alloc | apply pw_below_drewN | apply below_drew1) | exact HB.out))) | (with_reducible refine Kd.C_alloc ?_ _) | (with_reducible refine Kd.C_drewN ?_ _) | (with_reducible refine Kd.C_drew ?_))); (case side2 => exact HC0.out); rintro e w34 ⟨v177, rfl, ho0, hb⟩; refine ⟨_, rfl, ?_⟩; have n0_ := Aside0.mk (Kd.S_elder' (by (with_reducible repeat (first | apply Kd.S_alloc | apply Kd.S_drewN | apply Kd.S_drew)); exact HO174.out) (Kd.S_base ho0) hb); have n1_ := Aside0.mk (Kd.S_lower (Kd.S_new' ho0 (Kd.S_lt (by (with_reducible repeat (first | apply Kd.S_alloc | apply Kd.S_drewN | apply Kd.S_drew)); exact HO174.out))) (below_size (by repeat (first | (with_reducible first | exact HB.out | apply below_alloc | apply pw_below_drewN | apply below_drew1) | exact HB.out)))); have n2_ := Aside0.mk (below_step (by repeat (first | (with_reducible first | exact HB.out | apply below_alloc | apply pw_below_drewN | apply below_drew1) | exact HB.out)) hb); clear HO174; clear HB; have HO174 := n0_; have HO178 := n1_; have HB := n2_; clear n0_ n1_ n2_; (try clear hb); (try clear hb2); (try clear hk); (try clear hi); (try clear ho0); obtain ⟨Ao35, co35, eo35⟩ := Kd.S_slice HO178.out; subst eo35) | ((with_reducible refine gate_callee (f := 57) rfl ?_); refine goesL_ (some 18) rfl rfl Try.func57 (by kernel_rfl) rfl #[.slice Ao35 t176.length co35] rfl (by (try simp only [List.map_toArray, List.map_cons, List.map_nil]); first | done | rfl | (simp only [List.length_drop, List.length_take]; rfl)) ?_; (with_reducible refine (impl_StoppedOf.calls k _ _ t176 t179 _ ?side1 ?side2 A8.out).mono ?_); (case side1 => repeat (first | exact (Kd.S_reads' HO178.out).2.2 | (with_reducible refine Kd.C_alloc ?_ _) | (with_reducible refine Kd.C_drewN ?_ _) | (with_reducible refine Kd.C_drew ?_))); (case side2 => exact (Kd.S_reads' HO178.out).2.1); rintro e w36 ⟨rfl, hb⟩; refine ⟨_, rfl, ?_⟩; have n0_ := Aside0.mk (Kd.S_below (by (with_reducible repeat (first | apply Kd.S_alloc | apply Kd.S_drewN | apply Kd.S_drew)); exact HO174.out) hb); have n1_ := Aside0.mk (Kd.S_below (by (with_reducible repeat (first | apply Kd.S_alloc | apply Kd.S_drewN | apply Kd.S_drew)); exact HO178.out) hb); have n2_ := Aside0.mk (below_step (by repeat (first | (with_reducible first | exact HB.out | apply below_alloc | apply pw_below_drewN | apply below_drew1) | exact HB.out)) hb); clear HO174; clear HO178; clear HB; have HO174 := n0_; have HO178 := n1_; have HB := n2_; clear n0_ n1_ n2_; (try clear hb); (try clear hb2); (try clear hk); (try clear hi)))
      go_ret
      exact ⟨by first | rfl | (simp [errW_none, errW_some] <;> rfl) | (simp [*, errW_none, errW_some] <;> rfl), by repeat (first | (with_reducible first | exact HB.out | apply below_alloc | apply pw_below_drewN | apply below_drew1) | exact HB.out)⟩

end Go.Proofs.Ytljnfcmcjhggfaa.PFnExactStoppedOf
