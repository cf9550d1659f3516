-- Written by wip/fix.py (a program of this session) out of the print of this claim.
import Derived.Test.YtljnfcmcjhggfaaPFnExactChangedx0
import Derived.Test.YtljnfcmcjhggfaaPFnExactChangedx2
namespace Go.Proofs.Ytljnfcmcjhggfaa.PFnExactChanged
open Go.RowKit Go.Proofs.YtljnfcmcjhggfaaW.PrintWords Go.Proofs.YtljnfcmcjhggfaaW.PrintLast Go.Proofs.YtljnfcmcjhggfaaW.PrintMore
attribute [local go_sem] max2_int min2_int max_two min_two max_three min_three max_four min_four   -- for this text's walks alone
set_option linter.unusedVariables false
set_option linter.unusedSimpArgs false

/-! ### laws_eqTurnS: function 58 -/
def laws_eqTurnS.l0 : Nat → List (S71) → List (S71) → Int → Option (Bool)
  | 0, _, _, _ => none
  | k + 1, x0, x1, x5 => if x5 < (x0.length : Int) then (if 0 ≤ x5 then (if x5 < (x1.length : Int) then ((laws_eqTurn.f k ((rd_T71 x0 x5).f0) ((rd_T71 x0 x5).f1) ((rd_T71 x0 x5).f2) ((rd_T71 x0 x5).f3) ((rd_T71 x0 x5).f4.f0) ((rd_T71 x0 x5).f4.f1) ((rd_T71 x0 x5).f4.f2) ((rd_T71 x0 x5).f4.f3) ((rd_T71 x0 x5).f4.f4) ((rd_T71 x0 x5).f4.f5) ((rd_T71 x0 x5).f4.f6) ((rd_T71 x0 x5).f5) ((rd_T71 x0 x5).f6) ((rd_T71 x0 x5).f7) ((rd_T71 x1 x5).f0) ((rd_T71 x1 x5).f1) ((rd_T71 x1 x5).f2) ((rd_T71 x1 x5).f3) ((rd_T71 x1 x5).f4.f0) ((rd_T71 x1 x5).f4.f1) ((rd_T71 x1 x5).f4.f2) ((rd_T71 x1 x5).f4.f3) ((rd_T71 x1 x5).f4.f4) ((rd_T71 x1 x5).f4.f5) ((rd_T71 x1 x5).f4.f6) ((rd_T71 x1 x5).f5) ((rd_T71 x1 x5).f6) ((rd_T71 x1 x5).f7)).bind fun t165 => (if t165 = true then (laws_eqTurnS.l0 k x0 x1 (wrap64 (x5 + 1))) else (some false))) else (none)) else (none)) else (some true)
def laws_eqTurnS.f (k : Nat) (l0 : List (S71)) (l1 : List (S71)) : Option (Bool) := if (l0.length : Int) = (l1.length : Int) then (laws_eqTurnS.l0 k l0 l1 0) else (some false)
theorem laws_eqTurnS.mono_l : ∀ k, (∀ y0 y1 y2, LeO (laws_eqTurnS.l0 k y0 y1 y2) (laws_eqTurnS.l0 (k + 1) y0 y1 y2))
  | 0 => fun _ _ _ r h => by simp [laws_eqTurnS.l0] at h
  | k + 1 => by
    have ih0 := laws_eqTurnS.mono_l k
    · intro y0 y1 y2
      unfold laws_eqTurnS.l0
      repeat' first
      | (with_reducible exact ih0 _ _ _)
      | (with_reducible exact laws_eqTurn.mono _ _ _ _ _ _ _ _ _ _ _ _ _ _ _ _ _ _ _ _ _ _ _ _ _ _ _ _ _)
      | (with_reducible exact LeO.refl _)
      | (with_reducible exact LeO.none _)
      | (with_reducible refine LeO.ite ?_ ?_)
      | (with_reducible refine LeO.bind ?_ (fun _ => ?_))
      | exact ih0 _ _ _
      | exact laws_eqTurn.mono _ _ _ _ _ _ _ _ _ _ _ _ _ _ _ _ _ _ _ _ _ _ _ _ _ _ _ _ _
      | exact LeO.none _
      | refine LeO.ite ?_ ?_
      | refine LeO.bind ?_ (fun _ => ?_)
theorem laws_eqTurnS.mono : ∀ a0 a1 k, LeO (laws_eqTurnS.f k a0 a1) (laws_eqTurnS.f (k + 1) a0 a1) := by
  intro a0 a1 k
  have ih0 := laws_eqTurnS.mono_l k
  unfold laws_eqTurnS.f
  repeat' first
      | (with_reducible exact ih0 _ _ _)
      | (with_reducible exact laws_eqTurn.mono _ _ _ _ _ _ _ _ _ _ _ _ _ _ _ _ _ _ _ _ _ _ _ _ _ _ _ _ _)
      | (with_reducible exact LeO.refl _)
      | (with_reducible exact LeO.none _)
      | (with_reducible refine LeO.ite ?_ ?_)
      | (with_reducible refine LeO.bind ?_ (fun _ => ?_))
      | exact ih0 _ _ _
      | exact laws_eqTurn.mono _ _ _ _ _ _ _ _ _ _ _ _ _ _ _ _ _ _ _ _ _ _ _ _ _ _ _ _ _
      | exact LeO.none _
      | refine LeO.ite ?_ ?_
      | refine LeO.bind ?_ (fun _ => ?_)
def laws_eqTurnS.T6 : Bool × List (List Nat × List Nat) := (true, [([], []), ([], []), ([0, 1], [0, 1]), ([2], [2]), ([], []), ([], []), ([4, 5], [4, 5]), ([6], [6]), ([3, 7], [3, 7]), ([8], [8])])
def laws_eqTurnS.B6 : List Nat := [0, 0, 3, 7, 0, 0, 48, 112, 255, 511]
theorem laws_eqTurnS.tab6 : rtab .any (opsOf Try.f58 6) = laws_eqTurnS.T6 := by kernel_rfl
theorem laws_eqTurnS.bits6 : waitsOk laws_eqTurnS.T6.2 laws_eqTurnS.B6 = true := by kernel_rfl
set_option maxHeartbeats 8000000 in
set_option maxRecDepth 100000 in
theorem laws_eqTurnS.calls (k : Nat) (A0 : Option Addr) (c0 : Nat) (l0 : List (S71)) (A1 : Option Addr) (c1 : Nat) (l1 : List (S71)) (r : Bool) (w : World) (hr0 : Kd.C k71 w A0 l0.length l0) (hc0 : l0.length ≤ c0) (hr1 : Kd.C k71 w A1 l1.length l1) (hc1 : l1.length ≤ c1) (h : laws_eqTurnS.f k l0 l1 = some r) :
    Calls Try.prog 58 #[.slice A0 l0.length c0, .slice A1 l1.length c1] w fun e w' => e = .returned (.bool r) ∧ Below w.heap.size w w' := by
  have hu71 := Try.underlying71
  have HR0 := Aside0.mk hr0
  have HC0 := Aside0.mk hc0
  clear hr0 hc0
  have HR1 := Aside0.mk hr1
  have HC1 := Aside0.mk hc1
  clear hr1 hc1
  have HB := Aside0.mk (Below.refl w.heap.size w)
  have H : (if (l0.length : Int) = (l1.length : Int) then (laws_eqTurnS.l0 k l0 l1 0) else (some false)) = some r := h
  clear h
  by_cases c3 : (l0.length : Int) = (l1.length : Int)
  · rw [if_pos c3] at H
    have c3b0 : ((l0.length : Int) == (l1.length : Int)) = true := beq_iff_eq.mpr c3
    have c3b1 : ((l0.length : Int) != (l1.length : Int)) = false := bne_eq_false_iff_eq.mpr c3
    have c3b2 : (l0.length == l1.length) = true := by first | simpa using c3 | (simp at c3 ⊢; omega)
    clear c3
    have H' := Aside0.mk H
    clear H
    go_enter Try.func58, Try.ntmps58
    go_wp2
    go_loopg [5] k (fun kq v5 w' => ∃ (x5_1 : Int), v5 = .int .i64 x5_1 ∧ Aside0 (laws_eqTurnS.l0 kq l0 l1 x5_1 = some r) ∧ Aside0 (kq ≤ k) ∧ Aside0 (Below w.heap.size w w'))
    case atStart => exact ⟨(0), (by first | rfl | (simp; done) | (simp [*]; done)), H', ⟨Nat.le_refl _⟩, ⟨by repeat (first | (with_reducible first | exact HB.out | apply below_alloc | apply pw_below_drewN | apply below_drew1) | exact HB.out)⟩⟩
    case round =>
      clear H'
      try clear c1
      try clear p2
      try clear c3
      try clear c3b0
      try clear c3b1
      try clear c3b2
      obtain ⟨x5_1, rfl, HA, HK1, HB⟩ := hrel
      cases gk with
      | zero => exact absurd HA.out (by simp [laws_eqTurnS.l0])
      | succ k1 =>
        have H := HA.out
        clear HA
        simp only [laws_eqTurnS.l0] at H
        by_cases c4 : x5_1 < (l0.length : Int)
        · rw [if_pos c4] at H
          have c4b0 : decide (x5_1 < (l0.length : Int)) = true := decide_eq_true c4
          clear c4
          by_cases c5 : 0 ≤ x5_1
          · rw [if_pos c5] at H
            have c5b0 : decide (0 ≤ x5_1) = true := decide_eq_true c5
            clear c5
            by_cases c6 : x5_1 < (l1.length : Int)
            · rw [if_pos c6] at H
              have c6b0 : decide (x5_1 < (l1.length : Int)) = true := decide_eq_true c6
              clear c6
              replace H := Option.bind_eq_some_iff.mp H
              obtain ⟨t165, A70, H⟩ := H
              replace H : (if t165 = true then (laws_eqTurnS.l0 k1 l0 l1 (wrap64 (x5_1 + 1))) else (some false)) = some r := H
              have A7 := Aside0.mk A70
              clear A70
              by_cases c8 : t165 = true
              · subst c8
                have H1 : (laws_eqTurnS.l0 k1 l0 l1 (wrap64 (x5_1 + 1))) = some r := by rw [if_pos rfl] at H; exact H
                clear H
                have H := H1
                clear H1
                have H' := Aside0.mk H
                clear H
                try go_wp2
                have n0_ := Aside0.mk (below_drew1 HB.out)
                clear HB
                have HB := n0_
                clear n0_
                have p163 : 0 ≤ (x5_1 : Int) := of_decide_eq_true (by first | (with_reducible assumption) | assumption)
                have q163 : x5_1 < (l0.length : Int) := of_decide_eq_true (by first | (with_reducible assumption) | assumption)
                obtain ⟨ad163, A163_11, c163_11, e163, hx163_0, hx163_1, hx163_2, hx163_3, hx163_4, hx163_5, hx163_6, hx163_7, hx163_8, hx163_9, hx163_10, hx163_11, hx163_12, hx163_13, hl163_11, hi163_11⟩ := at_T71 HR0.out x5_1 p163 q163
                have hw163_13 := hx163_13
                have hw163_12 := hx163_12
                have hw163_11 := hx163_11
                have hw163_10 := hx163_10
                have hw163_9 := hx163_9
                have hw163_8 := hx163_8
                have hw163_7 := hx163_7
                have hw163_6 := hx163_6
                have hw163_5 := hx163_5
                have hw163_4 := hx163_4
                have hw163_3 := hx163_3
                have hw163_2 := hx163_2
                have hw163_1 := hx163_1
                have hw163_0 := hx163_0
                cases e163
                replace hx163_0 := (HB.out.cell (World.block_lt_of_cell? w _ hx163_0)).trans hx163_0
                replace hx163_1 := (HB.out.cell (World.block_lt_of_cell? w _ hx163_1)).trans hx163_1
                replace hx163_2 := (HB.out.cell (World.block_lt_of_cell? w _ hx163_2)).trans hx163_2
                replace hx163_3 := (HB.out.cell (World.block_lt_of_cell? w _ hx163_3)).trans hx163_3
                replace hx163_4 := (HB.out.cell (World.block_lt_of_cell? w _ hx163_4)).trans hx163_4
                replace hx163_5 := (HB.out.cell (World.block_lt_of_cell? w _ hx163_5)).trans hx163_5
                replace hx163_6 := (HB.out.cell (World.block_lt_of_cell? w _ hx163_6)).trans hx163_6
                replace hx163_7 := (HB.out.cell (World.block_lt_of_cell? w _ hx163_7)).trans hx163_7
                replace hx163_8 := (HB.out.cell (World.block_lt_of_cell? w _ hx163_8)).trans hx163_8
                replace hx163_9 := (HB.out.cell (World.block_lt_of_cell? w _ hx163_9)).trans hx163_9
                replace hx163_10 := (HB.out.cell (World.block_lt_of_cell? w _ hx163_10)).trans hx163_10
                replace hx163_11 := (HB.out.cell (World.block_lt_of_cell? w _ hx163_11)).trans hx163_11
                replace hx163_12 := (HB.out.cell (World.block_lt_of_cell? w _ hx163_12)).trans hx163_12
                replace hx163_13 := (HB.out.cell (World.block_lt_of_cell? w _ hx163_13)).trans hx163_13
                have HR163_11 := Aside0.mk hi163_11
                have HC163_11 := Aside0.mk hl163_11
                clear hi163_11 hl163_11
                replace p163 := eq_true p163
                replace q163 := eq_true q163
                have p164 : 0 ≤ (x5_1 : Int) := of_decide_eq_true (by first | (with_reducible assumption) | assumption)
                have q164 : x5_1 < (l1.length : Int) := of_decide_eq_true (by first | (with_reducible assumption) | assumption)
                obtain ⟨ad164, A164_11, c164_11, e164, hx164_0, hx164_1, hx164_2, hx164_3, hx164_4, hx164_5, hx164_6, hx164_7, hx164_8, hx164_9, hx164_10, hx164_11, hx164_12, hx164_13, hl164_11, hi164_11⟩ := at_T71 HR1.out x5_1 p164 q164
                have hw164_13 := hx164_13
                have hw164_12 := hx164_12
                have hw164_11 := hx164_11
                have hw164_10 := hx164_10
                have hw164_9 := hx164_9
                have hw164_8 := hx164_8
                have hw164_7 := hx164_7
                have hw164_6 := hx164_6
                have hw164_5 := hx164_5
                have hw164_4 := hx164_4
                have hw164_3 := hx164_3
                have hw164_2 := hx164_2
                have hw164_1 := hx164_1
                have hw164_0 := hx164_0
                cases e164
                replace hx164_0 := (HB.out.cell (World.block_lt_of_cell? w _ hx164_0)).trans hx164_0
                replace hx164_1 := (HB.out.cell (World.block_lt_of_cell? w _ hx164_1)).trans hx164_1
                replace hx164_2 := (HB.out.cell (World.block_lt_of_cell? w _ hx164_2)).trans hx164_2
                replace hx164_3 := (HB.out.cell (World.block_lt_of_cell? w _ hx164_3)).trans hx164_3
                replace hx164_4 := (HB.out.cell (World.block_lt_of_cell? w _ hx164_4)).trans hx164_4
                replace hx164_5 := (HB.out.cell (World.block_lt_of_cell? w _ hx164_5)).trans hx164_5
                replace hx164_6 := (HB.out.cell (World.block_lt_of_cell? w _ hx164_6)).trans hx164_6
                replace hx164_7 := (HB.out.cell (World.block_lt_of_cell? w _ hx164_7)).trans hx164_7
                replace hx164_8 := (HB.out.cell (World.block_lt_of_cell? w _ hx164_8)).trans hx164_8
                replace hx164_9 := (HB.out.cell (World.block_lt_of_cell? w _ hx164_9)).trans hx164_9
                replace hx164_10 := (HB.out.cell (World.block_lt_of_cell? w _ hx164_10)).trans hx164_10
                replace hx164_11 := (HB.out.cell (World.block_lt_of_cell? w _ hx164_11)).trans hx164_11
                replace hx164_12 := (HB.out.cell (World.block_lt_of_cell? w _ hx164_12)).trans hx164_12
                replace hx164_13 := (HB.out.cell (World.block_lt_of_cell? w _ hx164_13)).trans hx164_13
                have HR164_11 := Aside0.mk hi164_11
                have HC164_11 := Aside0.mk hl164_11
                clear hi164_11 hl164_11
                replace p164 := eq_true p164
                replace q164 := eq_true q164
                refine start_ (n := 10) (S := fun w' => w'.cell? (ad163.add ((x5_1).toNat * 14)) = some (.int .i64 ((rd_T71 l0 x5_1).f0)) ∧ w'.cell? ⟨(ad163.add ((x5_1).toNat * 14)).block, (ad163.add ((x5_1).toNat * 14)).off + 1, none⟩ = some (.int .i64 ((rd_T71 l0 x5_1).f1)) ∧ w'.cell? ⟨(ad163.add ((x5_1).toNat * 14)).block, (ad163.add ((x5_1).toNat * 14)).off + 2, none⟩ = some (.int .i64 ((rd_T71 l0 x5_1).f2)) ∧ w'.cell? ⟨(ad163.add ((x5_1).toNat * 14)).block, (ad163.add ((x5_1).toNat * 14)).off + 3, none⟩ = some (.int .i64 ((rd_T71 l0 x5_1).f3)) ∧ w'.cell? ⟨(ad163.add ((x5_1).toNat * 14)).block, (ad163.add ((x5_1).toNat * 14)).off + 4, none⟩ = some (.int .i64 ((rd_T71 l0 x5_1).f4.f0)) ∧ w'.cell? ⟨(ad163.add ((x5_1).toNat * 14)).block, (ad163.add ((x5_1).toNat * 14)).off + 5, none⟩ = some (.int .i64 ((rd_T71 l0 x5_1).f4.f1)) ∧ w'.cell? ⟨(ad163.add ((x5_1).toNat * 14)).block, (ad163.add ((x5_1).toNat * 14)).off + 6, none⟩ = some (.int .i64 ((rd_T71 l0 x5_1).f4.f2)) ∧ w'.cell? ⟨(ad163.add ((x5_1).toNat * 14)).block, (ad163.add ((x5_1).toNat * 14)).off + 7, none⟩ = some (.int .i64 ((rd_T71 l0 x5_1).f4.f3)) ∧ w'.cell? ⟨(ad163.add ((x5_1).toNat * 14)).block, (ad163.add ((x5_1).toNat * 14)).off + 8, none⟩ = some (.int .i64 ((rd_T71 l0 x5_1).f4.f4)) ∧ w'.cell? ⟨(ad163.add ((x5_1).toNat * 14)).block, (ad163.add ((x5_1).toNat * 14)).off + 9, none⟩ = some (.int .i64 ((rd_T71 l0 x5_1).f4.f5)) ∧ w'.cell? ⟨(ad163.add ((x5_1).toNat * 14)).block, (ad163.add ((x5_1).toNat * 14)).off + 10, none⟩ = some (.bool ((rd_T71 l0 x5_1).f4.f6)) ∧ w'.cell? ⟨(ad163.add ((x5_1).toNat * 14)).block, (ad163.add ((x5_1).toNat * 14)).off + 11, none⟩ = some (.slice A163_11 ((rd_T71 l0 x5_1).f5).length c163_11) ∧ w'.cell? ⟨(ad163.add ((x5_1).toNat * 14)).block, (ad163.add ((x5_1).toNat * 14)).off + 12, none⟩ = some (.int .i64 ((rd_T71 l0 x5_1).f6)) ∧ w'.cell? ⟨(ad163.add ((x5_1).toNat * 14)).block, (ad163.add ((x5_1).toNat * 14)).off + 13, none⟩ = some (.int .i64 ((rd_T71 l0 x5_1).f7)) ∧ w'.cell? (ad164.add ((x5_1).toNat * 14)) = some (.int .i64 ((rd_T71 l1 x5_1).f0)) ∧ w'.cell? ⟨(ad164.add ((x5_1).toNat * 14)).block, (ad164.add ((x5_1).toNat * 14)).off + 1, none⟩ = some (.int .i64 ((rd_T71 l1 x5_1).f1)) ∧ w'.cell? ⟨(ad164.add ((x5_1).toNat * 14)).block, (ad164.add ((x5_1).toNat * 14)).off + 2, none⟩ = some (.int .i64 ((rd_T71 l1 x5_1).f2)) ∧ w'.cell? ⟨(ad164.add ((x5_1).toNat * 14)).block, (ad164.add ((x5_1).toNat * 14)).off + 3, none⟩ = some (.int .i64 ((rd_T71 l1 x5_1).f3)) ∧ w'.cell? ⟨(ad164.add ((x5_1).toNat * 14)).block, (ad164.add ((x5_1).toNat * 14)).off + 4, none⟩ = some (.int .i64 ((rd_T71 l1 x5_1).f4.f0)) ∧ w'.cell? ⟨(ad164.add ((x5_1).toNat * 14)).block, (ad164.add ((x5_1).toNat * 14)).off + 5, none⟩ = some (.int .i64 ((rd_T71 l1 x5_1).f4.f1)) ∧ w'.cell? ⟨(ad164.add ((x5_1).toNat * 14)).block, (ad164.add ((x5_1).toNat * 14)).off + 6, none⟩ = some (.int .i64 ((rd_T71 l1 x5_1).f4.f2)) ∧ w'.cell? ⟨(ad164.add ((x5_1).toNat * 14)).block, (ad164.add ((x5_1).toNat * 14)).off + 7, none⟩ = some (.int .i64 ((rd_T71 l1 x5_1).f4.f3)) ∧ w'.cell? ⟨(ad164.add ((x5_1).toNat * 14)).block, (ad164.add ((x5_1).toNat * 14)).off + 8, none⟩ = some (.int .i64 ((rd_T71 l1 x5_1).f4.f4)) ∧ w'.cell? ⟨(ad164.add ((x5_1).toNat * 14)).block, (ad164.add ((x5_1).toNat * 14)).off + 9, none⟩ = some (.int .i64 ((rd_T71 l1 x5_1).f4.f5)) ∧ w'.cell? ⟨(ad164.add ((x5_1).toNat * 14)).block, (ad164.add ((x5_1).toNat * 14)).off + 10, none⟩ = some (.bool ((rd_T71 l1 x5_1).f4.f6)) ∧ w'.cell? ⟨(ad164.add ((x5_1).toNat * 14)).block, (ad164.add ((x5_1).toNat * 14)).off + 11, none⟩ = some (.slice A164_11 ((rd_T71 l1 x5_1).f5).length c164_11) ∧ w'.cell? ⟨(ad164.add ((x5_1).toNat * 14)).block, (ad164.add ((x5_1).toNat * 14)).off + 12, none⟩ = some (.int .i64 ((rd_T71 l1 x5_1).f6)) ∧ w'.cell? ⟨(ad164.add ((x5_1).toNat * 14)).block, (ad164.add ((x5_1).toNat * 14)).off + 13, none⟩ = some (.int .i64 ((rd_T71 l1 x5_1).f7))) (ds := []) #[false, false, false, false, false, false, false, false, false, false] (by kernel_rfl) rfl rfl ⟨((HB.out.cell (World.block_lt_of_cell? w _ hw163_0)).trans hw163_0), ((HB.out.cell (World.block_lt_of_cell? w _ hw163_1)).trans hw163_1), ((HB.out.cell (World.block_lt_of_cell? w _ hw163_2)).trans hw163_2), ((HB.out.cell (World.block_lt_of_cell? w _ hw163_3)).trans hw163_3), ((HB.out.cell (World.block_lt_of_cell? w _ hw163_4)).trans hw163_4), ((HB.out.cell (World.block_lt_of_cell? w _ hw163_5)).trans hw163_5), ((HB.out.cell (World.block_lt_of_cell? w _ hw163_6)).trans hw163_6), ((HB.out.cell (World.block_lt_of_cell? w _ hw163_7)).trans hw163_7), ((HB.out.cell (World.block_lt_of_cell? w _ hw163_8)).trans hw163_8), ((HB.out.cell (World.block_lt_of_cell? w _ hw163_9)).trans hw163_9), ((HB.out.cell (World.block_lt_of_cell? w _ hw163_10)).trans hw163_10), ((HB.out.cell (World.block_lt_of_cell? w _ hw163_11)).trans hw163_11), ((HB.out.cell (World.block_lt_of_cell? w _ hw163_12)).trans hw163_12), ((HB.out.cell (World.block_lt_of_cell? w _ hw163_13)).trans hw163_13), ((HB.out.cell (World.block_lt_of_cell? w _ hw164_0)).trans hw164_0), ((HB.out.cell (World.block_lt_of_cell? w _ hw164_1)).trans hw164_1), ((HB.out.cell (World.block_lt_of_cell? w _ hw164_2)).trans hw164_2), ((HB.out.cell (World.block_lt_of_cell? w _ hw164_3)).trans hw164_3), ((HB.out.cell (World.block_lt_of_cell? w _ hw164_4)).trans hw164_4), ((HB.out.cell (World.block_lt_of_cell? w _ hw164_5)).trans hw164_5), ((HB.out.cell (World.block_lt_of_cell? w _ hw164_6)).trans hw164_6), ((HB.out.cell (World.block_lt_of_cell? w _ hw164_7)).trans hw164_7), ((HB.out.cell (World.block_lt_of_cell? w _ hw164_8)).trans hw164_8), ((HB.out.cell (World.block_lt_of_cell? w _ hw164_9)).trans hw164_9), ((HB.out.cell (World.block_lt_of_cell? w _ hw164_10)).trans hw164_10), ((HB.out.cell (World.block_lt_of_cell? w _ hw164_11)).trans hw164_11), ((HB.out.cell (World.block_lt_of_cell? w _ hw164_12)).trans hw164_12), ((HB.out.cell (World.block_lt_of_cell? w _ hw164_13)).trans hw164_13)⟩ (fun hHeld => ?_); refine with_tabW laws_eqTurnS.tab6 laws_eqTurnS.bits6 (fun HT_ HW_ => ?_)
                generalize wr.drew = w9 at HB HR163_11 HR164_11 hx163_0 hx163_1 hx163_10 hx163_11 hx163_12 hx163_13 hx163_2 hx163_3 hx163_4 hx163_5 hx163_6 hx163_7 hx163_8 hx163_9 hx164_0 hx164_1 hx164_10 hx164_11 hx164_12 hx164_13 hx164_2 hx164_3 hx164_4 hx164_5 hx164_6 hx164_7 hx164_8 hx164_9 hHeld ⊢
                refine pure_ (i := 0) (N := some 17) (v := ?_) (a' := ?_) #[true, false, false, false, false, false, false, false, false, false] rfl rfl (any_of HT_.out (by kernel_rfl)) (fun _ _ _ h => h) (Or.inl ⟨by rfl, ?_⟩) ?_ ?_
                rotate_left
                · intro w'
                  go_simp
                  with_reducible rfl
                rotate_left
                · simp only [Act.put, List.setIfInBounds_toArray, List.set_cons_zero, List.set_cons_succ, i64_w, i32_w]
                  rfl
                refine pure_ (i := 1) (N := some 18) (v := ?_) (a' := ?_) #[true, true, false, false, false, false, false, false, false, false] rfl rfl (any_of HT_.out (by kernel_rfl)) (fun _ _ _ h => h) (Or.inl ⟨by rfl, ?_⟩) ?_ ?_
                rotate_left
                · intro w'
                  go_simp
                  with_reducible rfl
                rotate_left
                · simp only [Act.put, List.setIfInBounds_toArray, List.set_cons_zero, List.set_cons_succ, i64_w, i32_w]
                  rfl
                refine pure_ (i := 2) (N := some 19) (v := ?_) (a' := ?_) #[true, true, true, false, false, false, false, false, false, false] rfl rfl (any_of HT_.out (by kernel_rfl)) (fun _ _ _ h => h) (Or.inl ⟨by rfl, ?_⟩) ?_ ?_
                rotate_left
                · intro w'
                  go_simp
                  with_reducible rfl
                rotate_left
                · simp only [Act.put, List.setIfInBounds_toArray, List.set_cons_zero, List.set_cons_succ, i64_w, i32_w]
                  rfl
                refine pure_ (i := 4) (N := some 21) (v := ?_) (a' := ?_) #[true, true, true, false, true, false, false, false, false, false] rfl rfl (any_of HT_.out (by kernel_rfl)) (fun _ _ _ h => h) (Or.inl ⟨by rfl, ?_⟩) ?_ ?_
                rotate_left
                · intro w'
                  go_simp
                  with_reducible rfl
                rotate_left
                · simp only [Act.put, List.setIfInBounds_toArray, List.set_cons_zero, List.set_cons_succ, i64_w, i32_w]
                  rfl
                refine pure_ (i := 5) (N := some 22) (v := ?_) (a' := ?_) #[true, true, true, false, true, true, false, false, false, false] rfl rfl (any_of HT_.out (by kernel_rfl)) (fun _ _ _ h => h) (Or.inl ⟨by rfl, ?_⟩) ?_ ?_
                rotate_left
                · intro w'
                  go_simp
                  with_reducible rfl
                rotate_left
                · simp only [Act.put, List.setIfInBounds_toArray, List.set_cons_zero, List.set_cons_succ, i64_w, i32_w]
                  rfl
                refine pure_ (i := 6) (N := some 23) (v := ?_) (a' := ?_) #[true, true, true, false, true, true, true, false, false, false] rfl rfl (any_of HT_.out (by kernel_rfl)) (fun _ _ _ h => h) (Or.inl ⟨by rfl, ?_⟩) ?_ ?_
                rotate_left
                · intro w'
                  go_simp
                  with_reducible rfl
                rotate_left
                · simp only [Act.put, List.setIfInBounds_toArray, List.set_cons_zero, List.set_cons_succ, i64_w, i32_w]
                  rfl
                refine take_ (i := 3) (N := some 20) (v := ?_) (a' := ?_) #[true, true, true, true, true, true, true, false, false, false] rfl rfl (take_ofW HT_.out HW_.out (by kernel_rfl)) (fun _ _ _ h => h) (Or.inl ⟨by rfl, ?_⟩) hHeld ?_ ?_
                rotate_left
                · rintro w' ⟨s0, s1, s2, s3, s4, s5, s6, s7, s8, s9, s10, s11, s12, s13, s14, s15, s16, s17, s18, s19, s20, s21, s22, s23, s24, s25, s26, s27⟩
                  go_simp
                  with_reducible rfl
                rotate_left
                · simp only [Act.put, List.setIfInBounds_toArray, List.set_cons_zero, List.set_cons_succ, i64_w, i32_w]
                  rfl
                refine take_ (i := 7) (N := some 24) (v := ?_) (a' := ?_) #[true, true, true, true, true, true, true, true, false, false] rfl rfl (take_ofW HT_.out HW_.out (by kernel_rfl)) (fun _ _ _ h => h) (Or.inl ⟨by rfl, ?_⟩) hHeld ?_ ?_
                rotate_left
                · rintro w' ⟨s0, s1, s2, s3, s4, s5, s6, s7, s8, s9, s10, s11, s12, s13, s14, s15, s16, s17, s18, s19, s20, s21, s22, s23, s24, s25, s26, s27⟩
                  go_simp
                  with_reducible rfl
                rotate_left
                · simp only [Act.put, List.setIfInBounds_toArray, List.set_cons_zero, List.set_cons_succ, i64_w, i32_w]
                  rfl
                refine one_ (i := 8) (N := some 25) #[true, true, true, true, true, true, true, true, true, false] rfl rfl (one_of HT_.out (by kernel_rfl)) (by decide) (fun K hK => ?_)
                refine goes_ Try.func53 (by kernel_rfl) rfl #[.agg #[.int .i64 ((rd_T71 l0 x5_1).f0), .int .i64 ((rd_T71 l0 x5_1).f1), .int .i64 ((rd_T71 l0 x5_1).f2), .int .i64 ((rd_T71 l0 x5_1).f3), .int .i64 ((rd_T71 l0 x5_1).f4.f0), .int .i64 ((rd_T71 l0 x5_1).f4.f1), .int .i64 ((rd_T71 l0 x5_1).f4.f2), .int .i64 ((rd_T71 l0 x5_1).f4.f3), .int .i64 ((rd_T71 l0 x5_1).f4.f4), .int .i64 ((rd_T71 l0 x5_1).f4.f5), .bool ((rd_T71 l0 x5_1).f4.f6), .slice A163_11 ((rd_T71 l0 x5_1).f5).length c163_11, .int .i64 ((rd_T71 l0 x5_1).f6), .int .i64 ((rd_T71 l0 x5_1).f7)], .agg #[.int .i64 ((rd_T71 l1 x5_1).f0), .int .i64 ((rd_T71 l1 x5_1).f1), .int .i64 ((rd_T71 l1 x5_1).f2), .int .i64 ((rd_T71 l1 x5_1).f3), .int .i64 ((rd_T71 l1 x5_1).f4.f0), .int .i64 ((rd_T71 l1 x5_1).f4.f1), .int .i64 ((rd_T71 l1 x5_1).f4.f2), .int .i64 ((rd_T71 l1 x5_1).f4.f3), .int .i64 ((rd_T71 l1 x5_1).f4.f4), .int .i64 ((rd_T71 l1 x5_1).f4.f5), .bool ((rd_T71 l1 x5_1).f4.f6), .slice A164_11 ((rd_T71 l1 x5_1).f5).length c164_11, .int .i64 ((rd_T71 l1 x5_1).f6), .int .i64 ((rd_T71 l1 x5_1).f7)]] (by rfl) rfl rfl (by (try simp only [List.map_toArray, List.map_cons, List.map_nil]); first | done | rfl | (simp only [List.length_drop, List.length_take]; rfl)) ?_
                with_reducible refine (laws_eqTurn.calls k1 ((rd_T71 l0 x5_1).f0) ((rd_T71 l0 x5_1).f1) ((rd_T71 l0 x5_1).f2) ((rd_T71 l0 x5_1).f3) ((rd_T71 l0 x5_1).f4.f0) ((rd_T71 l0 x5_1).f4.f1) ((rd_T71 l0 x5_1).f4.f2) ((rd_T71 l0 x5_1).f4.f3) ((rd_T71 l0 x5_1).f4.f4) ((rd_T71 l0 x5_1).f4.f5) ((rd_T71 l0 x5_1).f4.f6) _ _ ((rd_T71 l0 x5_1).f5) ((rd_T71 l0 x5_1).f6) ((rd_T71 l0 x5_1).f7) ((rd_T71 l1 x5_1).f0) ((rd_T71 l1 x5_1).f1) ((rd_T71 l1 x5_1).f2) ((rd_T71 l1 x5_1).f3) ((rd_T71 l1 x5_1).f4.f0) ((rd_T71 l1 x5_1).f4.f1) ((rd_T71 l1 x5_1).f4.f2) ((rd_T71 l1 x5_1).f4.f3) ((rd_T71 l1 x5_1).f4.f4) ((rd_T71 l1 x5_1).f4.f5) ((rd_T71 l1 x5_1).f4.f6) _ _ ((rd_T71 l1 x5_1).f5) ((rd_T71 l1 x5_1).f6) ((rd_T71 l1 x5_1).f7) true _ ?side1 ?side2 ?side3 ?side4 A7.out).mono ?_
                (case side1 => repeat (first | exact (Kd.C_below HR163_11.out HB.out) | (with_reducible refine Kd.C_alloc ?_ _) | (with_reducible refine Kd.C_drewN ?_ _) | (with_reducible refine Kd.C_drew ?_)))
                (case side2 => exact HC163_11.out)
                (case side3 => repeat (first | exact (Kd.C_below HR164_11.out HB.out) | (with_reducible refine Kd.C_alloc ?_ _) | (with_reducible refine Kd.C_drewN ?_ _) | (with_reducible refine Kd.C_drew ?_)))
                (case side4 => exact HC164_11.out)
                rintro e w10 ⟨rfl, hb⟩
                refine ⟨_, rfl, ?_⟩
                have n0_ := Aside0.mk (below_step (by repeat (first | (with_reducible first | exact HB.out | apply below_alloc | apply pw_below_drewN | apply below_drew1) | exact HB.out)) hb)
                clear HB
                have HB := n0_
                clear n0_
                (try clear hb)
                (try clear hb2)
                (try clear hk)
                (try clear hi)
                refine hK.out _ _ ⟨((HB.out.cell (World.block_lt_of_cell? w _ hw163_0)).trans hw163_0), ((HB.out.cell (World.block_lt_of_cell? w _ hw163_1)).trans hw163_1), ((HB.out.cell (World.block_lt_of_cell? w _ hw163_2)).trans hw163_2), ((HB.out.cell (World.block_lt_of_cell? w _ hw163_3)).trans hw163_3), ((HB.out.cell (World.block_lt_of_cell? w _ hw163_4)).trans hw163_4), ((HB.out.cell (World.block_lt_of_cell? w _ hw163_5)).trans hw163_5), ((HB.out.cell (World.block_lt_of_cell? w _ hw163_6)).trans hw163_6), ((HB.out.cell (World.block_lt_of_cell? w _ hw163_7)).trans hw163_7), ((HB.out.cell (World.block_lt_of_cell? w _ hw163_8)).trans hw163_8), ((HB.out.cell (World.block_lt_of_cell? w _ hw163_9)).trans hw163_9), ((HB.out.cell (World.block_lt_of_cell? w _ hw163_10)).trans hw163_10), ((HB.out.cell (World.block_lt_of_cell? w _ hw163_11)).trans hw163_11), ((HB.out.cell (World.block_lt_of_cell? w _ hw163_12)).trans hw163_12), ((HB.out.cell (World.block_lt_of_cell? w _ hw163_13)).trans hw163_13), ((HB.out.cell (World.block_lt_of_cell? w _ hw164_0)).trans hw164_0), ((HB.out.cell (World.block_lt_of_cell? w _ hw164_1)).trans hw164_1), ((HB.out.cell (World.block_lt_of_cell? w _ hw164_2)).trans hw164_2), ((HB.out.cell (World.block_lt_of_cell? w _ hw164_3)).trans hw164_3), ((HB.out.cell (World.block_lt_of_cell? w _ hw164_4)).trans hw164_4), ((HB.out.cell (World.block_lt_of_cell? w _ hw164_5)).trans hw164_5), ((HB.out.cell (World.block_lt_of_cell? w _ hw164_6)).trans hw164_6), ((HB.out.cell (World.block_lt_of_cell? w _ hw164_7)).trans hw164_7), ((HB.out.cell (World.block_lt_of_cell? w _ hw164_8)).trans hw164_8), ((HB.out.cell (World.block_lt_of_cell? w _ hw164_9)).trans hw164_9), ((HB.out.cell (World.block_lt_of_cell? w _ hw164_10)).trans hw164_10), ((HB.out.cell (World.block_lt_of_cell? w _ hw164_11)).trans hw164_11), ((HB.out.cell (World.block_lt_of_cell? w _ hw164_12)).trans hw164_12), ((HB.out.cell (World.block_lt_of_cell? w _ hw164_13)).trans hw164_13)⟩ (fun hHeld => ?_)
                clear hK K
                refine norm_ (a' := ?_) ?_ ?_
                rotate_left
                · show Act.put _ (some 25) _ = _
                  simp only [Act.put, List.setIfInBounds_toArray, List.set_cons_zero, List.set_cons_succ, i64_w, i32_w]
                  rfl
                refine pure_ (i := 9) (N := some 26) (v := ?_) (a' := ?_) #[true, true, true, true, true, true, true, true, true, true] rfl rfl (any_of HT_.out (by kernel_rfl)) (fun _ _ _ h => h) (Or.inl ⟨by rfl, ?_⟩) ?_ ?_
                rotate_left
                · intro w'
                  go_simp
                  with_reducible rfl
                rotate_left
                · simp only [Act.put, List.setIfInBounds_toArray, List.set_cons_zero, List.set_cons_succ, i64_w, i32_w]
                  rfl
                refine done_ (done_of HT_.out (by kernel_rfl)) ?_
                try go_wp2
                go_roundg k1
                case measure => have := HK1.out; omega
                case rel => exact ⟨(wrap64 (x5_1 + 1)), (by first | rfl | (simp; done) | (simp [*]; done)), H', ⟨by have := HK1.out; omega⟩, ⟨by repeat (first | (with_reducible first | exact HB.out | apply below_alloc | apply pw_below_drewN | apply below_drew1) | exact HB.out)⟩⟩
              · replace c8 := Bool.eq_false_iff.mpr c8
                subst c8
                have H1 : (some false) = some r := by rw [if_neg (show ¬ (false = true) by decide)] at H; exact H
                clear H
                have H := H1
                clear H1
                obtain rfl := Option.some.inj H
                try go_wp2
                have n0_ := Aside0.mk (below_drew1 HB.out)
                clear HB
                have HB := n0_
                clear n0_
                have p163 : 0 ≤ (x5_1 : Int) := of_decide_eq_true (by first | (with_reducible assumption) | assumption)
                have q163 : x5_1 < (l0.length : Int) := of_decide_eq_true (by first | (with_reducible assumption) | assumption)
                obtain ⟨ad163, A163_11, c163_11, e163, hx163_0, hx163_1, hx163_2, hx163_3, hx163_4, hx163_5, hx163_6, hx163_7, hx163_8, hx163_9, hx163_10, hx163_11, hx163_12, hx163_13, hl163_11, hi163_11⟩ := at_T71 HR0.out x5_1 p163 q163
                have hw163_13 := hx163_13
                have hw163_12 := hx163_12
                have hw163_11 := hx163_11
                have hw163_10 := hx163_10
                have hw163_9 := hx163_9
                have hw163_8 := hx163_8
                have hw163_7 := hx163_7
                have hw163_6 := hx163_6
                have hw163_5 := hx163_5
                have hw163_4 := hx163_4
                have hw163_3 := hx163_3
                have hw163_2 := hx163_2
                have hw163_1 := hx163_1
                have hw163_0 := hx163_0
                cases e163
                replace hx163_0 := (HB.out.cell (World.block_lt_of_cell? w _ hx163_0)).trans hx163_0
                replace hx163_1 := (HB.out.cell (World.block_lt_of_cell? w _ hx163_1)).trans hx163_1
                replace hx163_2 := (HB.out.cell (World.block_lt_of_cell? w _ hx163_2)).trans hx163_2
                replace hx163_3 := (HB.out.cell (World.block_lt_of_cell? w _ hx163_3)).trans hx163_3
                replace hx163_4 := (HB.out.cell (World.block_lt_of_cell? w _ hx163_4)).trans hx163_4
                replace hx163_5 := (HB.out.cell (World.block_lt_of_cell? w _ hx163_5)).trans hx163_5
                replace hx163_6 := (HB.out.cell (World.block_lt_of_cell? w _ hx163_6)).trans hx163_6
                replace hx163_7 := (HB.out.cell (World.block_lt_of_cell? w _ hx163_7)).trans hx163_7
                replace hx163_8 := (HB.out.cell (World.block_lt_of_cell? w _ hx163_8)).trans hx163_8
                replace hx163_9 := (HB.out.cell (World.block_lt_of_cell? w _ hx163_9)).trans hx163_9
                replace hx163_10 := (HB.out.cell (World.block_lt_of_cell? w _ hx163_10)).trans hx163_10
                replace hx163_11 := (HB.out.cell (World.block_lt_of_cell? w _ hx163_11)).trans hx163_11
                replace hx163_12 := (HB.out.cell (World.block_lt_of_cell? w _ hx163_12)).trans hx163_12
                replace hx163_13 := (HB.out.cell (World.block_lt_of_cell? w _ hx163_13)).trans hx163_13
                have HR163_11 := Aside0.mk hi163_11
                have HC163_11 := Aside0.mk hl163_11
                clear hi163_11 hl163_11
                replace p163 := eq_true p163
                replace q163 := eq_true q163
                have p164 : 0 ≤ (x5_1 : Int) := of_decide_eq_true (by first | (with_reducible assumption) | assumption)
                have q164 : x5_1 < (l1.length : Int) := of_decide_eq_true (by first | (with_reducible assumption) | assumption)
                obtain ⟨ad164, A164_11, c164_11, e164, hx164_0, hx164_1, hx164_2, hx164_3, hx164_4, hx164_5, hx164_6, hx164_7, hx164_8, hx164_9, hx164_10, hx164_11, hx164_12, hx164_13, hl164_11, hi164_11⟩ := at_T71 HR1.out x5_1 p164 q164
                have hw164_13 := hx164_13
                have hw164_12 := hx164_12
                have hw164_11 := hx164_11
                have hw164_10 := hx164_10
                have hw164_9 := hx164_9
                have hw164_8 := hx164_8
                have hw164_7 := hx164_7
                have hw164_6 := hx164_6
                have hw164_5 := hx164_5
                have hw164_4 := hx164_4
                have hw164_3 := hx164_3
                have hw164_2 := hx164_2
                have hw164_1 := hx164_1
                have hw164_0 := hx164_0
                cases e164
                replace hx164_0 := (HB.out.cell (World.block_lt_of_cell? w _ hx164_0)).trans hx164_0
                replace hx164_1 := (HB.out.cell (World.block_lt_of_cell? w _ hx164_1)).trans hx164_1
                replace hx164_2 := (HB.out.cell (World.block_lt_of_cell? w _ hx164_2)).trans hx164_2
                replace hx164_3 := (HB.out.cell (World.block_lt_of_cell? w _ hx164_3)).trans hx164_3
                replace hx164_4 := (HB.out.cell (World.block_lt_of_cell? w _ hx164_4)).trans hx164_4
                replace hx164_5 := (HB.out.cell (World.block_lt_of_cell? w _ hx164_5)).trans hx164_5
                replace hx164_6 := (HB.out.cell (World.block_lt_of_cell? w _ hx164_6)).trans hx164_6
                replace hx164_7 := (HB.out.cell (World.block_lt_of_cell? w _ hx164_7)).trans hx164_7
                replace hx164_8 := (HB.out.cell (World.block_lt_of_cell? w _ hx164_8)).trans hx164_8
                replace hx164_9 := (HB.out.cell (World.block_lt_of_cell? w _ hx164_9)).trans hx164_9
                replace hx164_10 := (HB.out.cell (World.block_lt_of_cell? w _ hx164_10)).trans hx164_10
                replace hx164_11 := (HB.out.cell (World.block_lt_of_cell? w _ hx164_11)).trans hx164_11
                replace hx164_12 := (HB.out.cell (World.block_lt_of_cell? w _ hx164_12)).trans hx164_12
                replace hx164_13 := (HB.out.cell (World.block_lt_of_cell? w _ hx164_13)).trans hx164_13
                have HR164_11 := Aside0.mk hi164_11
                have HC164_11 := Aside0.mk hl164_11
                clear hi164_11 hl164_11
                replace p164 := eq_true p164
                replace q164 := eq_true q164
                refine start_ (n := 10) (S := fun w' => w'.cell? (ad163.add ((x5_1).toNat * 14)) = some (.int .i64 ((rd_T71 l0 x5_1).f0)) ∧ w'.cell? ⟨(ad163.add ((x5_1).toNat * 14)).block, (ad163.add ((x5_1).toNat * 14)).off + 1, none⟩ = some (.int .i64 ((rd_T71 l0 x5_1).f1)) ∧ w'.cell? ⟨(ad163.add ((x5_1).toNat * 14)).block, (ad163.add ((x5_1).toNat * 14)).off + 2, none⟩ = some (.int .i64 ((rd_T71 l0 x5_1).f2)) ∧ w'.cell? ⟨(ad163.add ((x5_1).toNat * 14)).block, (ad163.add ((x5_1).toNat * 14)).off + 3, none⟩ = some (.int .i64 ((rd_T71 l0 x5_1).f3)) ∧ w'.cell? ⟨(ad163.add ((x5_1).toNat * 14)).block, (ad163.add ((x5_1).toNat * 14)).off + 4, none⟩ = some (.int .i64 ((rd_T71 l0 x5_1).f4.f0)) ∧ w'.cell? ⟨(ad163.add ((x5_1).toNat * 14)).block, (ad163.add ((x5_1).toNat * 14)).off + 5, none⟩ = some (.int .i64 ((rd_T71 l0 x5_1).f4.f1)) ∧ w'.cell? ⟨(ad163.add ((x5_1).toNat * 14)).block, (ad163.add ((x5_1).toNat * 14)).off + 6, none⟩ = some (.int .i64 ((rd_T71 l0 x5_1).f4.f2)) ∧ w'.cell? ⟨(ad163.add ((x5_1).toNat * 14)).block, (ad163.add ((x5_1).toNat * 14)).off + 7, none⟩ = some (.int .i64 ((rd_T71 l0 x5_1).f4.f3)) ∧ w'.cell? ⟨(ad163.add ((x5_1).toNat * 14)).block, (ad163.add ((x5_1).toNat * 14)).off + 8, none⟩ = some (.int .i64 ((rd_T71 l0 x5_1).f4.f4)) ∧ w'.cell? ⟨(ad163.add ((x5_1).toNat * 14)).block, (ad163.add ((x5_1).toNat * 14)).off + 9, none⟩ = some (.int .i64 ((rd_T71 l0 x5_1).f4.f5)) ∧ w'.cell? ⟨(ad163.add ((x5_1).toNat * 14)).block, (ad163.add ((x5_1).toNat * 14)).off + 10, none⟩ = some (.bool ((rd_T71 l0 x5_1).f4.f6)) ∧ w'.cell? ⟨(ad163.add ((x5_1).toNat * 14)).block, (ad163.add ((x5_1).toNat * 14)).off + 11, none⟩ = some (.slice A163_11 ((rd_T71 l0 x5_1).f5).length c163_11) ∧ w'.cell? ⟨(ad163.add ((x5_1).toNat * 14)).block, (ad163.add ((x5_1).toNat * 14)).off + 12, none⟩ = some (.int .i64 ((rd_T71 l0 x5_1).f6)) ∧ w'.cell? ⟨(ad163.add ((x5_1).toNat * 14)).block, (ad163.add ((x5_1).toNat * 14)).off + 13, none⟩ = some (.int .i64 ((rd_T71 l0 x5_1).f7)) ∧ w'.cell? (ad164.add ((x5_1).toNat * 14)) = some (.int .i64 ((rd_T71 l1 x5_1).f0)) ∧ w'.cell? ⟨(ad164.add ((x5_1).toNat * 14)).block, (ad164.add ((x5_1).toNat * 14)).off + 1, none⟩ = some (.int .i64 ((rd_T71 l1 x5_1).f1)) ∧ w'.cell? ⟨(ad164.add ((x5_1).toNat * 14)).block, (ad164.add ((x5_1).toNat * 14)).off + 2, none⟩ = some (.int .i64 ((rd_T71 l1 x5_1).f2)) ∧ w'.cell? ⟨(ad164.add ((x5_1).toNat * 14)).block, (ad164.add ((x5_1).toNat * 14)).off + 3, none⟩ = some (.int .i64 ((rd_T71 l1 x5_1).f3)) ∧ w'.cell? ⟨(ad164.add ((x5_1).toNat * 14)).block, (ad164.add ((x5_1).toNat * 14)).off + 4, none⟩ = some (.int .i64 ((rd_T71 l1 x5_1).f4.f0)) ∧ w'.cell? ⟨(ad164.add ((x5_1).toNat * 14)).block, (ad164.add ((x5_1).toNat * 14)).off + 5, none⟩ = some (.int .i64 ((rd_T71 l1 x5_1).f4.f1)) ∧ w'.cell? ⟨(ad164.add ((x5_1).toNat * 14)).block, (ad164.add ((x5_1).toNat * 14)).off + 6, none⟩ = some (.int .i64 ((rd_T71 l1 x5_1).f4.f2)) ∧ w'.cell? ⟨(ad164.add ((x5_1).toNat * 14)).block, (ad164.add ((x5_1).toNat * 14)).off + 7, none⟩ = some (.int .i64 ((rd_T71 l1 x5_1).f4.f3)) ∧ w'.cell? ⟨(ad164.add ((x5_1).toNat * 14)).block, (ad164.add ((x5_1).toNat * 14)).off + 8, none⟩ = some (.int .i64 ((rd_T71 l1 x5_1).f4.f4)) ∧ w'.cell? ⟨(ad164.add ((x5_1).toNat * 14)).block, (ad164.add ((x5_1).toNat * 14)).off + 9, none⟩ = some (.int .i64 ((rd_T71 l1 x5_1).f4.f5)) ∧ w'.cell? ⟨(ad164.add ((x5_1).toNat * 14)).block, (ad164.add ((x5_1).toNat * 14)).off + 10, none⟩ = some (.bool ((rd_T71 l1 x5_1).f4.f6)) ∧ w'.cell? ⟨(ad164.add ((x5_1).toNat * 14)).block, (ad164.add ((x5_1).toNat * 14)).off + 11, none⟩ = some (.slice A164_11 ((rd_T71 l1 x5_1).f5).length c164_11) ∧ w'.cell? ⟨(ad164.add ((x5_1).toNat * 14)).block, (ad164.add ((x5_1).toNat * 14)).off + 12, none⟩ = some (.int .i64 ((rd_T71 l1 x5_1).f6)) ∧ w'.cell? ⟨(ad164.add ((x5_1).toNat * 14)).block, (ad164.add ((x5_1).toNat * 14)).off + 13, none⟩ = some (.int .i64 ((rd_T71 l1 x5_1).f7))) (ds := []) #[false, false, false, false, false, false, false, false, false, false] (by kernel_rfl) rfl rfl ⟨((HB.out.cell (World.block_lt_of_cell? w _ hw163_0)).trans hw163_0), ((HB.out.cell (World.block_lt_of_cell? w _ hw163_1)).trans hw163_1), ((HB.out.cell (World.block_lt_of_cell? w _ hw163_2)).trans hw163_2), ((HB.out.cell (World.block_lt_of_cell? w _ hw163_3)).trans hw163_3), ((HB.out.cell (World.block_lt_of_cell? w _ hw163_4)).trans hw163_4), ((HB.out.cell (World.block_lt_of_cell? w _ hw163_5)).trans hw163_5), ((HB.out.cell (World.block_lt_of_cell? w _ hw163_6)).trans hw163_6), ((HB.out.cell (World.block_lt_of_cell? w _ hw163_7)).trans hw163_7), ((HB.out.cell (World.block_lt_of_cell? w _ hw163_8)).trans hw163_8), ((HB.out.cell (World.block_lt_of_cell? w _ hw163_9)).trans hw163_9), ((HB.out.cell (World.block_lt_of_cell? w _ hw163_10)).trans hw163_10), ((HB.out.cell (World.block_lt_of_cell? w _ hw163_11)).trans hw163_11), ((HB.out.cell (World.block_lt_of_cell? w _ hw163_12)).trans hw163_12), ((HB.out.cell (World.block_lt_of_cell? w _ hw163_13)).trans hw163_13), ((HB.out.cell (World.block_lt_of_cell? w _ hw164_0)).trans hw164_0), ((HB.out.cell (World.block_lt_of_cell? w _ hw164_1)).trans hw164_1), ((HB.out.cell (World.block_lt_of_cell? w _ hw164_2)).trans hw164_2), ((HB.out.cell (World.block_lt_of_cell? w _ hw164_3)).trans hw164_3), ((HB.out.cell (World.block_lt_of_cell? w _ hw164_4)).trans hw164_4), ((HB.out.cell (World.block_lt_of_cell? w _ hw164_5)).trans hw164_5), ((HB.out.cell (World.block_lt_of_cell? w _ hw164_6)).trans hw164_6), ((HB.out.cell (World.block_lt_of_cell? w _ hw164_7)).trans hw164_7), ((HB.out.cell (World.block_lt_of_cell? w _ hw164_8)).trans hw164_8), ((HB.out.cell (World.block_lt_of_cell? w _ hw164_9)).trans hw164_9), ((HB.out.cell (World.block_lt_of_cell? w _ hw164_10)).trans hw164_10), ((HB.out.cell (World.block_lt_of_cell? w _ hw164_11)).trans hw164_11), ((HB.out.cell (World.block_lt_of_cell? w _ hw164_12)).trans hw164_12), ((HB.out.cell (World.block_lt_of_cell? w _ hw164_13)).trans hw164_13)⟩ (fun hHeld => ?_); refine with_tabW laws_eqTurnS.tab6 laws_eqTurnS.bits6 (fun HT_ HW_ => ?_)
                generalize wr.drew = w11 at HB HR163_11 HR164_11 hx163_0 hx163_1 hx163_10 hx163_11 hx163_12 hx163_13 hx163_2 hx163_3 hx163_4 hx163_5 hx163_6 hx163_7 hx163_8 hx163_9 hx164_0 hx164_1 hx164_10 hx164_11 hx164_12 hx164_13 hx164_2 hx164_3 hx164_4 hx164_5 hx164_6 hx164_7 hx164_8 hx164_9 hHeld ⊢
                refine pure_ (i := 0) (N := some 17) (v := ?_) (a' := ?_) #[true, false, false, false, false, false, false, false, false, false] rfl rfl (any_of HT_.out (by kernel_rfl)) (fun _ _ _ h => h) (Or.inl ⟨by rfl, ?_⟩) ?_ ?_
                rotate_left
                · intro w'
                  go_simp
                  with_reducible rfl
                rotate_left
                · simp only [Act.put, List.setIfInBounds_toArray, List.set_cons_zero, List.set_cons_succ, i64_w, i32_w]
                  rfl
                refine pure_ (i := 1) (N := some 18) (v := ?_) (a' := ?_) #[true, true, false, false, false, false, false, false, false, false] rfl rfl (any_of HT_.out (by kernel_rfl)) (fun _ _ _ h => h) (Or.inl ⟨by rfl, ?_⟩) ?_ ?_
                rotate_left
                · intro w'
                  go_simp
                  with_reducible rfl
                rotate_left
                · simp only [Act.put, List.setIfInBounds_toArray, List.set_cons_zero, List.set_cons_succ, i64_w, i32_w]
                  rfl
                refine pure_ (i := 2) (N := some 19) (v := ?_) (a' := ?_) #[true, true, true, false, false, false, false, false, false, false] rfl rfl (any_of HT_.out (by kernel_rfl)) (fun _ _ _ h => h) (Or.inl ⟨by rfl, ?_⟩) ?_ ?_
                rotate_left
                · intro w'
                  go_simp
                  with_reducible rfl
                rotate_left
                · simp only [Act.put, List.setIfInBounds_toArray, List.set_cons_zero, List.set_cons_succ, i64_w, i32_w]
                  rfl
                refine pure_ (i := 4) (N := some 21) (v := ?_) (a' := ?_) #[true, true, true, false, true, false, false, false, false, false] rfl rfl (any_of HT_.out (by kernel_rfl)) (fun _ _ _ h => h) (Or.inl ⟨by rfl, ?_⟩) ?_ ?_
                rotate_left
                · intro w'
                  go_simp
                  with_reducible rfl
                rotate_left
                · simp only [Act.put, List.setIfInBounds_toArray, List.set_cons_zero, List.set_cons_succ, i64_w, i32_w]
                  rfl
                refine pure_ (i := 5) (N := some 22) (v := ?_) (a' := ?_) #[true, true, true, false, true, true, false, false, false, false] rfl rfl (any_of HT_.out (by kernel_rfl)) (fun _ _ _ h => h) (Or.inl ⟨by rfl, ?_⟩) ?_ ?_
                rotate_left
                · intro w'
                  go_simp
                  with_reducible rfl
                rotate_left
                · simp only [Act.put, List.setIfInBounds_toArray, List.set_cons_zero, List.set_cons_succ, i64_w, i32_w]
                  rfl
                refine pure_ (i := 6) (N := some 23) (v := ?_) (a' := ?_) #[true, true, true, false, true, true, true, false, false, false] rfl rfl (any_of HT_.out (by kernel_rfl)) (fun _ _ _ h => h) (Or.inl ⟨by rfl, ?_⟩) ?_ ?_
                rotate_left
                · intro w'
                  go_simp
                  with_reducible rfl
                rotate_left
                · simp only [Act.put, List.setIfInBounds_toArray, List.set_cons_zero, List.set_cons_succ, i64_w, i32_w]
                  rfl
                refine take_ (i := 3) (N := some 20) (v := ?_) (a' := ?_) #[true, true, true, true, true, true, true, false, false, false] rfl rfl (take_ofW HT_.out HW_.out (by kernel_rfl)) (fun _ _ _ h => h) (Or.inl ⟨by rfl, ?_⟩) hHeld ?_ ?_
                rotate_left
                · rintro w' ⟨s0, s1, s2, s3, s4, s5, s6, s7, s8, s9, s10, s11, s12, s13, s14, s15, s16, s17, s18, s19, s20, s21, s22, s23, s24, s25, s26, s27⟩
                  go_simp
                  with_reducible rfl
                rotate_left
                · simp only [Act.put, List.setIfInBounds_toArray, List.set_cons_zero, List.set_cons_succ, i64_w, i32_w]
                  rfl
                refine take_ (i := 7) (N := some 24) (v := ?_) (a' := ?_) #[true, true, true, true, true, true, true, true, false, false] rfl rfl (take_ofW HT_.out HW_.out (by kernel_rfl)) (fun _ _ _ h => h) (Or.inl ⟨by rfl, ?_⟩) hHeld ?_ ?_
                rotate_left
                · rintro w' ⟨s0, s1, s2, s3, s4, s5, s6, s7, s8, s9, s10, s11, s12, s13, s14, s15, s16, s17, s18, s19, s20, s21, s22, s23, s24, s25, s26, s27⟩
                  go_simp
                  with_reducible rfl
                rotate_left
                · simp only [Act.put, List.setIfInBounds_toArray, List.set_cons_zero, List.set_cons_succ, i64_w, i32_w]
                  rfl
                refine one_ (i := 8) (N := some 25) #[true, true, true, true, true, true, true, true, true, false] rfl rfl (one_of HT_.out (by kernel_rfl)) (by decide) (fun K hK => ?_)
                refine goes_ Try.func53 (by kernel_rfl) rfl #[.agg #[.int .i64 ((rd_T71 l0 x5_1).f0), .int .i64 ((rd_T71 l0 x5_1).f1), .int .i64 ((rd_T71 l0 x5_1).f2), .int .i64 ((rd_T71 l0 x5_1).f3), .int .i64 ((rd_T71 l0 x5_1).f4.f0), .int .i64 ((rd_T71 l0 x5_1).f4.f1), .int .i64 ((rd_T71 l0 x5_1).f4.f2), .int .i64 ((rd_T71 l0 x5_1).f4.f3), .int .i64 ((rd_T71 l0 x5_1).f4.f4), .int .i64 ((rd_T71 l0 x5_1).f4.f5), .bool ((rd_T71 l0 x5_1).f4.f6), .slice A163_11 ((rd_T71 l0 x5_1).f5).length c163_11, .int .i64 ((rd_T71 l0 x5_1).f6), .int .i64 ((rd_T71 l0 x5_1).f7)], .agg #[.int .i64 ((rd_T71 l1 x5_1).f0), .int .i64 ((rd_T71 l1 x5_1).f1), .int .i64 ((rd_T71 l1 x5_1).f2), .int .i64 ((rd_T71 l1 x5_1).f3), .int .i64 ((rd_T71 l1 x5_1).f4.f0), .int .i64 ((rd_T71 l1 x5_1).f4.f1), .int .i64 ((rd_T71 l1 x5_1).f4.f2), .int .i64 ((rd_T71 l1 x5_1).f4.f3), .int .i64 ((rd_T71 l1 x5_1).f4.f4), .int .i64 ((rd_T71 l1 x5_1).f4.f5), .bool ((rd_T71 l1 x5_1).f4.f6), .slice A164_11 ((rd_T71 l1 x5_1).f5).length c164_11, .int .i64 ((rd_T71 l1 x5_1).f6), .int .i64 ((rd_T71 l1 x5_1).f7)]] (by rfl) rfl rfl (by (try simp only [List.map_toArray, List.map_cons, List.map_nil]); first | done | rfl | (simp only [List.length_drop, List.length_take]; rfl)) ?_
                with_reducible refine (laws_eqTurn.calls k1 ((rd_T71 l0 x5_1).f0) ((rd_T71 l0 x5_1).f1) ((rd_T71 l0 x5_1).f2) ((rd_T71 l0 x5_1).f3) ((rd_T71 l0 x5_1).f4.f0) ((rd_T71 l0 x5_1).f4.f1) ((rd_T71 l0 x5_1).f4.f2) ((rd_T71 l0 x5_1).f4.f3) ((rd_T71 l0 x5_1).f4.f4) ((rd_T71 l0 x5_1).f4.f5) ((rd_T71 l0 x5_1).f4.f6) _ _ ((rd_T71 l0 x5_1).f5) ((rd_T71 l0 x5_1).f6) ((rd_T71 l0 x5_1).f7) ((rd_T71 l1 x5_1).f0) ((rd_T71 l1 x5_1).f1) ((rd_T71 l1 x5_1).f2) ((rd_T71 l1 x5_1).f3) ((rd_T71 l1 x5_1).f4.f0) ((rd_T71 l1 x5_1).f4.f1) ((rd_T71 l1 x5_1).f4.f2) ((rd_T71 l1 x5_1).f4.f3) ((rd_T71 l1 x5_1).f4.f4) ((rd_T71 l1 x5_1).f4.f5) ((rd_T71 l1 x5_1).f4.f6) _ _ ((rd_T71 l1 x5_1).f5) ((rd_T71 l1 x5_1).f6) ((rd_T71 l1 x5_1).f7) false _ ?side1 ?side2 ?side3 ?side4 A7.out).mono ?_
                (case side1 => repeat (first | exact (Kd.C_below HR163_11.out HB.out) | (with_reducible refine Kd.C_alloc ?_ _) | (with_reducible refine Kd.C_drewN ?_ _) | (with_reducible refine Kd.C_drew ?_)))
                (case side2 => exact HC163_11.out)
                (case side3 => repeat (first | exact (Kd.C_below HR164_11.out HB.out) | (with_reducible refine Kd.C_alloc ?_ _) | (with_reducible refine Kd.C_drewN ?_ _) | (with_reducible refine Kd.C_drew ?_)))
                (case side4 => exact HC164_11.out)
                rintro e w12 ⟨rfl, hb⟩
                refine ⟨_, rfl, ?_⟩
                have n0_ := Aside0.mk (below_step (by repeat (first | (with_reducible first | exact HB.out | apply below_alloc | apply pw_below_drewN | apply below_drew1) | exact HB.out)) hb)
                clear HB
                have HB := n0_
                clear n0_
                (try clear hb)
                (try clear hb2)
                (try clear hk)
                (try clear hi)
                refine hK.out _ _ ⟨((HB.out.cell (World.block_lt_of_cell? w _ hw163_0)).trans hw163_0), ((HB.out.cell (World.block_lt_of_cell? w _ hw163_1)).trans hw163_1), ((HB.out.cell (World.block_lt_of_cell? w _ hw163_2)).trans hw163_2), ((HB.out.cell (World.block_lt_of_cell? w _ hw163_3)).trans hw163_3), ((HB.out.cell (World.block_lt_of_cell? w _ hw163_4)).trans hw163_4), ((HB.out.cell (World.block_lt_of_cell? w _ hw163_5)).trans hw163_5), ((HB.out.cell (World.block_lt_of_cell? w _ hw163_6)).trans hw163_6), ((HB.out.cell (World.block_lt_of_cell? w _ hw163_7)).trans hw163_7), ((HB.out.cell (World.block_lt_of_cell? w _ hw163_8)).trans hw163_8), ((HB.out.cell (World.block_lt_of_cell? w _ hw163_9)).trans hw163_9), ((HB.out.cell (World.block_lt_of_cell? w _ hw163_10)).trans hw163_10), ((HB.out.cell (World.block_lt_of_cell? w _ hw163_11)).trans hw163_11), ((HB.out.cell (World.block_lt_of_cell? w _ hw163_12)).trans hw163_12), ((HB.out.cell (World.block_lt_of_cell? w _ hw163_13)).trans hw163_13), ((HB.out.cell (World.block_lt_of_cell? w _ hw164_0)).trans hw164_0), ((HB.out.cell (World.block_lt_of_cell? w _ hw164_1)).trans hw164_1), ((HB.out.cell (World.block_lt_of_cell? w _ hw164_2)).trans hw164_2), ((HB.out.cell (World.block_lt_of_cell? w _ hw164_3)).trans hw164_3), ((HB.out.cell (World.block_lt_of_cell? w _ hw164_4)).trans hw164_4), ((HB.out.cell (World.block_lt_of_cell? w _ hw164_5)).trans hw164_5), ((HB.out.cell (World.block_lt_of_cell? w _ hw164_6)).trans hw164_6), ((HB.out.cell (World.block_lt_of_cell? w _ hw164_7)).trans hw164_7), ((HB.out.cell (World.block_lt_of_cell? w _ hw164_8)).trans hw164_8), ((HB.out.cell (World.block_lt_of_cell? w _ hw164_9)).trans hw164_9), ((HB.out.cell (World.block_lt_of_cell? w _ hw164_10)).trans hw164_10), ((HB.out.cell (World.block_lt_of_cell? w _ hw164_11)).trans hw164_11), ((HB.out.cell (World.block_lt_of_cell? w _ hw164_12)).trans hw164_12), ((HB.out.cell (World.block_lt_of_cell? w _ hw164_13)).trans hw164_13)⟩ (fun hHeld => ?_)
                clear hK K
                refine norm_ (a' := ?_) ?_ ?_
                rotate_left
                · show Act.put _ (some 25) _ = _
                  simp only [Act.put, List.setIfInBounds_toArray, List.set_cons_zero, List.set_cons_succ, i64_w, i32_w]
                  rfl
                refine pure_ (i := 9) (N := some 26) (v := ?_) (a' := ?_) #[true, true, true, true, true, true, true, true, true, true] rfl rfl (any_of HT_.out (by kernel_rfl)) (fun _ _ _ h => h) (Or.inl ⟨by rfl, ?_⟩) ?_ ?_
                rotate_left
                · intro w'
                  go_simp
                  with_reducible rfl
                rotate_left
                · simp only [Act.put, List.setIfInBounds_toArray, List.set_cons_zero, List.set_cons_succ, i64_w, i32_w]
                  rfl
                refine done_ (done_of HT_.out (by kernel_rfl)) ?_
                try go_wp2
                go_ret
                exact ⟨by first | rfl | (simp [errW_none, errW_some] <;> rfl) | (simp [*, errW_none, errW_some] <;> rfl), by repeat (first | (with_reducible first | exact HB.out | apply below_alloc | apply pw_below_drewN | apply below_drew1) | exact HB.out)⟩
            · rw [if_neg c6] at H
              exact absurd H (by simp)
          · rw [if_neg c5] at H
            exact absurd H (by simp)
        · rw [if_neg c4] at H
          have c4b0 : decide (x5_1 < (l0.length : Int)) = false := decide_eq_false c4
          clear c4
          obtain rfl := Option.some.inj H
          go_wp2
          go_ret
          exact ⟨by first | rfl | (simp [errW_none, errW_some] <;> rfl) | (simp [*, errW_none, errW_some] <;> rfl), by repeat (first | (with_reducible first | exact HB.out | apply below_alloc | apply pw_below_drewN | apply below_drew1) | exact HB.out)⟩
  · rw [if_neg c3] at H
    have c3b0 : ((l0.length : Int) == (l1.length : Int)) = false := beq_eq_false_iff_ne.mpr c3
    have c3b1 : ((l0.length : Int) != (l1.length : Int)) = true := bne_iff_ne.mpr c3
    have c3b2 : (l0.length == l1.length) = false := by first | simpa using c3 | (simp at c3 ⊢; omega)
    obtain rfl := Option.some.inj H
    go_enter Try.func58, Try.ntmps58
    go_wp2
    go_ret
    exact ⟨by first | rfl | (simp [errW_none, errW_some] <;> rfl) | (simp [*, errW_none, errW_some] <;> rfl), by repeat (first | (with_reducible first | exact HB.out | apply below_alloc | apply pw_below_drewN | apply below_drew1) | exact HB.out)⟩

/-! ### spec_Upto: function 61 -/
def spec_Upto.f (a0 : Int) (a1 : Int) : Option (Int) := if a1 < a0 then (if a1 < 0 then (some 0) else (some a1)) else (if a0 < 0 then (some 0) else (some a0))
set_option maxHeartbeats 8000000 in
set_option maxRecDepth 100000 in
theorem spec_Upto.calls (a0 : Int) (a1 : Int) (r : Int) (w : World) (h : spec_Upto.f a0 a1 = some r) :
    Calls Try.prog 61 #[.int .i64 a0, .int .i64 a1] w fun e w' => e = .returned (.int .i64 r) ∧ Drawn0 w w' := by
  have H : (if a1 < a0 then (if a1 < 0 then (some 0) else (some a1)) else (if a0 < 0 then (some 0) else (some a0))) = some r := h
  clear h
  by_cases c3 : a1 < a0
  · rw [if_pos c3] at H
    have c3b0 : decide (a1 < a0) = true := decide_eq_true c3
    clear c3
    by_cases c4 : a1 < 0
    · rw [if_pos c4] at H
      have c4b0 : decide (a1 < 0) = true := decide_eq_true c4
      clear c4
      obtain rfl := Option.some.inj H
      go_enter Try.func61, Try.ntmps61
      go_wp2
      go_ret
      exact ⟨by first | rfl | (simp; done) | (simp [*]; done), by repeat (first | exact Drawn0.refl _ | apply Drawn0.step)⟩
    · rw [if_neg c4] at H
      have c4b0 : decide (a1 < 0) = false := decide_eq_false c4
      clear c4
      obtain rfl := Option.some.inj H
      go_enter Try.func61, Try.ntmps61
      go_wp2
      go_ret
      exact ⟨by first | rfl | (simp; done) | (simp [*]; done), by repeat (first | exact Drawn0.refl _ | apply Drawn0.step)⟩
  · rw [if_neg c3] at H
    have c3b0 : decide (a1 < a0) = false := decide_eq_false c3
    clear c3
    by_cases c5 : a0 < 0
    · rw [if_pos c5] at H
      have c5b0 : decide (a0 < 0) = true := decide_eq_true c5
      clear c5
      obtain rfl := Option.some.inj H
      go_enter Try.func61, Try.ntmps61
      go_wp2
      go_ret
      exact ⟨by first | rfl | (simp; done) | (simp [*]; done), by repeat (first | exact Drawn0.refl _ | apply Drawn0.step)⟩
    · rw [if_neg c5] at H
      have c5b0 : decide (a0 < 0) = false := decide_eq_false c5
      clear c5
      obtain rfl := Option.some.inj H
      go_enter Try.func61, Try.ntmps61
      go_wp2
      go_ret
      exact ⟨by first | rfl | (simp; done) | (simp [*]; done), by repeat (first | exact Drawn0.refl _ | apply Drawn0.step)⟩

/-! ### spec_Total: function 73 -/
def spec_Total.l0 : Nat → List (S28) → Int → Int → Option (Int)
  | 0, _, _, _ => none
  | k + 1, x0, x3, x4 => if x4 < (x0.length : Int) then (if 0 ≤ x4 then (if ((rd_T28 x0 x4).f0) = 1 then ((spec_Upto.f ((rd_T28 x0 x4).f4) 2147483647).bind fun t168 => (spec_Total.l0 k x0 (wrap64 (x3 + t168)) (wrap64 (x4 + 1)))) else (spec_Total.l0 k x0 x3 (wrap64 (x4 + 1)))) else (none)) else (some x3)
def spec_Total.f (k : Nat) (l0 : List (S28)) : Option (Int) := spec_Total.l0 k l0 0 0
theorem spec_Total.mono_l : ∀ k, (∀ y0 y1 y2, LeO (spec_Total.l0 k y0 y1 y2) (spec_Total.l0 (k + 1) y0 y1 y2))
  | 0 => fun _ _ _ r h => by simp [spec_Total.l0] at h
  | k + 1 => by
    have ih0 := spec_Total.mono_l k
    · intro y0 y1 y2
      unfold spec_Total.l0
      repeat' first
      | (with_reducible exact ih0 _ _ _)
      | (with_reducible exact LeO.refl _)
      | (with_reducible exact LeO.none _)
      | (with_reducible refine LeO.ite ?_ ?_)
      | (with_reducible refine LeO.bind ?_ (fun _ => ?_))
      | exact ih0 _ _ _
      | exact LeO.none _
      | refine LeO.ite ?_ ?_
      | refine LeO.bind ?_ (fun _ => ?_)
theorem spec_Total.mono : ∀ a0 k, LeO (spec_Total.f k a0) (spec_Total.f (k + 1) a0) := by
  intro a0 k
  have ih0 := spec_Total.mono_l k
  unfold spec_Total.f
  repeat' first
      | (with_reducible exact ih0 _ _ _)
      | (with_reducible exact LeO.refl _)
      | (with_reducible exact LeO.none _)
      | (with_reducible refine LeO.ite ?_ ?_)
      | (with_reducible refine LeO.bind ?_ (fun _ => ?_))
      | exact ih0 _ _ _
      | exact LeO.none _
      | refine LeO.ite ?_ ?_
      | refine LeO.bind ?_ (fun _ => ?_)
set_option maxHeartbeats 8000000 in
set_option maxRecDepth 100000 in
theorem spec_Total.calls (k : Nat) (A0 : Option Addr) (c0 : Nat) (l0 : List (S28)) (r : Int) (w : World) (hr0 : Kd.C k28 w A0 l0.length l0) (hc0 : l0.length ≤ c0) (h : spec_Total.f k l0 = some r) :
    Calls Try.prog 73 #[.slice A0 l0.length c0] w fun e w' => e = .returned (.int .i64 r) ∧ Drawn0 w w' := by
  have HR0 := Aside0.mk hr0
  have HC0 := Aside0.mk hc0
  clear hr0 hc0
  have H : (spec_Total.l0 k l0 0 0) = some r := h
  clear h
  have H' := Aside0.mk H
  clear H
  go_enter Try.func73, Try.ntmps73
  go_wp2
  go_loopg [3, 4] k (fun kq v3 v4 w' => ∃ (x3_1 : Int) (x4_1 : Int), v3 = .int .i64 x3_1 ∧ v4 = .int .i64 x4_1 ∧ Aside0 (spec_Total.l0 kq l0 x3_1 x4_1 = some r) ∧ Aside0 (kq ≤ k) ∧ Drawn0 w w')
  case atStart => exact ⟨(0), (0), (by first | rfl | (simp; done) | (simp [*]; done)), (by first | rfl | (simp; done) | (simp [*]; done)), H', ⟨Nat.le_refl _⟩, by repeat (first | exact Drawn0.refl _ | apply Drawn0.step)⟩
  case round =>
    clear H'
    obtain ⟨x3_1, x4_1, rfl, rfl, HA, HK1, ⟨m1, rfl⟩⟩ := hrel
    cases gk with
    | zero => exact absurd HA.out (by simp [spec_Total.l0])
    | succ k1 =>
      have H := HA.out
      clear HA
      simp only [spec_Total.l0] at H
      by_cases c2 : x4_1 < (l0.length : Int)
      · rw [if_pos c2] at H
        have c2b0 : decide (x4_1 < (l0.length : Int)) = true := decide_eq_true c2
        clear c2
        by_cases c3 : 0 ≤ x4_1
        · rw [if_pos c3] at H
          have c3b0 : decide (0 ≤ x4_1) = true := decide_eq_true c3
          clear c3
          by_cases c4 : ((rd_T28 l0 x4_1).f0) = 1
          · rw [if_pos c4] at H
            have c4b0 : (((rd_T28 l0 x4_1).f0) == 1) = true := beq_iff_eq.mpr c4
            have c4b1 : (((rd_T28 l0 x4_1).f0) != 1) = false := bne_eq_false_iff_eq.mpr c4
            clear c4
            replace H := Option.bind_eq_some_iff.mp H
            obtain ⟨t168, A50, H⟩ := H
            replace H : (spec_Total.l0 k1 l0 (wrap64 (x3_1 + t168)) (wrap64 (x4_1 + 1))) = some r := H
            have A5 := Aside0.mk A50
            clear A50
            have H' := Aside0.mk H
            clear H
            have p166 : 0 ≤ (x4_1 : Int) := of_decide_eq_true (by first | (with_reducible assumption) | assumption)
            have q166 : x4_1 < (l0.length : Int) := of_decide_eq_true (by first | (with_reducible assumption) | assumption)
            obtain ⟨ad166, e166, hx166_0, hx166_1, hx166_2, hx166_3, hx166_4, hx166_5, hx166_6⟩ := at_T28 HR0.out x4_1 p166 q166
            cases e166
            replace p166 := eq_true p166
            replace q166 := eq_true q166
            have p167 : 0 ≤ (x4_1 : Int) := of_decide_eq_true (by first | (with_reducible assumption) | assumption)
            have q167 : x4_1 < (l0.length : Int) := of_decide_eq_true (by first | (with_reducible assumption) | assumption)
            obtain ⟨ad167, e167, hx167_0, hx167_1, hx167_2, hx167_3, hx167_4, hx167_5, hx167_6⟩ := at_T28 HR0.out x4_1 p167 q167
            obtain rfl : ad166 = ad167 := (by injection e167)
            replace p167 := eq_true p167
            replace q167 := eq_true q167
            go_wp2_with (first | ((with_reducible refine gate_callee (f := 61) rfl ?_); refine goesL_ (some 23) rfl rfl Try.func61 (by kernel_rfl) rfl #[.int .i64 ((rd_T28 l0 x4_1).f4), .int .i64 2147483647] rfl (by (try simp only [List.map_toArray, List.map_cons, List.map_nil]); first | done | rfl | (simp only [List.length_drop, List.length_take]; rfl)) ?_; (with_reducible refine (spec_Upto.calls ((rd_T28 l0 x4_1).f4) 2147483647 t168 _ A5.out).mono ?_); rintro e w' ⟨rfl, ⟨nd, rfl⟩⟩; refine ⟨_, rfl, ?_⟩))
            go_roundg k1
            case measure => have := HK1.out; omega
            case rel => exact ⟨(wrap64 (x3_1 + t168)), (wrap64 (x4_1 + 1)), (by first | rfl | (simp; done) | (simp [*]; done)), (by first | rfl | (simp; done) | (simp [*]; done)), H', ⟨by have := HK1.out; omega⟩, by repeat (first | exact Drawn0.refl _ | apply Drawn0.step)⟩
          · rw [if_neg c4] at H
            have c4b0 : (((rd_T28 l0 x4_1).f0) == 1) = false := beq_eq_false_iff_ne.mpr c4
            have c4b1 : (((rd_T28 l0 x4_1).f0) != 1) = true := bne_iff_ne.mpr c4
            have H' := Aside0.mk H
            clear H
            have p166 : 0 ≤ (x4_1 : Int) := of_decide_eq_true (by first | (with_reducible assumption) | assumption)
            have q166 : x4_1 < (l0.length : Int) := of_decide_eq_true (by first | (with_reducible assumption) | assumption)
            obtain ⟨ad166, e166, hx166_0, hx166_1, hx166_2, hx166_3, hx166_4, hx166_5, hx166_6⟩ := at_T28 HR0.out x4_1 p166 q166
            cases e166
            replace p166 := eq_true p166
            replace q166 := eq_true q166
            go_wp2
            go_roundg k1
            case measure => have := HK1.out; omega
            case rel => exact ⟨(x3_1), (wrap64 (x4_1 + 1)), (by first | rfl | (simp; done) | (simp [*]; done)), (by first | rfl | (simp; done) | (simp [*]; done)), H', ⟨by have := HK1.out; omega⟩, by repeat (first | exact Drawn0.refl _ | apply Drawn0.step)⟩
        · rw [if_neg c3] at H
          exact absurd H (by simp)
      · rw [if_neg c2] at H
        have c2b0 : decide (x4_1 < (l0.length : Int)) = false := decide_eq_false c2
        clear c2
        obtain rfl := Option.some.inj H
        go_wp2
        go_ret
        exact ⟨by first | rfl | (simp; done) | (simp [*]; done), by repeat (first | exact Drawn0.refl _ | apply Drawn0.step)⟩

end Go.Proofs.Ytljnfcmcjhggfaa.PFnExactChanged
