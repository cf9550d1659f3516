-- Written by wip/fix.py (a program of this session) out of the print of this claim.
import Derived.Test.YtljnfcmcjhggfaaPFnExactFewestx0
import Derived.Test.YtljnfcmcjhggfaaPFnExactFewestx1
namespace Go.Proofs.Ytljnfcmcjhggfaa.PFnExactFewest
open Go.RowKit Go.Proofs.YtljnfcmcjhggfaaW.PrintWords Go.Proofs.YtljnfcmcjhggfaaW.PrintLast Go.Proofs.YtljnfcmcjhggfaaW.PrintMore
attribute [local go_sem] max2_int min2_int max_two min_two max_three min_three max_four min_four   -- for this text's walks alone
set_option linter.unusedVariables false
set_option linter.unusedSimpArgs false

/-! ### laws_eqEventS: function 35 -/
def laws_eqEventS.l0 : Nat → List (S28) → List (S28) → Int → Option (Bool)
  | 0, _, _, _ => none
  | k + 1, x0, x1, x5 => if x5 < (x0.length : Int) then (if 0 ≤ x5 then (if x5 < (x1.length : Int) then ((laws_eqEvent.f ((rd_T28 x0 x5).f0) ((rd_T28 x0 x5).f1) ((rd_T28 x0 x5).f2) ((rd_T28 x0 x5).f3) ((rd_T28 x0 x5).f4) ((rd_T28 x0 x5).f5) ((rd_T28 x0 x5).f6) ((rd_T28 x1 x5).f0) ((rd_T28 x1 x5).f1) ((rd_T28 x1 x5).f2) ((rd_T28 x1 x5).f3) ((rd_T28 x1 x5).f4) ((rd_T28 x1 x5).f5) ((rd_T28 x1 x5).f6)).bind fun t130 => (if t130 = true then (laws_eqEventS.l0 k x0 x1 (wrap64 (x5 + 1))) else (some false))) else (none)) else (none)) else (some true)
def laws_eqEventS.f (k : Nat) (l0 : List (S28)) (l1 : List (S28)) : Option (Bool) := if (l0.length : Int) = (l1.length : Int) then (laws_eqEventS.l0 k l0 l1 0) else (some false)
theorem laws_eqEventS.mono_l : ∀ k, (∀ y0 y1 y2, LeO (laws_eqEventS.l0 k y0 y1 y2) (laws_eqEventS.l0 (k + 1) y0 y1 y2))
  | 0 => fun _ _ _ r h => by simp [laws_eqEventS.l0] at h
  | k + 1 => by
    have ih0 := laws_eqEventS.mono_l k
    · intro y0 y1 y2
      unfold laws_eqEventS.l0
      repeat' first
      | (with_reducible exact ih0 _ _ _)
      | (with_reducible exact LeO.refl _)
      | (with_reducible exact LeO.none _)
      | (with_reducible refine LeO.ite ?_ ?_)
      | (with_reducible refine LeO.bind ?_ (fun _ => ?_))
      | exact ih0 _ _ _
      | exact LeO.none _
      | refine LeO.ite ?_ ?_
      | refine LeO.bind ?_ (fun _ => ?_)
theorem laws_eqEventS.mono : ∀ a0 a1 k, LeO (laws_eqEventS.f k a0 a1) (laws_eqEventS.f (k + 1) a0 a1) := by
  intro a0 a1 k
  have ih0 := laws_eqEventS.mono_l k
  unfold laws_eqEventS.f
  repeat' first
      | (with_reducible exact ih0 _ _ _)
      | (with_reducible exact LeO.refl _)
      | (with_reducible exact LeO.none _)
      | (with_reducible refine LeO.ite ?_ ?_)
      | (with_reducible refine LeO.bind ?_ (fun _ => ?_))
      | exact ih0 _ _ _
      | exact LeO.none _
      | refine LeO.ite ?_ ?_
      | refine LeO.bind ?_ (fun _ => ?_)
def laws_eqEventS.T6 : Bool × List (List Nat × List Nat) := (true, [([], []), ([], []), ([0, 1], [0, 1]), ([2], [2]), ([], []), ([], []), ([4, 5], [4, 5]), ([6], [6]), ([3, 7], [3, 7]), ([8], [8])])
def laws_eqEventS.B6 : List Nat := [0, 0, 3, 7, 0, 0, 48, 112, 255, 511]
theorem laws_eqEventS.tab6 : rtab .any (opsOf Try.f35 6) = laws_eqEventS.T6 := by kernel_rfl
theorem laws_eqEventS.bits6 : waitsOk laws_eqEventS.T6.2 laws_eqEventS.B6 = true := by kernel_rfl
set_option maxHeartbeats 8000000 in
set_option maxRecDepth 100000 in
theorem laws_eqEventS.calls (k : Nat) (A0 : Option Addr) (c0 : Nat) (l0 : List (S28)) (A1 : Option Addr) (c1 : Nat) (l1 : List (S28)) (r : Bool) (w : World) (hr0 : Kd.C k28 w A0 l0.length l0) (hc0 : l0.length ≤ c0) (hr1 : Kd.C k28 w A1 l1.length l1) (hc1 : l1.length ≤ c1) (h : laws_eqEventS.f k l0 l1 = some r) :
    Calls Try.prog 35 #[.slice A0 l0.length c0, .slice A1 l1.length c1] w fun e w' => e = .returned (.bool r) ∧ Below w.heap.size w w' := by
  have hu28 := Try.underlying28
  have HR0 := Aside0.mk hr0
  have HC0 := Aside0.mk hc0
  clear hr0 hc0
  have HR1 := Aside0.mk hr1
  have HC1 := Aside0.mk hc1
  clear hr1 hc1
  have HB := Aside0.mk (Below.refl w.heap.size w)
  have H : (if (l0.length : Int) = (l1.length : Int) then (laws_eqEventS.l0 k l0 l1 0) else (some false)) = some r := h
  clear h
  by_cases c3 : (l0.length : Int) = (l1.length : Int)
  · rw [if_pos c3] at H
    have c3b0 : ((l0.length : Int) == (l1.length : Int)) = true := beq_iff_eq.mpr c3
    have c3b1 : ((l0.length : Int) != (l1.length : Int)) = false := bne_eq_false_iff_eq.mpr c3
    have c3b2 : (l0.length == l1.length) = true := by first | simpa using c3 | (simp at c3 ⊢; omega)
    clear c3
    have H' := Aside0.mk H
    clear H
    go_enter Try.func35, Try.ntmps35
    go_wp2
    go_loopg [5] k (fun kq v5 w' => ∃ (x5_1 : Int), v5 = .int .i64 x5_1 ∧ Aside0 (laws_eqEventS.l0 kq l0 l1 x5_1 = some r) ∧ Aside0 (kq ≤ k) ∧ Aside0 (Below w.heap.size w w'))
    case atStart => exact ⟨(0), (by first | rfl | (simp; done) | (simp [*]; done)), H', ⟨Nat.le_refl _⟩, ⟨by repeat (first | (with_reducible first | exact HB.out | apply below_alloc | apply pw_below_drewN | apply below_drew1) | exact HB.out)⟩⟩
    case round =>
      clear H'
      try clear c1
      try clear p2
      try clear c3
      try clear c3b0
      try clear c3b1
      try clear c3b2
      obtain ⟨x5_1, rfl, HA, HK1, HB⟩ := hrel
      cases gk with
      | zero => exact absurd HA.out (by simp [laws_eqEventS.l0])
      | succ k1 =>
        have H := HA.out
        clear HA
        simp only [laws_eqEventS.l0] at H
        by_cases c4 : x5_1 < (l0.length : Int)
        · rw [if_pos c4] at H
          have c4b0 : decide (x5_1 < (l0.length : Int)) = true := decide_eq_true c4
          clear c4
          by_cases c5 : 0 ≤ x5_1
          · rw [if_pos c5] at H
            have c5b0 : decide (0 ≤ x5_1) = true := decide_eq_true c5
            clear c5
            by_cases c6 : x5_1 < (l1.length : Int)
            · rw [if_pos c6] at H
              have c6b0 : decide (x5_1 < (l1.length : Int)) = true := decide_eq_true c6
              clear c6
              replace H := Option.bind_eq_some_iff.mp H
              obtain ⟨t130, A70, H⟩ := H
              replace H : (if t130 = true then (laws_eqEventS.l0 k1 l0 l1 (wrap64 (x5_1 + 1))) else (some false)) = some r := H
              have A7 := Aside0.mk A70
              clear A70
              by_cases c8 : t130 = true
              · subst c8
                have H1 : (laws_eqEventS.l0 k1 l0 l1 (wrap64 (x5_1 + 1))) = some r := by rw [if_pos rfl] at H; exact H
                clear H
                have H := H1
                clear H1
                have H' := Aside0.mk H
                clear H
                try go_wp2
                have n0_ := Aside0.mk (below_drew1 HB.out)
                clear HB
                have HB := n0_
                clear n0_
                have p128 : 0 ≤ (x5_1 : Int) := of_decide_eq_true (by first | (with_reducible assumption) | assumption)
                have q128 : x5_1 < (l0.length : Int) := of_decide_eq_true (by first | (with_reducible assumption) | assumption)
                obtain ⟨ad128, e128, hx128_0, hx128_1, hx128_2, hx128_3, hx128_4, hx128_5, hx128_6⟩ := at_T28 HR0.out x5_1 p128 q128
                have hw128_6 := hx128_6
                have hw128_5 := hx128_5
                have hw128_4 := hx128_4
                have hw128_3 := hx128_3
                have hw128_2 := hx128_2
                have hw128_1 := hx128_1
                have hw128_0 := hx128_0
                cases e128
                replace hx128_0 := (HB.out.cell (World.block_lt_of_cell? w _ hx128_0)).trans hx128_0
                replace hx128_1 := (HB.out.cell (World.block_lt_of_cell? w _ hx128_1)).trans hx128_1
                replace hx128_2 := (HB.out.cell (World.block_lt_of_cell? w _ hx128_2)).trans hx128_2
                replace hx128_3 := (HB.out.cell (World.block_lt_of_cell? w _ hx128_3)).trans hx128_3
                replace hx128_4 := (HB.out.cell (World.block_lt_of_cell? w _ hx128_4)).trans hx128_4
                replace hx128_5 := (HB.out.cell (World.block_lt_of_cell? w _ hx128_5)).trans hx128_5
                replace hx128_6 := (HB.out.cell (World.block_lt_of_cell? w _ hx128_6)).trans hx128_6
                replace p128 := eq_true p128
                replace q128 := eq_true q128
                have p129 : 0 ≤ (x5_1 : Int) := of_decide_eq_true (by first | (with_reducible assumption) | assumption)
                have q129 : x5_1 < (l1.length : Int) := of_decide_eq_true (by first | (with_reducible assumption) | assumption)
                obtain ⟨ad129, e129, hx129_0, hx129_1, hx129_2, hx129_3, hx129_4, hx129_5, hx129_6⟩ := at_T28 HR1.out x5_1 p129 q129
                have hw129_6 := hx129_6
                have hw129_5 := hx129_5
                have hw129_4 := hx129_4
                have hw129_3 := hx129_3
                have hw129_2 := hx129_2
                have hw129_1 := hx129_1
                have hw129_0 := hx129_0
                cases e129
                replace hx129_0 := (HB.out.cell (World.block_lt_of_cell? w _ hx129_0)).trans hx129_0
                replace hx129_1 := (HB.out.cell (World.block_lt_of_cell? w _ hx129_1)).trans hx129_1
                replace hx129_2 := (HB.out.cell (World.block_lt_of_cell? w _ hx129_2)).trans hx129_2
                replace hx129_3 := (HB.out.cell (World.block_lt_of_cell? w _ hx129_3)).trans hx129_3
                replace hx129_4 := (HB.out.cell (World.block_lt_of_cell? w _ hx129_4)).trans hx129_4
                replace hx129_5 := (HB.out.cell (World.block_lt_of_cell? w _ hx129_5)).trans hx129_5
                replace hx129_6 := (HB.out.cell (World.block_lt_of_cell? w _ hx129_6)).trans hx129_6
                replace p129 := eq_true p129
                replace q129 := eq_true q129
                refine start_ (n := 10) (S := fun w' => w'.cell? (ad128.add ((x5_1).toNat * 7)) = some (.int .i64 ((rd_T28 l0 x5_1).f0)) ∧ w'.cell? ⟨(ad128.add ((x5_1).toNat * 7)).block, (ad128.add ((x5_1).toNat * 7)).off + 1, none⟩ = some (.int .i64 ((rd_T28 l0 x5_1).f1)) ∧ w'.cell? ⟨(ad128.add ((x5_1).toNat * 7)).block, (ad128.add ((x5_1).toNat * 7)).off + 2, none⟩ = some (.int .i64 ((rd_T28 l0 x5_1).f2)) ∧ w'.cell? ⟨(ad128.add ((x5_1).toNat * 7)).block, (ad128.add ((x5_1).toNat * 7)).off + 3, none⟩ = some (.int .i64 ((rd_T28 l0 x5_1).f3)) ∧ w'.cell? ⟨(ad128.add ((x5_1).toNat * 7)).block, (ad128.add ((x5_1).toNat * 7)).off + 4, none⟩ = some (.int .i64 ((rd_T28 l0 x5_1).f4)) ∧ w'.cell? ⟨(ad128.add ((x5_1).toNat * 7)).block, (ad128.add ((x5_1).toNat * 7)).off + 5, none⟩ = some (.int .i64 ((rd_T28 l0 x5_1).f5)) ∧ w'.cell? ⟨(ad128.add ((x5_1).toNat * 7)).block, (ad128.add ((x5_1).toNat * 7)).off + 6, none⟩ = some (.bool ((rd_T28 l0 x5_1).f6)) ∧ w'.cell? (ad129.add ((x5_1).toNat * 7)) = some (.int .i64 ((rd_T28 l1 x5_1).f0)) ∧ w'.cell? ⟨(ad129.add ((x5_1).toNat * 7)).block, (ad129.add ((x5_1).toNat * 7)).off + 1, none⟩ = some (.int .i64 ((rd_T28 l1 x5_1).f1)) ∧ w'.cell? ⟨(ad129.add ((x5_1).toNat * 7)).block, (ad129.add ((x5_1).toNat * 7)).off + 2, none⟩ = some (.int .i64 ((rd_T28 l1 x5_1).f2)) ∧ w'.cell? ⟨(ad129.add ((x5_1).toNat * 7)).block, (ad129.add ((x5_1).toNat * 7)).off + 3, none⟩ = some (.int .i64 ((rd_T28 l1 x5_1).f3)) ∧ w'.cell? ⟨(ad129.add ((x5_1).toNat * 7)).block, (ad129.add ((x5_1).toNat * 7)).off + 4, none⟩ = some (.int .i64 ((rd_T28 l1 x5_1).f4)) ∧ w'.cell? ⟨(ad129.add ((x5_1).toNat * 7)).block, (ad129.add ((x5_1).toNat * 7)).off + 5, none⟩ = some (.int .i64 ((rd_T28 l1 x5_1).f5)) ∧ w'.cell? ⟨(ad129.add ((x5_1).toNat * 7)).block, (ad129.add ((x5_1).toNat * 7)).off + 6, none⟩ = some (.bool ((rd_T28 l1 x5_1).f6))) (ds := []) #[false, false, false, false, false, false, false, false, false, false] (by kernel_rfl) rfl rfl ⟨((HB.out.cell (World.block_lt_of_cell? w _ hw128_0)).trans hw128_0), ((HB.out.cell (World.block_lt_of_cell? w _ hw128_1)).trans hw128_1), ((HB.out.cell (World.block_lt_of_cell? w _ hw128_2)).trans hw128_2), ((HB.out.cell (World.block_lt_of_cell? w _ hw128_3)).trans hw128_3), ((HB.out.cell (World.block_lt_of_cell? w _ hw128_4)).trans hw128_4), ((HB.out.cell (World.block_lt_of_cell? w _ hw128_5)).trans hw128_5), ((HB.out.cell (World.block_lt_of_cell? w _ hw128_6)).trans hw128_6), ((HB.out.cell (World.block_lt_of_cell? w _ hw129_0)).trans hw129_0), ((HB.out.cell (World.block_lt_of_cell? w _ hw129_1)).trans hw129_1), ((HB.out.cell (World.block_lt_of_cell? w _ hw129_2)).trans hw129_2), ((HB.out.cell (World.block_lt_of_cell? w _ hw129_3)).trans hw129_3), ((HB.out.cell (World.block_lt_of_cell? w _ hw129_4)).trans hw129_4), ((HB.out.cell (World.block_lt_of_cell? w _ hw129_5)).trans hw129_5), ((HB.out.cell (World.block_lt_of_cell? w _ hw129_6)).trans hw129_6)⟩ (fun hHeld => ?_); refine with_tabW laws_eqEventS.tab6 laws_eqEventS.bits6 (fun HT_ HW_ => ?_)
                generalize wr.drew = w9 at HB hx128_0 hx128_1 hx128_2 hx128_3 hx128_4 hx128_5 hx128_6 hx129_0 hx129_1 hx129_2 hx129_3 hx129_4 hx129_5 hx129_6 hHeld ⊢
                refine pure_ (i := 0) (N := some 17) (v := ?_) (a' := ?_) #[true, false, false, false, false, false, false, false, false, false] rfl rfl (any_of HT_.out (by kernel_rfl)) (fun _ _ _ h => h) (Or.inl ⟨by rfl, ?_⟩) ?_ ?_
                rotate_left
                · intro w'
                  go_simp
                  with_reducible rfl
                rotate_left
                · simp only [Act.put, List.setIfInBounds_toArray, List.set_cons_zero, List.set_cons_succ, i64_w, i32_w]
                  rfl
                refine pure_ (i := 1) (N := some 18) (v := ?_) (a' := ?_) #[true, true, false, false, false, false, false, false, false, false] rfl rfl (any_of HT_.out (by kernel_rfl)) (fun _ _ _ h => h) (Or.inl ⟨by rfl, ?_⟩) ?_ ?_
                rotate_left
                · intro w'
                  go_simp
                  with_reducible rfl
                rotate_left
                · simp only [Act.put, List.setIfInBounds_toArray, List.set_cons_zero, List.set_cons_succ, i64_w, i32_w]
                  rfl
                refine pure_ (i := 2) (N := some 19) (v := ?_) (a' := ?_) #[true, true, true, false, false, false, false, false, false, false] rfl rfl (any_of HT_.out (by kernel_rfl)) (fun _ _ _ h => h) (Or.inl ⟨by rfl, ?_⟩) ?_ ?_
                rotate_left
                · intro w'
                  go_simp
                  with_reducible rfl
                rotate_left
                · simp only [Act.put, List.setIfInBounds_toArray, List.set_cons_zero, List.set_cons_succ, i64_w, i32_w]
                  rfl
                refine pure_ (i := 4) (N := some 21) (v := ?_) (a' := ?_) #[true, true, true, false, true, false, false, false, false, false] rfl rfl (any_of HT_.out (by kernel_rfl)) (fun _ _ _ h => h) (Or.inl ⟨by rfl, ?_⟩) ?_ ?_
                rotate_left
                · intro w'
                  go_simp
                  with_reducible rfl
                rotate_left
                · simp only [Act.put, List.setIfInBounds_toArray, List.set_cons_zero, List.set_cons_succ, i64_w, i32_w]
                  rfl
                refine pure_ (i := 5) (N := some 22) (v := ?_) (a' := ?_) #[true, true, true, false, true, true, false, false, false, false] rfl rfl (any_of HT_.out (by kernel_rfl)) (fun _ _ _ h => h) (Or.inl ⟨by rfl, ?_⟩) ?_ ?_
                rotate_left
                · intro w'
                  go_simp
                  with_reducible rfl
                rotate_left
                · simp only [Act.put, List.setIfInBounds_toArray, List.set_cons_zero, List.set_cons_succ, i64_w, i32_w]
                  rfl
                refine pure_ (i := 6) (N := some 23) (v := ?_) (a' := ?_) #[true, true, true, false, true, true, true, false, false, false] rfl rfl (any_of HT_.out (by kernel_rfl)) (fun _ _ _ h => h) (Or.inl ⟨by rfl, ?_⟩) ?_ ?_
                rotate_left
                · intro w'
                  go_simp
                  with_reducible rfl
                rotate_left
                · simp only [Act.put, List.setIfInBounds_toArray, List.set_cons_zero, List.set_cons_succ, i64_w, i32_w]
                  rfl
                refine take_ (i := 3) (N := some 20) (v := ?_) (a' := ?_) #[true, true, true, true, true, true, true, false, false, false] rfl rfl (take_ofW HT_.out HW_.out (by kernel_rfl)) (fun _ _ _ h => h) (Or.inl ⟨by rfl, ?_⟩) hHeld ?_ ?_
                rotate_left
                · rintro w' ⟨s0, s1, s2, s3, s4, s5, s6, s7, s8, s9, s10, s11, s12, s13⟩
                  go_simp
                  with_reducible rfl
                rotate_left
                · simp only [Act.put, List.setIfInBounds_toArray, List.set_cons_zero, List.set_cons_succ, i64_w, i32_w]
                  rfl
                refine take_ (i := 7) (N := some 24) (v := ?_) (a' := ?_) #[true, true, true, true, true, true, true, true, false, false] rfl rfl (take_ofW HT_.out HW_.out (by kernel_rfl)) (fun _ _ _ h => h) (Or.inl ⟨by rfl, ?_⟩) hHeld ?_ ?_
                rotate_left
                · rintro w' ⟨s0, s1, s2, s3, s4, s5, s6, s7, s8, s9, s10, s11, s12, s13⟩
                  go_simp
                  with_reducible rfl
                rotate_left
                · simp only [Act.put, List.setIfInBounds_toArray, List.set_cons_zero, List.set_cons_succ, i64_w, i32_w]
                  rfl
                refine one_ (i := 8) (N := some 25) #[true, true, true, true, true, true, true, true, true, false] rfl rfl (one_of HT_.out (by kernel_rfl)) (by decide) (fun K hK => ?_)
                refine goes_ Try.func75 (by kernel_rfl) rfl #[.agg #[.int .i64 ((rd_T28 l0 x5_1).f0), .int .i64 ((rd_T28 l0 x5_1).f1), .int .i64 ((rd_T28 l0 x5_1).f2), .int .i64 ((rd_T28 l0 x5_1).f3), .int .i64 ((rd_T28 l0 x5_1).f4), .int .i64 ((rd_T28 l0 x5_1).f5), .bool ((rd_T28 l0 x5_1).f6)], .agg #[.int .i64 ((rd_T28 l1 x5_1).f0), .int .i64 ((rd_T28 l1 x5_1).f1), .int .i64 ((rd_T28 l1 x5_1).f2), .int .i64 ((rd_T28 l1 x5_1).f3), .int .i64 ((rd_T28 l1 x5_1).f4), .int .i64 ((rd_T28 l1 x5_1).f5), .bool ((rd_T28 l1 x5_1).f6)]] (by rfl) rfl rfl (by (try simp only [List.map_toArray, List.map_cons, List.map_nil]); first | done | rfl | (simp only [List.length_drop, List.length_take]; rfl)) ?_
                with_reducible refine (laws_eqEvent.calls ((rd_T28 l0 x5_1).f0) ((rd_T28 l0 x5_1).f1) ((rd_T28 l0 x5_1).f2) ((rd_T28 l0 x5_1).f3) ((rd_T28 l0 x5_1).f4) ((rd_T28 l0 x5_1).f5) ((rd_T28 l0 x5_1).f6) ((rd_T28 l1 x5_1).f0) ((rd_T28 l1 x5_1).f1) ((rd_T28 l1 x5_1).f2) ((rd_T28 l1 x5_1).f3) ((rd_T28 l1 x5_1).f4) ((rd_T28 l1 x5_1).f5) ((rd_T28 l1 x5_1).f6) true _ A7.out).mono ?_
                rintro e w10 ⟨rfl, hb⟩
                refine ⟨_, rfl, ?_⟩
                have n0_ := Aside0.mk (below_step (by repeat (first | (with_reducible first | exact HB.out | apply below_alloc | apply pw_below_drewN | apply below_drew1) | exact HB.out)) hb)
                clear HB
                have HB := n0_
                clear n0_
                (try clear hb)
                (try clear hb2)
                (try clear hk)
                (try clear hi)
                refine hK.out _ _ ⟨((HB.out.cell (World.block_lt_of_cell? w _ hw128_0)).trans hw128_0), ((HB.out.cell (World.block_lt_of_cell? w _ hw128_1)).trans hw128_1), ((HB.out.cell (World.block_lt_of_cell? w _ hw128_2)).trans hw128_2), ((HB.out.cell (World.block_lt_of_cell? w _ hw128_3)).trans hw128_3), ((HB.out.cell (World.block_lt_of_cell? w _ hw128_4)).trans hw128_4), ((HB.out.cell (World.block_lt_of_cell? w _ hw128_5)).trans hw128_5), ((HB.out.cell (World.block_lt_of_cell? w _ hw128_6)).trans hw128_6), ((HB.out.cell (World.block_lt_of_cell? w _ hw129_0)).trans hw129_0), ((HB.out.cell (World.block_lt_of_cell? w _ hw129_1)).trans hw129_1), ((HB.out.cell (World.block_lt_of_cell? w _ hw129_2)).trans hw129_2), ((HB.out.cell (World.block_lt_of_cell? w _ hw129_3)).trans hw129_3), ((HB.out.cell (World.block_lt_of_cell? w _ hw129_4)).trans hw129_4), ((HB.out.cell (World.block_lt_of_cell? w _ hw129_5)).trans hw129_5), ((HB.out.cell (World.block_lt_of_cell? w _ hw129_6)).trans hw129_6)⟩ (fun hHeld => ?_)
                clear hK K
                refine norm_ (a' := ?_) ?_ ?_
                rotate_left
                · show Act.put _ (some 25) _ = _
                  simp only [Act.put, List.setIfInBounds_toArray, List.set_cons_zero, List.set_cons_succ, i64_w, i32_w]
                  rfl
                refine pure_ (i := 9) (N := some 26) (v := ?_) (a' := ?_) #[true, true, true, true, true, true, true, true, true, true] rfl rfl (any_of HT_.out (by kernel_rfl)) (fun _ _ _ h => h) (Or.inl ⟨by rfl, ?_⟩) ?_ ?_
                rotate_left
                · intro w'
                  go_simp
                  with_reducible rfl
                rotate_left
                · simp only [Act.put, List.setIfInBounds_toArray, List.set_cons_zero, List.set_cons_succ, i64_w, i32_w]
                  rfl
                refine done_ (done_of HT_.out (by kernel_rfl)) ?_
                try go_wp2
                go_roundg k1
                case measure => have := HK1.out; omega
                case rel => exact ⟨(wrap64 (x5_1 + 1)), (by first | rfl | (simp; done) | (simp [*]; done)), H', ⟨by have := HK1.out; omega⟩, ⟨by repeat (first | (with_reducible first | exact HB.out | apply below_alloc | apply pw_below_drewN | apply below_drew1) | exact HB.out)⟩⟩
              · replace c8 := Bool.eq_false_iff.mpr c8
                subst c8
                have H1 : (some false) = some r := by rw [if_neg (show ¬ (false = true) by decide)] at H; exact H
                clear H
                have H := H1
                clear H1
                obtain rfl := Option.some.inj H
                try go_wp2
                have n0_ := Aside0.mk (below_drew1 HB.out)
                clear HB
                have HB := n0_
                clear n0_
                have p128 : 0 ≤ (x5_1 : Int) := of_decide_eq_true (by first | (with_reducible assumption) | assumption)
                have q128 : x5_1 < (l0.length : Int) := of_decide_eq_true (by first | (with_reducible assumption) | assumption)
                obtain ⟨ad128, e128, hx128_0, hx128_1, hx128_2, hx128_3, hx128_4, hx128_5, hx128_6⟩ := at_T28 HR0.out x5_1 p128 q128
                have hw128_6 := hx128_6
                have hw128_5 := hx128_5
                have hw128_4 := hx128_4
                have hw128_3 := hx128_3
                have hw128_2 := hx128_2
                have hw128_1 := hx128_1
                have hw128_0 := hx128_0
                cases e128
                replace hx128_0 := (HB.out.cell (World.block_lt_of_cell? w _ hx128_0)).trans hx128_0
                replace hx128_1 := (HB.out.cell (World.block_lt_of_cell? w _ hx128_1)).trans hx128_1
                replace hx128_2 := (HB.out.cell (World.block_lt_of_cell? w _ hx128_2)).trans hx128_2
                replace hx128_3 := (HB.out.cell (World.block_lt_of_cell? w _ hx128_3)).trans hx128_3
                replace hx128_4 := (HB.out.cell (World.block_lt_of_cell? w _ hx128_4)).trans hx128_4
                replace hx128_5 := (HB.out.cell (World.block_lt_of_cell? w _ hx128_5)).trans hx128_5
                replace hx128_6 := (HB.out.cell (World.block_lt_of_cell? w _ hx128_6)).trans hx128_6
                replace p128 := eq_true p128
                replace q128 := eq_true q128
                have p129 : 0 ≤ (x5_1 : Int) := of_decide_eq_true (by first | (with_reducible assumption) | assumption)
                have q129 : x5_1 < (l1.length : Int) := of_decide_eq_true (by first | (with_reducible assumption) | assumption)
                obtain ⟨ad129, e129, hx129_0, hx129_1, hx129_2, hx129_3, hx129_4, hx129_5, hx129_6⟩ := at_T28 HR1.out x5_1 p129 q129
                have hw129_6 := hx129_6
                have hw129_5 := hx129_5
                have hw129_4 := hx129_4
                have hw129_3 := hx129_3
                have hw129_2 := hx129_2
                have hw129_1 := hx129_1
                have hw129_0 := hx129_0
                cases e129
                replace hx129_0 := (HB.out.cell (World.block_lt_of_cell? w _ hx129_0)).trans hx129_0
                replace hx129_1 := (HB.out.cell (World.block_lt_of_cell? w _ hx129_1)).trans hx129_1
                replace hx129_2 := (HB.out.cell (World.block_lt_of_cell? w _ hx129_2)).trans hx129_2
                replace hx129_3 := (HB.out.cell (World.block_lt_of_cell? w _ hx129_3)).trans hx129_3
                replace hx129_4 := (HB.out.cell (World.block_lt_of_cell? w _ hx129_4)).trans hx129_4
                replace hx129_5 := (HB.out.cell (World.block_lt_of_cell? w _ hx129_5)).trans hx129_5
                replace hx129_6 := (HB.out.cell (World.block_lt_of_cell? w _ hx129_6)).trans hx129_6
                replace p129 := eq_true p129
                replace q129 := eq_true q129
                refine start_ (n := 10) (S := fun w' => w'.cell? (ad128.add ((x5_1).toNat * 7)) = some (.int .i64 ((rd_T28 l0 x5_1).f0)) ∧ w'.cell? ⟨(ad128.add ((x5_1).toNat * 7)).block, (ad128.add ((x5_1).toNat * 7)).off + 1, none⟩ = some (.int .i64 ((rd_T28 l0 x5_1).f1)) ∧ w'.cell? ⟨(ad128.add ((x5_1).toNat * 7)).block, (ad128.add ((x5_1).toNat * 7)).off + 2, none⟩ = some (.int .i64 ((rd_T28 l0 x5_1).f2)) ∧ w'.cell? ⟨(ad128.add ((x5_1).toNat * 7)).block, (ad128.add ((x5_1).toNat * 7)).off + 3, none⟩ = some (.int .i64 ((rd_T28 l0 x5_1).f3)) ∧ w'.cell? ⟨(ad128.add ((x5_1).toNat * 7)).block, (ad128.add ((x5_1).toNat * 7)).off + 4, none⟩ = some (.int .i64 ((rd_T28 l0 x5_1).f4)) ∧ w'.cell? ⟨(ad128.add ((x5_1).toNat * 7)).block, (ad128.add ((x5_1).toNat * 7)).off + 5, none⟩ = some (.int .i64 ((rd_T28 l0 x5_1).f5)) ∧ w'.cell? ⟨(ad128.add ((x5_1).toNat * 7)).block, (ad128.add ((x5_1).toNat * 7)).off + 6, none⟩ = some (.bool ((rd_T28 l0 x5_1).f6)) ∧ w'.cell? (ad129.add ((x5_1).toNat * 7)) = some (.int .i64 ((rd_T28 l1 x5_1).f0)) ∧ w'.cell? ⟨(ad129.add ((x5_1).toNat * 7)).block, (ad129.add ((x5_1).toNat * 7)).off + 1, none⟩ = some (.int .i64 ((rd_T28 l1 x5_1).f1)) ∧ w'.cell? ⟨(ad129.add ((x5_1).toNat * 7)).block, (ad129.add ((x5_1).toNat * 7)).off + 2, none⟩ = some (.int .i64 ((rd_T28 l1 x5_1).f2)) ∧ w'.cell? ⟨(ad129.add ((x5_1).toNat * 7)).block, (ad129.add ((x5_1).toNat * 7)).off + 3, none⟩ = some (.int .i64 ((rd_T28 l1 x5_1).f3)) ∧ w'.cell? ⟨(ad129.add ((x5_1).toNat * 7)).block, (ad129.add ((x5_1).toNat * 7)).off + 4, none⟩ = some (.int .i64 ((rd_T28 l1 x5_1).f4)) ∧ w'.cell? ⟨(ad129.add ((x5_1).toNat * 7)).block, (ad129.add ((x5_1).toNat * 7)).off + 5, none⟩ = some (.int .i64 ((rd_T28 l1 x5_1).f5)) ∧ w'.cell? ⟨(ad129.add ((x5_1).toNat * 7)).block, (ad129.add ((x5_1).toNat * 7)).off + 6, none⟩ = some (.bool ((rd_T28 l1 x5_1).f6))) (ds := []) #[false, false, false, false, false, false, false, false, false, false] (by kernel_rfl) rfl rfl ⟨((HB.out.cell (World.block_lt_of_cell? w _ hw128_0)).trans hw128_0), ((HB.out.cell (World.block_lt_of_cell? w _ hw128_1)).trans hw128_1), ((HB.out.cell (World.block_lt_of_cell? w _ hw128_2)).trans hw128_2), ((HB.out.cell (World.block_lt_of_cell? w _ hw128_3)).trans hw128_3), ((HB.out.cell (World.block_lt_of_cell? w _ hw128_4)).trans hw128_4), ((HB.out.cell (World.block_lt_of_cell? w _ hw128_5)).trans hw128_5), ((HB.out.cell (World.block_lt_of_cell? w _ hw128_6)).trans hw128_6), ((HB.out.cell (World.block_lt_of_cell? w _ hw129_0)).trans hw129_0), ((HB.out.cell (World.block_lt_of_cell? w _ hw129_1)).trans hw129_1), ((HB.out.cell (World.block_lt_of_cell? w _ hw129_2)).trans hw129_2), ((HB.out.cell (World.block_lt_of_cell? w _ hw129_3)).trans hw129_3), ((HB.out.cell (World.block_lt_of_cell? w _ hw129_4)).trans hw129_4), ((HB.out.cell (World.block_lt_of_cell? w _ hw129_5)).trans hw129_5), ((HB.out.cell (World.block_lt_of_cell? w _ hw129_6)).trans hw129_6)⟩ (fun hHeld => ?_); refine with_tabW laws_eqEventS.tab6 laws_eqEventS.bits6 (fun HT_ HW_ => ?_)
                generalize wr.drew = w11 at HB hx128_0 hx128_1 hx128_2 hx128_3 hx128_4 hx128_5 hx128_6 hx129_0 hx129_1 hx129_2 hx129_3 hx129_4 hx129_5 hx129_6 hHeld ⊢
                refine pure_ (i := 0) (N := some 17) (v := ?_) (a' := ?_) #[true, false, false, false, false, false, false, false, false, false] rfl rfl (any_of HT_.out (by kernel_rfl)) (fun _ _ _ h => h) (Or.inl ⟨by rfl, ?_⟩) ?_ ?_
                rotate_left
                · intro w'
                  go_simp
                  with_reducible rfl
                rotate_left
                · simp only [Act.put, List.setIfInBounds_toArray, List.set_cons_zero, List.set_cons_succ, i64_w, i32_w]
                  rfl
                refine pure_ (i := 1) (N := some 18) (v := ?_) (a' := ?_) #[true, true, false, false, false, false, false, false, false, false] rfl rfl (any_of HT_.out (by kernel_rfl)) (fun _ _ _ h => h) (Or.inl ⟨by rfl, ?_⟩) ?_ ?_
                rotate_left
                · intro w'
                  go_simp
                  with_reducible rfl
                rotate_left
                · simp only [Act.put, List.setIfInBounds_toArray, List.set_cons_zero, List.set_cons_succ, i64_w, i32_w]
                  rfl
                refine pure_ (i := 2) (N := some 19) (v := ?_) (a' := ?_) #[true, true, true, false, false, false, false, false, false, false] rfl rfl (any_of HT_.out (by kernel_rfl)) (fun _ _ _ h => h) (Or.inl ⟨by rfl, ?_⟩) ?_ ?_
                rotate_left
                · intro w'
                  go_simp
                  with_reducible rfl
                rotate_left
                · simp only [Act.put, List.setIfInBounds_toArray, List.set_cons_zero, List.set_cons_succ, i64_w, i32_w]
                  rfl
                refine pure_ (i := 4) (N := some 21) (v := ?_) (a' := ?_) #[true, true, true, false, true, false, false, false, false, false] rfl rfl (any_of HT_.out (by kernel_rfl)) (fun _ _ _ h => h) (Or.inl ⟨by rfl, ?_⟩) ?_ ?_
                rotate_left
                · intro w'
                  go_simp
                  with_reducible rfl
                rotate_left
                · simp only [Act.put, List.setIfInBounds_toArray, List.set_cons_zero, List.set_cons_succ, i64_w, i32_w]
                  rfl
                refine pure_ (i := 5) (N := some 22) (v := ?_) (a' := ?_) #[true, true, true, false, true, true, false, false, false, false] rfl rfl (any_of HT_.out (by kernel_rfl)) (fun _ _ _ h => h) (Or.inl ⟨by rfl, ?_⟩) ?_ ?_
                rotate_left
                · intro w'
                  go_simp
                  with_reducible rfl
                rotate_left
                · simp only [Act.put, List.setIfInBounds_toArray, List.set_cons_zero, List.set_cons_succ, i64_w, i32_w]
                  rfl
                refine pure_ (i := 6) (N := some 23) (v := ?_) (a' := ?_) #[true, true, true, false, true, true, true, false, false, false] rfl rfl (any_of HT_.out (by kernel_rfl)) (fun _ _ _ h => h) (Or.inl ⟨by rfl, ?_⟩) ?_ ?_
                rotate_left
                · intro w'
                  go_simp
                  with_reducible rfl
                rotate_left
                · simp only [Act.put, List.setIfInBounds_toArray, List.set_cons_zero, List.set_cons_succ, i64_w, i32_w]
                  rfl
                refine take_ (i := 3) (N := some 20) (v := ?_) (a' := ?_) #[true, true, true, true, true, true, true, false, false, false] rfl rfl (take_ofW HT_.out HW_.out (by kernel_rfl)) (fun _ _ _ h => h) (Or.inl ⟨by rfl, ?_⟩) hHeld ?_ ?_
                rotate_left
                · rintro w' ⟨s0, s1, s2, s3, s4, s5, s6, s7, s8, s9, s10, s11, s12, s13⟩
                  go_simp
                  with_reducible rfl
                rotate_left
                · simp only [Act.put, List.setIfInBounds_toArray, List.set_cons_zero, List.set_cons_succ, i64_w, i32_w]
                  rfl
                refine take_ (i := 7) (N := some 24) (v := ?_) (a' := ?_) #[true, true, true, true, true, true, true, true, false, false] rfl rfl (take_ofW HT_.out HW_.out (by kernel_rfl)) (fun _ _ _ h => h) (Or.inl ⟨by rfl, ?_⟩) hHeld ?_ ?_
                rotate_left
                · rintro w' ⟨s0, s1, s2, s3, s4, s5, s6, s7, s8, s9, s10, s11, s12, s13⟩
                  go_simp
                  with_reducible rfl
                rotate_left
                · simp only [Act.put, List.setIfInBounds_toArray, List.set_cons_zero, List.set_cons_succ, i64_w, i32_w]
                  rfl
                refine one_ (i := 8) (N := some 25) #[true, true, true, true, true, true, true, true, true, false] rfl rfl (one_of HT_.out (by kernel_rfl)) (by decide) (fun K hK => ?_)
                refine goes_ Try.func75 (by kernel_rfl) rfl #[.agg #[.int .i64 ((rd_T28 l0 x5_1).f0), .int .i64 ((rd_T28 l0 x5_1).f1), .int .i64 ((rd_T28 l0 x5_1).f2), .int .i64 ((rd_T28 l0 x5_1).f3), .int .i64 ((rd_T28 l0 x5_1).f4), .int .i64 ((rd_T28 l0 x5_1).f5), .bool ((rd_T28 l0 x5_1).f6)], .agg #[.int .i64 ((rd_T28 l1 x5_1).f0), .int .i64 ((rd_T28 l1 x5_1).f1), .int .i64 ((rd_T28 l1 x5_1).f2), .int .i64 ((rd_T28 l1 x5_1).f3), .int .i64 ((rd_T28 l1 x5_1).f4), .int .i64 ((rd_T28 l1 x5_1).f5), .bool ((rd_T28 l1 x5_1).f6)]] (by rfl) rfl rfl (by (try simp only [List.map_toArray, List.map_cons, List.map_nil]); first | done | rfl | (simp only [List.length_drop, List.length_take]; rfl)) ?_
                with_reducible refine (laws_eqEvent.calls ((rd_T28 l0 x5_1).f0) ((rd_T28 l0 x5_1).f1) ((rd_T28 l0 x5_1).f2) ((rd_T28 l0 x5_1).f3) ((rd_T28 l0 x5_1).f4) ((rd_T28 l0 x5_1).f5) ((rd_T28 l0 x5_1).f6) ((rd_T28 l1 x5_1).f0) ((rd_T28 l1 x5_1).f1) ((rd_T28 l1 x5_1).f2) ((rd_T28 l1 x5_1).f3) ((rd_T28 l1 x5_1).f4) ((rd_T28 l1 x5_1).f5) ((rd_T28 l1 x5_1).f6) false _ A7.out).mono ?_
                rintro e w12 ⟨rfl, hb⟩
                refine ⟨_, rfl, ?_⟩
                have n0_ := Aside0.mk (below_step (by repeat (first | (with_reducible first | exact HB.out | apply below_alloc | apply pw_below_drewN | apply below_drew1) | exact HB.out)) hb)
                clear HB
                have HB := n0_
                clear n0_
                (try clear hb)
                (try clear hb2)
                (try clear hk)
                (try clear hi)
                refine hK.out _ _ ⟨((HB.out.cell (World.block_lt_of_cell? w _ hw128_0)).trans hw128_0), ((HB.out.cell (World.block_lt_of_cell? w _ hw128_1)).trans hw128_1), ((HB.out.cell (World.block_lt_of_cell? w _ hw128_2)).trans hw128_2), ((HB.out.cell (World.block_lt_of_cell? w _ hw128_3)).trans hw128_3), ((HB.out.cell (World.block_lt_of_cell? w _ hw128_4)).trans hw128_4), ((HB.out.cell (World.block_lt_of_cell? w _ hw128_5)).trans hw128_5), ((HB.out.cell (World.block_lt_of_cell? w _ hw128_6)).trans hw128_6), ((HB.out.cell (World.block_lt_of_cell? w _ hw129_0)).trans hw129_0), ((HB.out.cell (World.block_lt_of_cell? w _ hw129_1)).trans hw129_1), ((HB.out.cell (World.block_lt_of_cell? w _ hw129_2)).trans hw129_2), ((HB.out.cell (World.block_lt_of_cell? w _ hw129_3)).trans hw129_3), ((HB.out.cell (World.block_lt_of_cell? w _ hw129_4)).trans hw129_4), ((HB.out.cell (World.block_lt_of_cell? w _ hw129_5)).trans hw129_5), ((HB.out.cell (World.block_lt_of_cell? w _ hw129_6)).trans hw129_6)⟩ (fun hHeld => ?_)
                clear hK K
                refine norm_ (a' := ?_) ?_ ?_
                rotate_left
                · show Act.put _ (some 25) _ = _
                  simp only [Act.put, List.setIfInBounds_toArray, List.set_cons_zero, List.set_cons_succ, i64_w, i32_w]
                  rfl
                refine pure_ (i := 9) (N := some 26) (v := ?_) (a' := ?_) #[true, true, true, true, true, true, true, true, true, true] rfl rfl (any_of HT_.out (by kernel_rfl)) (fun _ _ _ h => h) (Or.inl ⟨by rfl, ?_⟩) ?_ ?_
                rotate_left
                · intro w'
                  go_simp
                  with_reducible rfl
                rotate_left
                · simp only [Act.put, List.setIfInBounds_toArray, List.set_cons_zero, List.set_cons_succ, i64_w, i32_w]
                  rfl
                refine done_ (done_of HT_.out (by kernel_rfl)) ?_
                try go_wp2
                go_ret
                exact ⟨by first | rfl | (simp [errW_none, errW_some] <;> rfl) | (simp [*, errW_none, errW_some] <;> rfl), by repeat (first | (with_reducible first | exact HB.out | apply below_alloc | apply pw_below_drewN | apply below_drew1) | exact HB.out)⟩
            · rw [if_neg c6] at H
              exact absurd H (by simp)
          · rw [if_neg c5] at H
            exact absurd H (by simp)
        · rw [if_neg c4] at H
          have c4b0 : decide (x5_1 < (l0.length : Int)) = false := decide_eq_false c4
          clear c4
          obtain rfl := Option.some.inj H
          go_wp2
          go_ret
          exact ⟨by first | rfl | (simp [errW_none, errW_some] <;> rfl) | (simp [*, errW_none, errW_some] <;> rfl), by repeat (first | (with_reducible first | exact HB.out | apply below_alloc | apply pw_below_drewN | apply below_drew1) | exact HB.out)⟩
  · rw [if_neg c3] at H
    have c3b0 : ((l0.length : Int) == (l1.length : Int)) = false := beq_eq_false_iff_ne.mpr c3
    have c3b1 : ((l0.length : Int) != (l1.length : Int)) = true := bne_iff_ne.mpr c3
    have c3b2 : (l0.length == l1.length) = false := by first | simpa using c3 | (simp at c3 ⊢; omega)
    obtain rfl := Option.some.inj H
    go_enter Try.func35, Try.ntmps35
    go_wp2
    go_ret
    exact ⟨by first | rfl | (simp [errW_none, errW_some] <;> rfl) | (simp [*, errW_none, errW_some] <;> rfl), by repeat (first | (with_reducible first | exact HB.out | apply below_alloc | apply pw_below_drewN | apply below_drew1) | exact HB.out)⟩

/-! ### laws_eqEventSS: function 46 -/
def laws_eqEventSS.l0 : Nat → List (List (S28)) → List (List (S28)) → Int → Option (Bool)
  | 0, _, _, _ => none
  | k + 1, x0, x1, x5 => if x5 < (x0.length : Int) then (if 0 ≤ x5 then (if x5 < (x1.length : Int) then ((laws_eqEventS.f k (rd_L5 x0 x5) (rd_L5 x1 x5)).bind fun t133 => (if t133 = true then (laws_eqEventSS.l0 k x0 x1 (wrap64 (x5 + 1))) else (some false))) else (none)) else (none)) else (some true)
def laws_eqEventSS.f (k : Nat) (l0 : List (List (S28))) (l1 : List (List (S28))) : Option (Bool) := if (l0.length : Int) = (l1.length : Int) then (laws_eqEventSS.l0 k l0 l1 0) else (some false)
theorem laws_eqEventSS.mono_l : ∀ k, (∀ y0 y1 y2, LeO (laws_eqEventSS.l0 k y0 y1 y2) (laws_eqEventSS.l0 (k + 1) y0 y1 y2))
  | 0 => fun _ _ _ r h => by simp [laws_eqEventSS.l0] at h
  | k + 1 => by
    have ih0 := laws_eqEventSS.mono_l k
    · intro y0 y1 y2
      unfold laws_eqEventSS.l0
      repeat' first
      | (with_reducible exact ih0 _ _ _)
      | (with_reducible exact laws_eqEventS.mono _ _ _)
      | (with_reducible exact LeO.refl _)
      | (with_reducible exact LeO.none _)
      | (with_reducible refine LeO.ite ?_ ?_)
      | (with_reducible refine LeO.bind ?_ (fun _ => ?_))
      | exact ih0 _ _ _
      | exact laws_eqEventS.mono _ _ _
      | exact LeO.none _
      | refine LeO.ite ?_ ?_
      | refine LeO.bind ?_ (fun _ => ?_)
theorem laws_eqEventSS.mono : ∀ a0 a1 k, LeO (laws_eqEventSS.f k a0 a1) (laws_eqEventSS.f (k + 1) a0 a1) := by
  intro a0 a1 k
  have ih0 := laws_eqEventSS.mono_l k
  unfold laws_eqEventSS.f
  repeat' first
      | (with_reducible exact ih0 _ _ _)
      | (with_reducible exact laws_eqEventS.mono _ _ _)
      | (with_reducible exact LeO.refl _)
      | (with_reducible exact LeO.none _)
      | (with_reducible refine LeO.ite ?_ ?_)
      | (with_reducible refine LeO.bind ?_ (fun _ => ?_))
      | exact ih0 _ _ _
      | exact laws_eqEventS.mono _ _ _
      | exact LeO.none _
      | refine LeO.ite ?_ ?_
      | refine LeO.bind ?_ (fun _ => ?_)
def laws_eqEventSS.T6 : Bool × List (List Nat × List Nat) := (true, [([], []), ([], []), ([0, 1], [0, 1]), ([2], [2]), ([], []), ([], []), ([4, 5], [4, 5]), ([6], [6]), ([3, 7], [3, 7]), ([8], [8])])
def laws_eqEventSS.B6 : List Nat := [0, 0, 3, 7, 0, 0, 48, 112, 255, 511]
theorem laws_eqEventSS.tab6 : rtab .any (opsOf Try.f46 6) = laws_eqEventSS.T6 := by kernel_rfl
theorem laws_eqEventSS.bits6 : waitsOk laws_eqEventSS.T6.2 laws_eqEventSS.B6 = true := by kernel_rfl
set_option maxHeartbeats 8000000 in
set_option maxRecDepth 100000 in
theorem laws_eqEventSS.calls (k : Nat) (A0 : Option Addr) (c0 : Nat) (l0 : List (List (S28))) (A1 : Option Addr) (c1 : Nat) (l1 : List (List (S28))) (r : Bool) (w : World) (hr0 : Kd.C (Kd.slice 28 k28) w A0 l0.length l0) (hc0 : l0.length ≤ c0) (hr1 : Kd.C (Kd.slice 28 k28) w A1 l1.length l1) (hc1 : l1.length ≤ c1) (h : laws_eqEventSS.f k l0 l1 = some r) :
    Calls Try.prog 46 #[.slice A0 l0.length c0, .slice A1 l1.length c1] w fun e w' => e = .returned (.bool r) ∧ Below w.heap.size w w' := by
  have HR0 := Aside0.mk hr0
  have HC0 := Aside0.mk hc0
  clear hr0 hc0
  have HR1 := Aside0.mk hr1
  have HC1 := Aside0.mk hc1
  clear hr1 hc1
  have HB := Aside0.mk (Below.refl w.heap.size w)
  have H : (if (l0.length : Int) = (l1.length : Int) then (laws_eqEventSS.l0 k l0 l1 0) else (some false)) = some r := h
  clear h
  by_cases c3 : (l0.length : Int) = (l1.length : Int)
  · rw [if_pos c3] at H
    have c3b0 : ((l0.length : Int) == (l1.length : Int)) = true := beq_iff_eq.mpr c3
    have c3b1 : ((l0.length : Int) != (l1.length : Int)) = false := bne_eq_false_iff_eq.mpr c3
    have c3b2 : (l0.length == l1.length) = true := by first | simpa using c3 | (simp at c3 ⊢; omega)
    clear c3
    have H' := Aside0.mk H
    clear H
    go_enter Try.func46, Try.ntmps46
    go_wp2
    go_loopg [5] k (fun kq v5 w' => ∃ (x5_1 : Int), v5 = .int .i64 x5_1 ∧ Aside0 (laws_eqEventSS.l0 kq l0 l1 x5_1 = some r) ∧ Aside0 (kq ≤ k) ∧ Aside0 (Below w.heap.size w w'))
    case atStart => exact ⟨(0), (by first | rfl | (simp; done) | (simp [*]; done)), H', ⟨Nat.le_refl _⟩, ⟨by repeat (first | (with_reducible first | exact HB.out | apply below_alloc | apply pw_below_drewN | apply below_drew1) | exact HB.out)⟩⟩
    case round =>
      clear H'
      try clear c1
      try clear p2
      try clear c3
      try clear c3b0
      try clear c3b1
      try clear c3b2
      obtain ⟨x5_1, rfl, HA, HK1, HB⟩ := hrel
      cases gk with
      | zero => exact absurd HA.out (by simp [laws_eqEventSS.l0])
      | succ k1 =>
        have H := HA.out
        clear HA
        simp only [laws_eqEventSS.l0] at H
        by_cases c4 : x5_1 < (l0.length : Int)
        · rw [if_pos c4] at H
          have c4b0 : decide (x5_1 < (l0.length : Int)) = true := decide_eq_true c4
          clear c4
          by_cases c5 : 0 ≤ x5_1
          · rw [if_pos c5] at H
            have c5b0 : decide (0 ≤ x5_1) = true := decide_eq_true c5
            clear c5
            by_cases c6 : x5_1 < (l1.length : Int)
            · rw [if_pos c6] at H
              have c6b0 : decide (x5_1 < (l1.length : Int)) = true := decide_eq_true c6
              clear c6
              replace H := Option.bind_eq_some_iff.mp H
              obtain ⟨t133, A70, H⟩ := H
              replace H : (if t133 = true then (laws_eqEventSS.l0 k1 l0 l1 (wrap64 (x5_1 + 1))) else (some false)) = some r := H
              have A7 := Aside0.mk A70
              clear A70
              by_cases c8 : t133 = true
              · subst c8
                have H1 : (laws_eqEventSS.l0 k1 l0 l1 (wrap64 (x5_1 + 1))) = some r := by rw [if_pos rfl] at H; exact H
                clear H
                have H := H1
                clear H1
                have H' := Aside0.mk H
                clear H
                try go_wp2
                have n0_ := Aside0.mk (below_drew1 HB.out)
                clear HB
                have HB := n0_
                clear n0_
                have p131 : 0 ≤ (x5_1 : Int) := of_decide_eq_true (by first | (with_reducible assumption) | assumption)
                have q131 : x5_1 < (l0.length : Int) := of_decide_eq_true (by first | (with_reducible assumption) | assumption)
                obtain ⟨ad131, A131_0, c131_0, e131, hx131_0, hl131_0, hi131_0⟩ := at_L5 HR0.out x5_1 p131 q131
                have hw131_0 := hx131_0
                cases e131
                replace hx131_0 := (HB.out.cell (World.block_lt_of_cell? w _ hx131_0)).trans hx131_0
                have HR131_0 := Aside0.mk hi131_0
                have HC131_0 := Aside0.mk hl131_0
                clear hi131_0 hl131_0
                replace p131 := eq_true p131
                replace q131 := eq_true q131
                have p132 : 0 ≤ (x5_1 : Int) := of_decide_eq_true (by first | (with_reducible assumption) | assumption)
                have q132 : x5_1 < (l1.length : Int) := of_decide_eq_true (by first | (with_reducible assumption) | assumption)
                obtain ⟨ad132, A132_0, c132_0, e132, hx132_0, hl132_0, hi132_0⟩ := at_L5 HR1.out x5_1 p132 q132
                have hw132_0 := hx132_0
                cases e132
                replace hx132_0 := (HB.out.cell (World.block_lt_of_cell? w _ hx132_0)).trans hx132_0
                have HR132_0 := Aside0.mk hi132_0
                have HC132_0 := Aside0.mk hl132_0
                clear hi132_0 hl132_0
                replace p132 := eq_true p132
                replace q132 := eq_true q132
                refine start_ (n := 10) (S := fun w' => w'.cell? (ad131.add (x5_1).toNat) = some (.slice A131_0 (rd_L5 l0 x5_1).length c131_0) ∧ w'.cell? (ad132.add (x5_1).toNat) = some (.slice A132_0 (rd_L5 l1 x5_1).length c132_0)) (ds := []) #[false, false, false, false, false, false, false, false, false, false] (by kernel_rfl) rfl rfl ⟨((HB.out.cell (World.block_lt_of_cell? w _ hw131_0)).trans hw131_0), ((HB.out.cell (World.block_lt_of_cell? w _ hw132_0)).trans hw132_0)⟩ (fun hHeld => ?_); refine with_tabW laws_eqEventSS.tab6 laws_eqEventSS.bits6 (fun HT_ HW_ => ?_)
                generalize wr.drew = w9 at HB HR131_0 HR132_0 hx131_0 hx132_0 hHeld ⊢
                refine pure_ (i := 0) (N := some 17) (v := ?_) (a' := ?_) #[true, false, false, false, false, false, false, false, false, false] rfl rfl (any_of HT_.out (by kernel_rfl)) (fun _ _ _ h => h) (Or.inl ⟨by rfl, ?_⟩) ?_ ?_
                rotate_left
                · intro w'
                  go_simp
                  with_reducible rfl
                rotate_left
                · simp only [Act.put, List.setIfInBounds_toArray, List.set_cons_zero, List.set_cons_succ, i64_w, i32_w]
                  rfl
                refine pure_ (i := 1) (N := some 18) (v := ?_) (a' := ?_) #[true, true, false, false, false, false, false, false, false, false] rfl rfl (any_of HT_.out (by kernel_rfl)) (fun _ _ _ h => h) (Or.inl ⟨by rfl, ?_⟩) ?_ ?_
                rotate_left
                · intro w'
                  go_simp
                  with_reducible rfl
                rotate_left
                · simp only [Act.put, List.setIfInBounds_toArray, List.set_cons_zero, List.set_cons_succ, i64_w, i32_w]
                  rfl
                refine pure_ (i := 2) (N := some 19) (v := ?_) (a' := ?_) #[true, true, true, false, false, false, false, false, false, false] rfl rfl (any_of HT_.out (by kernel_rfl)) (fun _ _ _ h => h) (Or.inl ⟨by rfl, ?_⟩) ?_ ?_
                rotate_left
                · intro w'
                  go_simp
                  with_reducible rfl
                rotate_left
                · simp only [Act.put, List.setIfInBounds_toArray, List.set_cons_zero, List.set_cons_succ, i64_w, i32_w]
                  rfl
                refine pure_ (i := 4) (N := some 21) (v := ?_) (a' := ?_) #[true, true, true, false, true, false, false, false, false, false] rfl rfl (any_of HT_.out (by kernel_rfl)) (fun _ _ _ h => h) (Or.inl ⟨by rfl, ?_⟩) ?_ ?_
                rotate_left
                · intro w'
                  go_simp
                  with_reducible rfl
                rotate_left
                · simp only [Act.put, List.setIfInBounds_toArray, List.set_cons_zero, List.set_cons_succ, i64_w, i32_w]
                  rfl
                refine pure_ (i := 5) (N := some 22) (v := ?_) (a' := ?_) #[true, true, true, false, true, true, false, false, false, false] rfl rfl (any_of HT_.out (by kernel_rfl)) (fun _ _ _ h => h) (Or.inl ⟨by rfl, ?_⟩) ?_ ?_
                rotate_left
                · intro w'
                  go_simp
                  with_reducible rfl
                rotate_left
                · simp only [Act.put, List.setIfInBounds_toArray, List.set_cons_zero, List.set_cons_succ, i64_w, i32_w]
                  rfl
                refine pure_ (i := 6) (N := some 23) (v := ?_) (a' := ?_) #[true, true, true, false, true, true, true, false, false, false] rfl rfl (any_of HT_.out (by kernel_rfl)) (fun _ _ _ h => h) (Or.inl ⟨by rfl, ?_⟩) ?_ ?_
                rotate_left
                · intro w'
                  go_simp
                  with_reducible rfl
                rotate_left
                · simp only [Act.put, List.setIfInBounds_toArray, List.set_cons_zero, List.set_cons_succ, i64_w, i32_w]
                  rfl
                refine take_ (i := 3) (N := some 20) (v := ?_) (a' := ?_) #[true, true, true, true, true, true, true, false, false, false] rfl rfl (take_ofW HT_.out HW_.out (by kernel_rfl)) (fun _ _ _ h => h) (Or.inl ⟨by rfl, ?_⟩) hHeld ?_ ?_
                rotate_left
                · rintro w' ⟨s0, s1⟩
                  go_simp
                  with_reducible rfl
                rotate_left
                · simp only [Act.put, List.setIfInBounds_toArray, List.set_cons_zero, List.set_cons_succ, i64_w, i32_w]
                  rfl
                refine take_ (i := 7) (N := some 24) (v := ?_) (a' := ?_) #[true, true, true, true, true, true, true, true, false, false] rfl rfl (take_ofW HT_.out HW_.out (by kernel_rfl)) (fun _ _ _ h => h) (Or.inl ⟨by rfl, ?_⟩) hHeld ?_ ?_
                rotate_left
                · rintro w' ⟨s0, s1⟩
                  go_simp
                  with_reducible rfl
                rotate_left
                · simp only [Act.put, List.setIfInBounds_toArray, List.set_cons_zero, List.set_cons_succ, i64_w, i32_w]
                  rfl
                refine one_ (i := 8) (N := some 25) #[true, true, true, true, true, true, true, true, true, false] rfl rfl (one_of HT_.out (by kernel_rfl)) (by decide) (fun K hK => ?_)
                refine goes_ Try.func35 (by kernel_rfl) rfl #[.slice A131_0 (rd_L5 l0 x5_1).length c131_0, .slice A132_0 (rd_L5 l1 x5_1).length c132_0] (by rfl) rfl rfl (by (try simp only [List.map_toArray, List.map_cons, List.map_nil]); first | done | rfl | (simp only [List.length_drop, List.length_take]; rfl)) ?_
                with_reducible refine (laws_eqEventS.calls k1 _ _ (rd_L5 l0 x5_1) _ _ (rd_L5 l1 x5_1) true _ ?side1 ?side2 ?side3 ?side4 A7.out).mono ?_
                (case side1 => repeat (first | exact (Kd.C_below HR131_0.out HB.out) | (with_reducible refine Kd.C_alloc ?_ _) | (with_reducible refine Kd.C_drewN ?_ _) | (with_reducible refine Kd.C_drew ?_)))
                (case side2 => exact HC131_0.out)
                (case side3 => repeat (first | exact (Kd.C_below HR132_0.out HB.out) | (with_reducible refine Kd.C_alloc ?_ _) | (with_reducible refine Kd.C_drewN ?_ _) | (with_reducible refine Kd.C_drew ?_)))
                (case side4 => exact HC132_0.out)
                rintro e w10 ⟨rfl, hb⟩
                refine ⟨_, rfl, ?_⟩
                have n0_ := Aside0.mk (below_step (by repeat (first | (with_reducible first | exact HB.out | apply below_alloc | apply pw_below_drewN | apply below_drew1) | exact HB.out)) hb)
                clear HB
                have HB := n0_
                clear n0_
                (try clear hb)
                (try clear hb2)
                (try clear hk)
                (try clear hi)
                refine hK.out _ _ ⟨((HB.out.cell (World.block_lt_of_cell? w _ hw131_0)).trans hw131_0), ((HB.out.cell (World.block_lt_of_cell? w _ hw132_0)).trans hw132_0)⟩ (fun hHeld => ?_)
                clear hK K
                refine norm_ (a' := ?_) ?_ ?_
                rotate_left
                · show Act.put _ (some 25) _ = _
                  simp only [Act.put, List.setIfInBounds_toArray, List.set_cons_zero, List.set_cons_succ, i64_w, i32_w]
                  rfl
                refine pure_ (i := 9) (N := some 26) (v := ?_) (a' := ?_) #[true, true, true, true, true, true, true, true, true, true] rfl rfl (any_of HT_.out (by kernel_rfl)) (fun _ _ _ h => h) (Or.inl ⟨by rfl, ?_⟩) ?_ ?_
                rotate_left
                · intro w'
                  go_simp
                  with_reducible rfl
                rotate_left
                · simp only [Act.put, List.setIfInBounds_toArray, List.set_cons_zero, List.set_cons_succ, i64_w, i32_w]
                  rfl
                refine done_ (done_of HT_.out (by kernel_rfl)) ?_
                try go_wp2
                go_roundg k1
                case measure => have := HK1.out; omega
                case rel => exact ⟨(wrap64 (x5_1 + 1)), (by first | rfl | (simp; done) | (simp [*]; done)), H', ⟨by have := HK1.out; omega⟩, ⟨by repeat (first | (with_reducible first | exact HB.out | apply below_alloc | apply pw_below_drewN | apply below_drew1) | exact HB.out)⟩⟩
              · replace c8 := Bool.eq_false_iff.mpr c8
                subst c8
                have H1 : (some false) = some r := by rw [if_neg (show ¬ (false = true) by decide)] at H; exact H
                clear H
                have H := H1
                clear H1
                obtain rfl := Option.some.inj H
                try go_wp2
                have n0_ := Aside0.mk (below_drew1 HB.out)
                clear HB
                have HB := n0_
                clear n0_
                have p131 : 0 ≤ (x5_1 : Int) := of_decide_eq_true (by first | (with_reducible assumption) | assumption)
                have q131 : x5_1 < (l0.length : Int) := of_decide_eq_true (by first | (with_reducible assumption) | assumption)
                obtain ⟨ad131, A131_0, c131_0, e131, hx131_0, hl131_0, hi131_0⟩ := at_L5 HR0.out x5_1 p131 q131
                have hw131_0 := hx131_0
                cases e131
                replace hx131_0 := (HB.out.cell (World.block_lt_of_cell? w _ hx131_0)).trans hx131_0
                have HR131_0 := Aside0.mk hi131_0
                have HC131_0 := Aside0.mk hl131_0
                clear hi131_0 hl131_0
                replace p131 := eq_true p131
                replace q131 := eq_true q131
                have p132 : 0 ≤ (x5_1 : Int) := of_decide_eq_true (by first | (with_reducible assumption) | assumption)
                have q132 : x5_1 < (l1.length : Int) := of_decide_eq_true (by first | (with_reducible assumption) | assumption)
                obtain ⟨ad132, A132_0, c132_0, e132, hx132_0, hl132_0, hi132_0⟩ := at_L5 HR1.out x5_1 p132 q132
                have hw132_0 := hx132_0
                cases e132
                replace hx132_0 := (HB.out.cell (World.block_lt_of_cell? w _ hx132_0)).trans hx132_0
                have HR132_0 := Aside0.mk hi132_0
                have HC132_0 := Aside0.mk hl132_0
                clear hi132_0 hl132_0
                replace p132 := eq_true p132
                replace q132 := eq_true q132
                refine start_ (n := 10) (S := fun w' => w'.cell? (ad131.add (x5_1).toNat) = some (.slice A131_0 (rd_L5 l0 x5_1).length c131_0) ∧ w'.cell? (ad132.add (x5_1).toNat) = some (.slice A132_0 (rd_L5 l1 x5_1).length c132_0)) (ds := []) #[false, false, false, false, false, false, false, false, false, false] (by kernel_rfl) rfl rfl ⟨((HB.out.cell (World.block_lt_of_cell? w _ hw131_0)).trans hw131_0), ((HB.out.cell (World.block_lt_of_cell? w _ hw132_0)).trans hw132_0)⟩ (fun hHeld => ?_); refine with_tabW laws_eqEventSS.tab6 laws_eqEventSS.bits6 (fun HT_ HW_ => ?_)
                generalize wr.drew = w11 at HB HR131_0 HR132_0 hx131_0 hx132_0 hHeld ⊢
                refine pure_ (i := 0) (N := some 17) (v := ?_) (a' := ?_) #[true, false, false, false, false, false, false, false, false, false] rfl rfl (any_of HT_.out (by kernel_rfl)) (fun _ _ _ h => h) (Or.inl ⟨by rfl, ?_⟩) ?_ ?_
                rotate_left
                · intro w'
                  go_simp
                  with_reducible rfl
                rotate_left
                · simp only [Act.put, List.setIfInBounds_toArray, List.set_cons_zero, List.set_cons_succ, i64_w, i32_w]
                  rfl
                refine pure_ (i := 1) (N := some 18) (v := ?_) (a' := ?_) #[true, true, false, false, false, false, false, false, false, false] rfl rfl (any_of HT_.out (by kernel_rfl)) (fun _ _ _ h => h) (Or.inl ⟨by rfl, ?_⟩) ?_ ?_
                rotate_left
                · intro w'
                  go_simp
                  with_reducible rfl
                rotate_left
                · simp only [Act.put, List.setIfInBounds_toArray, List.set_cons_zero, List.set_cons_succ, i64_w, i32_w]
                  rfl
                refine pure_ (i := 2) (N := some 19) (v := ?_) (a' := ?_) #[true, true, true, false, false, false, false, false, false, false] rfl rfl (any_of HT_.out (by kernel_rfl)) (fun _ _ _ h => h) (Or.inl ⟨by rfl, ?_⟩) ?_ ?_
                rotate_left
                · intro w'
                  go_simp
                  with_reducible rfl
                rotate_left
                · simp only [Act.put, List.setIfInBounds_toArray, List.set_cons_zero, List.set_cons_succ, i64_w, i32_w]
                  rfl
                refine pure_ (i := 4) (N := some 21) (v := ?_) (a' := ?_) #[true, true, true, false, true, false, false, false, false, false] rfl rfl (any_of HT_.out (by kernel_rfl)) (fun _ _ _ h => h) (Or.inl ⟨by rfl, ?_⟩) ?_ ?_
                rotate_left
                · intro w'
                  go_simp
                  with_reducible rfl
                rotate_left
                · simp only [Act.put, List.setIfInBounds_toArray, List.set_cons_zero, List.set_cons_succ, i64_w, i32_w]
                  rfl
                refine pure_ (i := 5) (N := some 22) (v := ?_) (a' := ?_) #[true, true, true, false, true, true, false, false, false, false] rfl rfl (any_of HT_.out (by kernel_rfl)) (fun _ _ _ h => h) (Or.inl ⟨by rfl, ?_⟩) ?_ ?_
                rotate_left
                · intro w'
                  go_simp
                  with_reducible rfl
                rotate_left
                · simp only [Act.put, List.setIfInBounds_toArray, List.set_cons_zero, List.set_cons_succ, i64_w, i32_w]
                  rfl
                refine pure_ (i := 6) (N := some 23) (v := ?_) (a' := ?_) #[true, true, true, false, true, true, true, false, false, false] rfl rfl (any_of HT_.out (by kernel_rfl)) (fun _ _ _ h => h) (Or.inl ⟨by rfl, ?_⟩) ?_ ?_
                rotate_left
                · intro w'
                  go_simp
                  with_reducible rfl
                rotate_left
                · simp only [Act.put, List.setIfInBounds_toArray, List.set_cons_zero, List.set_cons_succ, i64_w, i32_w]
                  rfl
                refine take_ (i := 3) (N := some 20) (v := ?_) (a' := ?_) #[true, true, true, true, true, true, true, false, false, false] rfl rfl (take_ofW HT_.out HW_.out (by kernel_rfl)) (fun _ _ _ h => h) (Or.inl ⟨by rfl, ?_⟩) hHeld ?_ ?_
                rotate_left
                · rintro w' ⟨s0, s1⟩
                  go_simp
                  with_reducible rfl
                rotate_left
                · simp only [Act.put, List.setIfInBounds_toArray, List.set_cons_zero, List.set_cons_succ, i64_w, i32_w]
                  rfl
                refine take_ (i := 7) (N := some 24) (v := ?_) (a' := ?_) #[true, true, true, true, true, true, true, true, false, false] rfl rfl (take_ofW HT_.out HW_.out (by kernel_rfl)) (fun _ _ _ h => h) (Or.inl ⟨by rfl, ?_⟩) hHeld ?_ ?_
                rotate_left
                · rintro w' ⟨s0, s1⟩
                  go_simp
                  with_reducible rfl
                rotate_left
                · simp only [Act.put, List.setIfInBounds_toArray, List.set_cons_zero, List.set_cons_succ, i64_w, i32_w]
                  rfl
                refine one_ (i := 8) (N := some 25) #[true, true, true, true, true, true, true, true, true, false] rfl rfl (one_of HT_.out (by kernel_rfl)) (by decide) (fun K hK => ?_)
                refine goes_ Try.func35 (by kernel_rfl) rfl #[.slice A131_0 (rd_L5 l0 x5_1).length c131_0, .slice A132_0 (rd_L5 l1 x5_1).length c132_0] (by rfl) rfl rfl (by (try simp only [List.map_toArray, List.map_cons, List.map_nil]); first | done | rfl | (simp only [List.length_drop, List.length_take]; rfl)) ?_
                with_reducible refine (laws_eqEventS.calls k1 _ _ (rd_L5 l0 x5_1) _ _ (rd_L5 l1 x5_1) false _ ?side1 ?side2 ?side3 ?side4 A7.out).mono ?_
                (case side1 => repeat (first | exact (Kd.C_below HR131_0.out HB.out) | (with_reducible refine Kd.C_alloc ?_ _) | (with_reducible refine Kd.C_drewN ?_ _) | (with_reducible refine Kd.C_drew ?_)))
                (case side2 => exact HC131_0.out)
                (case side3 => repeat (first | exact (Kd.C_below HR132_0.out HB.out) | (with_reducible refine Kd.C_alloc ?_ _) | (with_reducible refine Kd.C_drewN ?_ _) | (with_reducible refine Kd.C_drew ?_)))
                (case side4 => exact HC132_0.out)
                rintro e w12 ⟨rfl, hb⟩
                refine ⟨_, rfl, ?_⟩
                have n0_ := Aside0.mk (below_step (by repeat (first | (with_reducible first | exact HB.out | apply below_alloc | apply pw_below_drewN | apply below_drew1) | exact HB.out)) hb)
                clear HB
                have HB := n0_
                clear n0_
                (try clear hb)
                (try clear hb2)
                (try clear hk)
                (try clear hi)
                refine hK.out _ _ ⟨((HB.out.cell (World.block_lt_of_cell? w _ hw131_0)).trans hw131_0), ((HB.out.cell (World.block_lt_of_cell? w _ hw132_0)).trans hw132_0)⟩ (fun hHeld => ?_)
                clear hK K
                refine norm_ (a' := ?_) ?_ ?_
                rotate_left
                · show Act.put _ (some 25) _ = _
                  simp only [Act.put, List.setIfInBounds_toArray, List.set_cons_zero, List.set_cons_succ, i64_w, i32_w]
                  rfl
                refine pure_ (i := 9) (N := some 26) (v := ?_) (a' := ?_) #[true, true, true, true, true, true, true, true, true, true] rfl rfl (any_of HT_.out (by kernel_rfl)) (fun _ _ _ h => h) (Or.inl ⟨by rfl, ?_⟩) ?_ ?_
                rotate_left
                · intro w'
                  go_simp
                  with_reducible rfl
                rotate_left
                · simp only [Act.put, List.setIfInBounds_toArray, List.set_cons_zero, List.set_cons_succ, i64_w, i32_w]
                  rfl
                refine done_ (done_of HT_.out (by kernel_rfl)) ?_
                try go_wp2
                go_ret
                exact ⟨by first | rfl | (simp [errW_none, errW_some] <;> rfl) | (simp [*, errW_none, errW_some] <;> rfl), by repeat (first | (with_reducible first | exact HB.out | apply below_alloc | apply pw_below_drewN | apply below_drew1) | exact HB.out)⟩
            · rw [if_neg c6] at H
              exact absurd H (by simp)
          · rw [if_neg c5] at H
            exact absurd H (by simp)
        · rw [if_neg c4] at H
          have c4b0 : decide (x5_1 < (l0.length : Int)) = false := decide_eq_false c4
          clear c4
          obtain rfl := Option.some.inj H
          go_wp2
          go_ret
          exact ⟨by first | rfl | (simp [errW_none, errW_some] <;> rfl) | (simp [*, errW_none, errW_some] <;> rfl), by repeat (first | (with_reducible first | exact HB.out | apply below_alloc | apply pw_below_drewN | apply below_drew1) | exact HB.out)⟩
  · rw [if_neg c3] at H
    have c3b0 : ((l0.length : Int) == (l1.length : Int)) = false := beq_eq_false_iff_ne.mpr c3
    have c3b1 : ((l0.length : Int) != (l1.length : Int)) = true := bne_iff_ne.mpr c3
    have c3b2 : (l0.length == l1.length) = false := by first | simpa using c3 | (simp at c3 ⊢; omega)
    obtain rfl := Option.some.inj H
    go_enter Try.func46, Try.ntmps46
    go_wp2
    go_ret
    exact ⟨by first | rfl | (simp [errW_none, errW_some] <;> rfl) | (simp [*, errW_none, errW_some] <;> rfl), by repeat (first | (with_reducible first | exact HB.out | apply below_alloc | apply pw_below_drewN | apply below_drew1) | exact HB.out)⟩

/-! ### spec_Upto: function 61 -/
def spec_Upto.f (a0 : Int) (a1 : Int) : Option (Int) := if a1 < a0 then (if a1 < 0 then (some 0) else (some a1)) else (if a0 < 0 then (some 0) else (some a0))
set_option maxHeartbeats 8000000 in
set_option maxRecDepth 100000 in
theorem spec_Upto.calls (a0 : Int) (a1 : Int) (r : Int) (w : World) (h : spec_Upto.f a0 a1 = some r) :
    Calls Try.prog 61 #[.int .i64 a0, .int .i64 a1] w fun e w' => e = .returned (.int .i64 r) ∧ Drawn0 w w' := by
  have H : (if a1 < a0 then (if a1 < 0 then (some 0) else (some a1)) else (if a0 < 0 then (some 0) else (some a0))) = some r := h
  clear h
  by_cases c3 : a1 < a0
  · rw [if_pos c3] at H
    have c3b0 : decide (a1 < a0) = true := decide_eq_true c3
    clear c3
    by_cases c4 : a1 < 0
    · rw [if_pos c4] at H
      have c4b0 : decide (a1 < 0) = true := decide_eq_true c4
      clear c4
      obtain rfl := Option.some.inj H
      go_enter Try.func61, Try.ntmps61
      go_wp2
      go_ret
      exact ⟨by first | rfl | (simp; done) | (simp [*]; done), by repeat (first | exact Drawn0.refl _ | apply Drawn0.step)⟩
    · rw [if_neg c4] at H
      have c4b0 : decide (a1 < 0) = false := decide_eq_false c4
      clear c4
      obtain rfl := Option.some.inj H
      go_enter Try.func61, Try.ntmps61
      go_wp2
      go_ret
      exact ⟨by first | rfl | (simp; done) | (simp [*]; done), by repeat (first | exact Drawn0.refl _ | apply Drawn0.step)⟩
  · rw [if_neg c3] at H
    have c3b0 : decide (a1 < a0) = false := decide_eq_false c3
    clear c3
    by_cases c5 : a0 < 0
    · rw [if_pos c5] at H
      have c5b0 : decide (a0 < 0) = true := decide_eq_true c5
      clear c5
      obtain rfl := Option.some.inj H
      go_enter Try.func61, Try.ntmps61
      go_wp2
      go_ret
      exact ⟨by first | rfl | (simp; done) | (simp [*]; done), by repeat (first | exact Drawn0.refl _ | apply Drawn0.step)⟩
    · rw [if_neg c5] at H
      have c5b0 : decide (a0 < 0) = false := decide_eq_false c5
      clear c5
      obtain rfl := Option.some.inj H
      go_enter Try.func61, Try.ntmps61
      go_wp2
      go_ret
      exact ⟨by first | rfl | (simp; done) | (simp [*]; done), by repeat (first | exact Drawn0.refl _ | apply Drawn0.step)⟩

end Go.Proofs.Ytljnfcmcjhggfaa.PFnExactFewest
