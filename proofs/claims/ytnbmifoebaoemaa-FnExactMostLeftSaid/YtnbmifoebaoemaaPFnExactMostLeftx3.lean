-- Written by wip/fix.py (a program of this session) out of the print of this claim. NSqueezed
import Derived.Test.YtnbmifoebaoemaaPFnExactMostLeftx0
import Derived.Test.YtnbmifoebaoemaaPFnExactMostLeftx2
import Derived.Test.YtnbmifoebaoemaaCells
namespace Go.Proofs.Ytnbmifoebaoemaa.PFnExactMostLeft
open Go.RowKit Go.Proofs.YtnbmifoebaoemaaW.PrintWords Go.Proofs.YtnbmifoebaoemaaW.PrintLast Go.Proofs.YtnbmifoebaoemaaW.PrintMore Go.Proofs.Ytnbmifoebaoemaa.Cells
attribute [local go_sem] max2_int min2_int max_two min_two max_three min_three max_four min_four   -- for this text's walks alone
set_option linter.unusedVariables false
set_option linter.unusedSimpArgs false

/-! ### laws_eqEventS: function 70 -/
def laws_eqEventS.l0 : Nat → List (S40) → List (S40) → Int → Option (Bool)
  | 0, _, _, _ => none
  | k + 1, x0, x1, x5 => if x5 < (x0.length : Int) then (if 0 ≤ x5 then (if x5 < (x1.length : Int) then ((laws_eqEvent.f ((rd_T40 x0 x5).f0) ((rd_T40 x0 x5).f1) ((rd_T40 x0 x5).f2) ((rd_T40 x0 x5).f3) ((rd_T40 x0 x5).f4) ((rd_T40 x0 x5).f5) ((rd_T40 x0 x5).f6) ((rd_T40 x1 x5).f0) ((rd_T40 x1 x5).f1) ((rd_T40 x1 x5).f2) ((rd_T40 x1 x5).f3) ((rd_T40 x1 x5).f4) ((rd_T40 x1 x5).f5) ((rd_T40 x1 x5).f6)).bind fun t202 => (if t202 = true then (laws_eqEventS.l0 k x0 x1 (wrap64 (x5 + 1))) else (some false))) else (none)) else (none)) else (some true)
def laws_eqEventS.f (k : Nat) (l0 : List (S40)) (l1 : List (S40)) : Option (Bool) := if (l0.length : Int) = (l1.length : Int) then (laws_eqEventS.l0 k l0 l1 0) else (some false)
theorem laws_eqEventS.mono_l : ∀ k, (∀ y0 y1 y2, LeO (laws_eqEventS.l0 k y0 y1 y2) (laws_eqEventS.l0 (k + 1) y0 y1 y2))
  | 0 => fun _ _ _ r h => by simp [laws_eqEventS.l0] at h
  | k + 1 => by
    have ih0 := laws_eqEventS.mono_l k
    · intro y0 y1 y2
      unfold laws_eqEventS.l0
      repeat' first
      | (with_reducible exact ih0 _ _ _)
      | (with_reducible exact LeO.refl _)
      | (with_reducible exact LeO.none _)
      | (with_reducible refine LeO.ite ?_ ?_)
      | (with_reducible refine LeO.bind ?_ (fun _ => ?_))
      | exact ih0 _ _ _
      | exact LeO.none _
      | refine LeO.ite ?_ ?_
      | refine LeO.bind ?_ (fun _ => ?_)
theorem laws_eqEventS.mono : ∀ a0 a1 k, LeO (laws_eqEventS.f k a0 a1) (laws_eqEventS.f (k + 1) a0 a1) := by
  intro a0 a1 k
  have ih0 := laws_eqEventS.mono_l k
  unfold laws_eqEventS.f
  repeat' first
      | (with_reducible exact ih0 _ _ _)
      | (with_reducible exact LeO.refl _)
      | (with_reducible exact LeO.none _)
      | (with_reducible refine LeO.ite ?_ ?_)
      | (with_reducible refine LeO.bind ?_ (fun _ => ?_))
      | exact ih0 _ _ _
      | exact LeO.none _
      | refine LeO.ite ?_ ?_
      | refine LeO.bind ?_ (fun _ => ?_)
def laws_eqEventS.T6 : Bool × List (List Nat × List Nat) := (true, [([], []), ([], []), ([0, 1], [0, 1]), ([2], [2]), ([], []), ([], []), ([4, 5], [4, 5]), ([6], [6]), ([3, 7], [3, 7]), ([8], [8])])
def laws_eqEventS.B6 : List Nat := [0, 0, 3, 7, 0, 0, 48, 112, 255, 511]
theorem laws_eqEventS.tab6 : rtab .any (opsOf Try.f70 6) = laws_eqEventS.T6 := by kernel_rfl
theorem laws_eqEventS.bits6 : waitsOk laws_eqEventS.T6.2 laws_eqEventS.B6 = true := by kernel_rfl
set_option maxHeartbeats 8000000 in
set_option maxRecDepth 100000 in
theorem laws_eqEventS.calls (k : Nat) (A0 : Option Addr) (c0 : Nat) (l0 : List (S40)) (A1 : Option Addr) (c1 : Nat) (l1 : List (S40)) (r : Bool) (w : World) (hr0 : Kd.C k40 w A0 l0.length l0) (hc0 : l0.length ≤ c0) (hr1 : Kd.C k40 w A1 l1.length l1) (hc1 : l1.length ≤ c1) (h : laws_eqEventS.f k l0 l1 = some r) :
    Calls Try.prog 70 #[.slice A0 l0.length c0, .slice A1 l1.length c1] w fun e w' => e = .returned (.bool r) ∧ Below w.heap.size w w' := by
  have hu40 := Try.underlying40
  have HR0 := Aside0.mk hr0
  have HC0 := Aside0.mk hc0
  clear hr0 hc0
  have HR1 := Aside0.mk hr1
  have HC1 := Aside0.mk hc1
  clear hr1 hc1
  have HB := Aside0.mk (Below.refl w.heap.size w)
  have H : (if (l0.length : Int) = (l1.length : Int) then (laws_eqEventS.l0 k l0 l1 0) else (some false)) = some r := h
  clear h
  by_cases c3 : (l0.length : Int) = (l1.length : Int)
  · rw [if_pos c3] at H
    have c3b0 : ((l0.length : Int) == (l1.length : Int)) = true := beq_iff_eq.mpr c3
    have c3b1 : ((l0.length : Int) != (l1.length : Int)) = false := bne_eq_false_iff_eq.mpr c3
    have c3b2 : (l0.length == l1.length) = true := by first | simpa using c3 | (simp at c3 ⊢; omega)
    clear c3
    have H' := Aside0.mk H
    clear H
    go_enter Try.func70, Try.ntmps70
    go_wp2
    go_loopg [5] k (fun kq v5 w' => ∃ (x5_1 : Int), v5 = .int .i64 x5_1 ∧ Aside0 (laws_eqEventS.l0 kq l0 l1 x5_1 = some r) ∧ Aside0 (kq ≤ k) ∧ Aside0 (Below w.heap.size w w'))
    case atStart => exact ⟨(0), (by first | rfl | (simp; done) | (simp [*]; done)), H', ⟨Nat.le_refl _⟩, ⟨by repeat (first | (with_reducible first | exact HB.out | apply below_alloc | apply pw_below_drewN | apply below_drew1) | exact HB.out)⟩⟩
    case round =>
      clear H'
      try clear c1
      try clear p2
      try clear c3
      try clear c3b0
      try clear c3b1
      try clear c3b2
      obtain ⟨x5_1, rfl, HA, HK1, HB⟩ := hrel
      cases gk with
      | zero => exact absurd HA.out (by simp [laws_eqEventS.l0])
      | succ k1 =>
        have H := HA.out
        clear HA
        simp only [laws_eqEventS.l0] at H
        by_cases c4 : x5_1 < (l0.length : Int)
        · rw [if_pos c4] at H
          have c4b0 : decide (x5_1 < (l0.length : Int)) = true := decide_eq_true c4
          clear c4
          by_cases c5 : 0 ≤ x5_1
          · rw [if_pos c5] at H
            have c5b0 : decide (0 ≤ x5_1) = true := decide_eq_true c5
            clear c5
            by_cases c6 : x5_1 < (l1.length : Int)
            · rw [if_pos c6] at H
              have c6b0 : decide (x5_1 < (l1.length : Int)) = true := decide_eq_true c6
              clear c6
              replace H := Option.bind_eq_some_iff.mp H
              obtain ⟨t202, A70, H⟩ := H
              replace H : (if t202 = true then (laws_eqEventS.l0 k1 l0 l1 (wrap64 (x5_1 + 1))) else (some false)) = some r := H
              have A7 := Aside0.mk A70
              clear A70
              by_cases c8 : t202 = true
              · subst c8
                have H1 : (laws_eqEventS.l0 k1 l0 l1 (wrap64 (x5_1 + 1))) = some r := by rw [if_pos rfl] at H; exact H
                clear H
                have H := H1
                clear H1
                have H' := Aside0.mk H
                clear H
                try go_wp2
                have n0_ := Aside0.mk (below_drew1 HB.out)
                clear HB
                have HB := n0_
                clear n0_
                have p200 : 0 ≤ (x5_1 : Int) := of_decide_eq_true (by first | (with_reducible assumption) | assumption)
                have q200 : x5_1 < (l0.length : Int) := of_decide_eq_true (by first | (with_reducible assumption) | assumption)
                obtain ⟨ad200, e200, hx200_0, hx200_1, hx200_2, hx200_3, hx200_4, hx200_5, hx200_6⟩ := at_T40 HR0.out x5_1 p200 q200
                have hw200_6 := hx200_6
                have hw200_5 := hx200_5
                have hw200_4 := hx200_4
                have hw200_3 := hx200_3
                have hw200_2 := hx200_2
                have hw200_1 := hx200_1
                have hw200_0 := hx200_0
                cases e200
                replace hx200_0 := (HB.out.cell (World.block_lt_of_cell? w _ hx200_0)).trans hx200_0
                replace hx200_1 := (HB.out.cell (World.block_lt_of_cell? w _ hx200_1)).trans hx200_1
                replace hx200_2 := (HB.out.cell (World.block_lt_of_cell? w _ hx200_2)).trans hx200_2
                replace hx200_3 := (HB.out.cell (World.block_lt_of_cell? w _ hx200_3)).trans hx200_3
                replace hx200_4 := (HB.out.cell (World.block_lt_of_cell? w _ hx200_4)).trans hx200_4
                replace hx200_5 := (HB.out.cell (World.block_lt_of_cell? w _ hx200_5)).trans hx200_5
                replace hx200_6 := (HB.out.cell (World.block_lt_of_cell? w _ hx200_6)).trans hx200_6
                replace p200 := eq_true p200
                replace q200 := eq_true q200
                have p201 : 0 ≤ (x5_1 : Int) := of_decide_eq_true (by first | (with_reducible assumption) | assumption)
                have q201 : x5_1 < (l1.length : Int) := of_decide_eq_true (by first | (with_reducible assumption) | assumption)
                obtain ⟨ad201, e201, hx201_0, hx201_1, hx201_2, hx201_3, hx201_4, hx201_5, hx201_6⟩ := at_T40 HR1.out x5_1 p201 q201
                have hw201_6 := hx201_6
                have hw201_5 := hx201_5
                have hw201_4 := hx201_4
                have hw201_3 := hx201_3
                have hw201_2 := hx201_2
                have hw201_1 := hx201_1
                have hw201_0 := hx201_0
                cases e201
                replace hx201_0 := (HB.out.cell (World.block_lt_of_cell? w _ hx201_0)).trans hx201_0
                replace hx201_1 := (HB.out.cell (World.block_lt_of_cell? w _ hx201_1)).trans hx201_1
                replace hx201_2 := (HB.out.cell (World.block_lt_of_cell? w _ hx201_2)).trans hx201_2
                replace hx201_3 := (HB.out.cell (World.block_lt_of_cell? w _ hx201_3)).trans hx201_3
                replace hx201_4 := (HB.out.cell (World.block_lt_of_cell? w _ hx201_4)).trans hx201_4
                replace hx201_5 := (HB.out.cell (World.block_lt_of_cell? w _ hx201_5)).trans hx201_5
                replace hx201_6 := (HB.out.cell (World.block_lt_of_cell? w _ hx201_6)).trans hx201_6
                replace p201 := eq_true p201
                replace q201 := eq_true q201
                refine start_ (n := 10) (S := fun w' => w'.cell? (ad200.add ((x5_1).toNat * 7)) = some (.int .i64 ((rd_T40 l0 x5_1).f0)) ∧ w'.cell? ⟨(ad200.add ((x5_1).toNat * 7)).block, (ad200.add ((x5_1).toNat * 7)).off + 1, none⟩ = some (.int .i64 ((rd_T40 l0 x5_1).f1)) ∧ w'.cell? ⟨(ad200.add ((x5_1).toNat * 7)).block, (ad200.add ((x5_1).toNat * 7)).off + 2, none⟩ = some (.int .i64 ((rd_T40 l0 x5_1).f2)) ∧ w'.cell? ⟨(ad200.add ((x5_1).toNat * 7)).block, (ad200.add ((x5_1).toNat * 7)).off + 3, none⟩ = some (.int .i64 ((rd_T40 l0 x5_1).f3)) ∧ w'.cell? ⟨(ad200.add ((x5_1).toNat * 7)).block, (ad200.add ((x5_1).toNat * 7)).off + 4, none⟩ = some (.int .i64 ((rd_T40 l0 x5_1).f4)) ∧ w'.cell? ⟨(ad200.add ((x5_1).toNat * 7)).block, (ad200.add ((x5_1).toNat * 7)).off + 5, none⟩ = some (.int .i64 ((rd_T40 l0 x5_1).f5)) ∧ w'.cell? ⟨(ad200.add ((x5_1).toNat * 7)).block, (ad200.add ((x5_1).toNat * 7)).off + 6, none⟩ = some (.bool ((rd_T40 l0 x5_1).f6)) ∧ w'.cell? (ad201.add ((x5_1).toNat * 7)) = some (.int .i64 ((rd_T40 l1 x5_1).f0)) ∧ w'.cell? ⟨(ad201.add ((x5_1).toNat * 7)).block, (ad201.add ((x5_1).toNat * 7)).off + 1, none⟩ = some (.int .i64 ((rd_T40 l1 x5_1).f1)) ∧ w'.cell? ⟨(ad201.add ((x5_1).toNat * 7)).block, (ad201.add ((x5_1).toNat * 7)).off + 2, none⟩ = some (.int .i64 ((rd_T40 l1 x5_1).f2)) ∧ w'.cell? ⟨(ad201.add ((x5_1).toNat * 7)).block, (ad201.add ((x5_1).toNat * 7)).off + 3, none⟩ = some (.int .i64 ((rd_T40 l1 x5_1).f3)) ∧ w'.cell? ⟨(ad201.add ((x5_1).toNat * 7)).block, (ad201.add ((x5_1).toNat * 7)).off + 4, none⟩ = some (.int .i64 ((rd_T40 l1 x5_1).f4)) ∧ w'.cell? ⟨(ad201.add ((x5_1).toNat * 7)).block, (ad201.add ((x5_1).toNat * 7)).off + 5, none⟩ = some (.int .i64 ((rd_T40 l1 x5_1).f5)) ∧ w'.cell? ⟨(ad201.add ((x5_1).toNat * 7)).block, (ad201.add ((x5_1).toNat * 7)).off + 6, none⟩ = some (.bool ((rd_T40 l1 x5_1).f6))) (ds := []) #[false, false, false, false, false, false, false, false, false, false] (by kernel_rfl) rfl rfl ⟨((HB.out.cell (World.block_lt_of_cell? w _ hw200_0)).trans hw200_0), ((HB.out.cell (World.block_lt_of_cell? w _ hw200_1)).trans hw200_1), ((HB.out.cell (World.block_lt_of_cell? w _ hw200_2)).trans hw200_2), ((HB.out.cell (World.block_lt_of_cell? w _ hw200_3)).trans hw200_3), ((HB.out.cell (World.block_lt_of_cell? w _ hw200_4)).trans hw200_4), ((HB.out.cell (World.block_lt_of_cell? w _ hw200_5)).trans hw200_5), ((HB.out.cell (World.block_lt_of_cell? w _ hw200_6)).trans hw200_6), ((HB.out.cell (World.block_lt_of_cell? w _ hw201_0)).trans hw201_0), ((HB.out.cell (World.block_lt_of_cell? w _ hw201_1)).trans hw201_1), ((HB.out.cell (World.block_lt_of_cell? w _ hw201_2)).trans hw201_2), ((HB.out.cell (World.block_lt_of_cell? w _ hw201_3)).trans hw201_3), ((HB.out.cell (World.block_lt_of_cell? w _ hw201_4)).trans hw201_4), ((HB.out.cell (World.block_lt_of_cell? w _ hw201_5)).trans hw201_5), ((HB.out.cell (World.block_lt_of_cell? w _ hw201_6)).trans hw201_6)⟩ (fun hHeld => ?_); refine with_tabW laws_eqEventS.tab6 laws_eqEventS.bits6 (fun HT_ HW_ => ?_)
                generalize wr.drew = w9 at HB hx200_0 hx200_1 hx200_2 hx200_3 hx200_4 hx200_5 hx200_6 hx201_0 hx201_1 hx201_2 hx201_3 hx201_4 hx201_5 hx201_6 hHeld ⊢
                refine pure_ (i := 0) (N := some 17) (v := ?_) (a' := ?_) #[true, false, false, false, false, false, false, false, false, false] rfl rfl (any_of HT_.out (by kernel_rfl)) (fun _ _ _ h => h) (Or.inl ⟨by rfl, ?_⟩) ?_ ?_
                rotate_left
                · intro w'
                  go_simp
                  with_reducible rfl
                rotate_left
                · simp only [Act.put, List.setIfInBounds_toArray, List.set_cons_zero, List.set_cons_succ, i64_w, i32_w]
                  rfl
                refine pure_ (i := 1) (N := some 18) (v := ?_) (a' := ?_) #[true, true, false, false, false, false, false, false, false, false] rfl rfl (any_of HT_.out (by kernel_rfl)) (fun _ _ _ h => h) (Or.inl ⟨by rfl, ?_⟩) ?_ ?_
                rotate_left
                · intro w'
                  go_simp
                  with_reducible rfl
                rotate_left
                · simp only [Act.put, List.setIfInBounds_toArray, List.set_cons_zero, List.set_cons_succ, i64_w, i32_w]
                  rfl
                refine pure_ (i := 2) (N := some 19) (v := ?_) (a' := ?_) #[true, true, true, false, false, false, false, false, false, false] rfl rfl (any_of HT_.out (by kernel_rfl)) (fun _ _ _ h => h) (Or.inl ⟨by rfl, ?_⟩) ?_ ?_
                rotate_left
                · intro w'
                  go_simp
                  with_reducible rfl
                rotate_left
                · simp only [Act.put, List.setIfInBounds_toArray, List.set_cons_zero, List.set_cons_succ, i64_w, i32_w]
                  rfl
                refine pure_ (i := 4) (N := some 21) (v := ?_) (a' := ?_) #[true, true, true, false, true, false, false, false, false, false] rfl rfl (any_of HT_.out (by kernel_rfl)) (fun _ _ _ h => h) (Or.inl ⟨by rfl, ?_⟩) ?_ ?_
                rotate_left
                · intro w'
                  go_simp
                  with_reducible rfl
                rotate_left
                · simp only [Act.put, List.setIfInBounds_toArray, List.set_cons_zero, List.set_cons_succ, i64_w, i32_w]
                  rfl
                refine pure_ (i := 5) (N := some 22) (v := ?_) (a' := ?_) #[true, true, true, false, true, true, false, false, false, false] rfl rfl (any_of HT_.out (by kernel_rfl)) (fun _ _ _ h => h) (Or.inl ⟨by rfl, ?_⟩) ?_ ?_
                rotate_left
                · intro w'
                  go_simp
                  with_reducible rfl
                rotate_left
                · simp only [Act.put, List.setIfInBounds_toArray, List.set_cons_zero, List.set_cons_succ, i64_w, i32_w]
                  rfl
                refine pure_ (i := 6) (N := some 23) (v := ?_) (a' := ?_) #[true, true, true, false, true, true, true, false, false, false] rfl rfl (any_of HT_.out (by kernel_rfl)) (fun _ _ _ h => h) (Or.inl ⟨by rfl, ?_⟩) ?_ ?_
                rotate_left
                · intro w'
                  go_simp
                  with_reducible rfl
                rotate_left
                · simp only [Act.put, List.setIfInBounds_toArray, List.set_cons_zero, List.set_cons_succ, i64_w, i32_w]
                  rfl
                refine take_ (i := 3) (N := some 20) (v := ?_) (a' := ?_) #[true, true, true, true, true, true, true, false, false, false] rfl rfl (take_ofW HT_.out HW_.out (by kernel_rfl)) (fun _ _ _ h => h) (Or.inl ⟨by rfl, ?_⟩) hHeld ?_ ?_
                rotate_left
                · rintro w' ⟨s0, s1, s2, s3, s4, s5, s6, s7, s8, s9, s10, s11, s12, s13⟩
                  first | (refine Eq.trans (run_execOp_load 40 _ (by rfl) _ (by rfl) _ _ Try.underlying40 rfl (by kernel_rfl) (ee_7 s0 s1 s2 s3 s4 s5 s6)) ?_; with_reducible rfl) | (refine Eq.trans (run_execOp_load 40 _ (by rfl) _ (by rfl) _ _ Try.underlying40 rfl (by kernel_rfl) (ee_7 s7 s8 s9 s10 s11 s12 s13)) ?_; with_reducible rfl) | (go_simp; with_reducible rfl)
                rotate_left
                · simp only [Act.put, List.setIfInBounds_toArray, List.set_cons_zero, List.set_cons_succ, i64_w, i32_w]
                  rfl
                refine take_ (i := 7) (N := some 24) (v := ?_) (a' := ?_) #[true, true, true, true, true, true, true, true, false, false] rfl rfl (take_ofW HT_.out HW_.out (by kernel_rfl)) (fun _ _ _ h => h) (Or.inl ⟨by rfl, ?_⟩) hHeld ?_ ?_
                rotate_left
                · rintro w' ⟨s0, s1, s2, s3, s4, s5, s6, s7, s8, s9, s10, s11, s12, s13⟩
                  first | (refine Eq.trans (run_execOp_load 40 _ (by rfl) _ (by rfl) _ _ Try.underlying40 rfl (by kernel_rfl) (ee_7 s0 s1 s2 s3 s4 s5 s6)) ?_; with_reducible rfl) | (refine Eq.trans (run_execOp_load 40 _ (by rfl) _ (by rfl) _ _ Try.underlying40 rfl (by kernel_rfl) (ee_7 s7 s8 s9 s10 s11 s12 s13)) ?_; with_reducible rfl) | (go_simp; with_reducible rfl)
                rotate_left
                · simp only [Act.put, List.setIfInBounds_toArray, List.set_cons_zero, List.set_cons_succ, i64_w, i32_w]
                  rfl
                refine one_ (i := 8) (N := some 25) #[true, true, true, true, true, true, true, true, true, false] rfl rfl (one_of HT_.out (by kernel_rfl)) (by decide) (fun K hK => ?_)
                refine goes_ Try.func110 (by kernel_rfl) rfl #[.agg #[.int .i64 ((rd_T40 l0 x5_1).f0), .int .i64 ((rd_T40 l0 x5_1).f1), .int .i64 ((rd_T40 l0 x5_1).f2), .int .i64 ((rd_T40 l0 x5_1).f3), .int .i64 ((rd_T40 l0 x5_1).f4), .int .i64 ((rd_T40 l0 x5_1).f5), .bool ((rd_T40 l0 x5_1).f6)], .agg #[.int .i64 ((rd_T40 l1 x5_1).f0), .int .i64 ((rd_T40 l1 x5_1).f1), .int .i64 ((rd_T40 l1 x5_1).f2), .int .i64 ((rd_T40 l1 x5_1).f3), .int .i64 ((rd_T40 l1 x5_1).f4), .int .i64 ((rd_T40 l1 x5_1).f5), .bool ((rd_T40 l1 x5_1).f6)]] (by rfl) rfl rfl (by (try simp only [List.map_toArray, List.map_cons, List.map_nil]); first | done | rfl | (simp only [List.length_drop, List.length_take]; rfl)) ?_
                with_reducible refine (laws_eqEvent.calls ((rd_T40 l0 x5_1).f0) ((rd_T40 l0 x5_1).f1) ((rd_T40 l0 x5_1).f2) ((rd_T40 l0 x5_1).f3) ((rd_T40 l0 x5_1).f4) ((rd_T40 l0 x5_1).f5) ((rd_T40 l0 x5_1).f6) ((rd_T40 l1 x5_1).f0) ((rd_T40 l1 x5_1).f1) ((rd_T40 l1 x5_1).f2) ((rd_T40 l1 x5_1).f3) ((rd_T40 l1 x5_1).f4) ((rd_T40 l1 x5_1).f5) ((rd_T40 l1 x5_1).f6) true _ A7.out).mono ?_
                rintro e w10 ⟨rfl, hb⟩
                refine ⟨_, rfl, ?_⟩
                have n0_ := Aside0.mk (below_step (by repeat (first | (with_reducible first | exact HB.out | apply below_alloc | apply pw_below_drewN | apply below_drew1) | exact HB.out)) hb)
                clear HB
                have HB := n0_
                clear n0_
                (try clear hb)
                (try clear hb2)
                (try clear hk)
                (try clear hi)
                refine hK.out _ _ ⟨((HB.out.cell (World.block_lt_of_cell? w _ hw200_0)).trans hw200_0), ((HB.out.cell (World.block_lt_of_cell? w _ hw200_1)).trans hw200_1), ((HB.out.cell (World.block_lt_of_cell? w _ hw200_2)).trans hw200_2), ((HB.out.cell (World.block_lt_of_cell? w _ hw200_3)).trans hw200_3), ((HB.out.cell (World.block_lt_of_cell? w _ hw200_4)).trans hw200_4), ((HB.out.cell (World.block_lt_of_cell? w _ hw200_5)).trans hw200_5), ((HB.out.cell (World.block_lt_of_cell? w _ hw200_6)).trans hw200_6), ((HB.out.cell (World.block_lt_of_cell? w _ hw201_0)).trans hw201_0), ((HB.out.cell (World.block_lt_of_cell? w _ hw201_1)).trans hw201_1), ((HB.out.cell (World.block_lt_of_cell? w _ hw201_2)).trans hw201_2), ((HB.out.cell (World.block_lt_of_cell? w _ hw201_3)).trans hw201_3), ((HB.out.cell (World.block_lt_of_cell? w _ hw201_4)).trans hw201_4), ((HB.out.cell (World.block_lt_of_cell? w _ hw201_5)).trans hw201_5), ((HB.out.cell (World.block_lt_of_cell? w _ hw201_6)).trans hw201_6)⟩ (fun hHeld => ?_)
                clear hK K
                refine norm_ (a' := ?_) ?_ ?_
                rotate_left
                · show Act.put _ (some 25) _ = _
                  simp only [Act.put, List.setIfInBounds_toArray, List.set_cons_zero, List.set_cons_succ, i64_w, i32_w]
                  rfl
                refine pure_ (i := 9) (N := some 26) (v := ?_) (a' := ?_) #[true, true, true, true, true, true, true, true, true, true] rfl rfl (any_of HT_.out (by kernel_rfl)) (fun _ _ _ h => h) (Or.inl ⟨by rfl, ?_⟩) ?_ ?_
                rotate_left
                · intro w'
                  go_simp
                  with_reducible rfl
                rotate_left
                · simp only [Act.put, List.setIfInBounds_toArray, List.set_cons_zero, List.set_cons_succ, i64_w, i32_w]
                  rfl
                refine done_ (done_of HT_.out (by kernel_rfl)) ?_
                try go_wp2_with (first | ((with_reducible refine gate_load (t := 40) rfl ?_); refine load_at rfl 40 _ rfl _ rfl _ _ Try.underlying40 rfl (by kernel_rfl) (ee_7 hx200_0 hx200_1 hx200_2 hx200_3 hx200_4 hx200_5 hx200_6) ?_) | ((with_reducible refine gate_load (t := 40) rfl ?_); refine load_at rfl 40 _ rfl _ rfl _ _ Try.underlying40 rfl (by kernel_rfl) (ee_7 hx201_0 hx201_1 hx201_2 hx201_3 hx201_4 hx201_5 hx201_6) ?_))
                go_roundg k1
                case measure => have := HK1.out; omega
                case rel => exact ⟨(wrap64 (x5_1 + 1)), (by first | rfl | (simp; done) | (simp [*]; done)), H', ⟨by have := HK1.out; omega⟩, ⟨by repeat (first | (with_reducible first | exact HB.out | apply below_alloc | apply pw_below_drewN | apply below_drew1) | exact HB.out)⟩⟩
              · replace c8 := Bool.eq_false_iff.mpr c8
                subst c8
                have H1 : (some false) = some r := by rw [if_neg (show ¬ (false = true) by decide)] at H; exact H
                clear H
                have H := H1
                clear H1
                obtain rfl := Option.some.inj H
                try go_wp2
                have n0_ := Aside0.mk (below_drew1 HB.out)
                clear HB
                have HB := n0_
                clear n0_
                have p200 : 0 ≤ (x5_1 : Int) := of_decide_eq_true (by first | (with_reducible assumption) | assumption)
                have q200 : x5_1 < (l0.length : Int) := of_decide_eq_true (by first | (with_reducible assumption) | assumption)
                obtain ⟨ad200, e200, hx200_0, hx200_1, hx200_2, hx200_3, hx200_4, hx200_5, hx200_6⟩ := at_T40 HR0.out x5_1 p200 q200
                have hw200_6 := hx200_6
                have hw200_5 := hx200_5
                have hw200_4 := hx200_4
                have hw200_3 := hx200_3
                have hw200_2 := hx200_2
                have hw200_1 := hx200_1
                have hw200_0 := hx200_0
                cases e200
                replace hx200_0 := (HB.out.cell (World.block_lt_of_cell? w _ hx200_0)).trans hx200_0
                replace hx200_1 := (HB.out.cell (World.block_lt_of_cell? w _ hx200_1)).trans hx200_1
                replace hx200_2 := (HB.out.cell (World.block_lt_of_cell? w _ hx200_2)).trans hx200_2
                replace hx200_3 := (HB.out.cell (World.block_lt_of_cell? w _ hx200_3)).trans hx200_3
                replace hx200_4 := (HB.out.cell (World.block_lt_of_cell? w _ hx200_4)).trans hx200_4
                replace hx200_5 := (HB.out.cell (World.block_lt_of_cell? w _ hx200_5)).trans hx200_5
                replace hx200_6 := (HB.out.cell (World.block_lt_of_cell? w _ hx200_6)).trans hx200_6
                replace p200 := eq_true p200
                replace q200 := eq_true q200
                have p201 : 0 ≤ (x5_1 : Int) := of_decide_eq_true (by first | (with_reducible assumption) | assumption)
                have q201 : x5_1 < (l1.length : Int) := of_decide_eq_true (by first | (with_reducible assumption) | assumption)
                obtain ⟨ad201, e201, hx201_0, hx201_1, hx201_2, hx201_3, hx201_4, hx201_5, hx201_6⟩ := at_T40 HR1.out x5_1 p201 q201
                have hw201_6 := hx201_6
                have hw201_5 := hx201_5
                have hw201_4 := hx201_4
                have hw201_3 := hx201_3
                have hw201_2 := hx201_2
                have hw201_1 := hx201_1
                have hw201_0 := hx201_0
                cases e201
                replace hx201_0 := (HB.out.cell (World.block_lt_of_cell? w _ hx201_0)).trans hx201_0
                replace hx201_1 := (HB.out.cell (World.block_lt_of_cell? w _ hx201_1)).trans hx201_1
                replace hx201_2 := (HB.out.cell (World.block_lt_of_cell? w _ hx201_2)).trans hx201_2
                replace hx201_3 := (HB.out.cell (World.block_lt_of_cell? w _ hx201_3)).trans hx201_3
                replace hx201_4 := (HB.out.cell (World.block_lt_of_cell? w _ hx201_4)).trans hx201_4
                replace hx201_5 := (HB.out.cell (World.block_lt_of_cell? w _ hx201_5)).trans hx201_5
                replace hx201_6 := (HB.out.cell (World.block_lt_of_cell? w _ hx201_6)).trans hx201_6
                replace p201 := eq_true p201
                replace q201 := eq_true q201
                refine start_ (n := 10) (S := fun w' => w'.cell? (ad200.add ((x5_1).toNat * 7)) = some (.int .i64 ((rd_T40 l0 x5_1).f0)) ∧ w'.cell? ⟨(ad200.add ((x5_1).toNat * 7)).block, (ad200.add ((x5_1).toNat * 7)).off + 1, none⟩ = some (.int .i64 ((rd_T40 l0 x5_1).f1)) ∧ w'.cell? ⟨(ad200.add ((x5_1).toNat * 7)).block, (ad200.add ((x5_1).toNat * 7)).off + 2, none⟩ = some (.int .i64 ((rd_T40 l0 x5_1).f2)) ∧ w'.cell? ⟨(ad200.add ((x5_1).toNat * 7)).block, (ad200.add ((x5_1).toNat * 7)).off + 3, none⟩ = some (.int .i64 ((rd_T40 l0 x5_1).f3)) ∧ w'.cell? ⟨(ad200.add ((x5_1).toNat * 7)).block, (ad200.add ((x5_1).toNat * 7)).off + 4, none⟩ = some (.int .i64 ((rd_T40 l0 x5_1).f4)) ∧ w'.cell? ⟨(ad200.add ((x5_1).toNat * 7)).block, (ad200.add ((x5_1).toNat * 7)).off + 5, none⟩ = some (.int .i64 ((rd_T40 l0 x5_1).f5)) ∧ w'.cell? ⟨(ad200.add ((x5_1).toNat * 7)).block, (ad200.add ((x5_1).toNat * 7)).off + 6, none⟩ = some (.bool ((rd_T40 l0 x5_1).f6)) ∧ w'.cell? (ad201.add ((x5_1).toNat * 7)) = some (.int .i64 ((rd_T40 l1 x5_1).f0)) ∧ w'.cell? ⟨(ad201.add ((x5_1).toNat * 7)).block, (ad201.add ((x5_1).toNat * 7)).off + 1, none⟩ = some (.int .i64 ((rd_T40 l1 x5_1).f1)) ∧ w'.cell? ⟨(ad201.add ((x5_1).toNat * 7)).block, (ad201.add ((x5_1).toNat * 7)).off + 2, none⟩ = some (.int .i64 ((rd_T40 l1 x5_1).f2)) ∧ w'.cell? ⟨(ad201.add ((x5_1).toNat * 7)).block, (ad201.add ((x5_1).toNat * 7)).off + 3, none⟩ = some (.int .i64 ((rd_T40 l1 x5_1).f3)) ∧ w'.cell? ⟨(ad201.add ((x5_1).toNat * 7)).block, (ad201.add ((x5_1).toNat * 7)).off + 4, none⟩ = some (.int .i64 ((rd_T40 l1 x5_1).f4)) ∧ w'.cell? ⟨(ad201.add ((x5_1).toNat * 7)).block, (ad201.add ((x5_1).toNat * 7)).off + 5, none⟩ = some (.int .i64 ((rd_T40 l1 x5_1).f5)) ∧ w'.cell? ⟨(ad201.add ((x5_1).toNat * 7)).block, (ad201.add ((x5_1).toNat * 7)).off + 6, none⟩ = some (.bool ((rd_T40 l1 x5_1).f6))) (ds := []) #[false, false, false, false, false, false, false, false, false, false] (by kernel_rfl) rfl rfl ⟨((HB.out.cell (World.block_lt_of_cell? w _ hw200_0)).trans hw200_0), ((HB.out.cell (World.block_lt_of_cell? w _ hw200_1)).trans hw200_1), ((HB.out.cell (World.block_lt_of_cell? w _ hw200_2)).trans hw200_2), ((HB.out.cell (World.block_lt_of_cell? w _ hw200_3)).trans hw200_3), ((HB.out.cell (World.block_lt_of_cell? w _ hw200_4)).trans hw200_4), ((HB.out.cell (World.block_lt_of_cell? w _ hw200_5)).trans hw200_5), ((HB.out.cell (World.block_lt_of_cell? w _ hw200_6)).trans hw200_6), ((HB.out.cell (World.block_lt_of_cell? w _ hw201_0)).trans hw201_0), ((HB.out.cell (World.block_lt_of_cell? w _ hw201_1)).trans hw201_1), ((HB.out.cell (World.block_lt_of_cell? w _ hw201_2)).trans hw201_2), ((HB.out.cell (World.block_lt_of_cell? w _ hw201_3)).trans hw201_3), ((HB.out.cell (World.block_lt_of_cell? w _ hw201_4)).trans hw201_4), ((HB.out.cell (World.block_lt_of_cell? w _ hw201_5)).trans hw201_5), ((HB.out.cell (World.block_lt_of_cell? w _ hw201_6)).trans hw201_6)⟩ (fun hHeld => ?_); refine with_tabW laws_eqEventS.tab6 laws_eqEventS.bits6 (fun HT_ HW_ => ?_)
                generalize wr.drew = w11 at HB hx200_0 hx200_1 hx200_2 hx200_3 hx200_4 hx200_5 hx200_6 hx201_0 hx201_1 hx201_2 hx201_3 hx201_4 hx201_5 hx201_6 hHeld ⊢
                refine pure_ (i := 0) (N := some 17) (v := ?_) (a' := ?_) #[true, false, false, false, false, false, false, false, false, false] rfl rfl (any_of HT_.out (by kernel_rfl)) (fun _ _ _ h => h) (Or.inl ⟨by rfl, ?_⟩) ?_ ?_
                rotate_left
                · intro w'
                  go_simp
                  with_reducible rfl
                rotate_left
                · simp only [Act.put, List.setIfInBounds_toArray, List.set_cons_zero, List.set_cons_succ, i64_w, i32_w]
                  rfl
                refine pure_ (i := 1) (N := some 18) (v := ?_) (a' := ?_) #[true, true, false, false, false, false, false, false, false, false] rfl rfl (any_of HT_.out (by kernel_rfl)) (fun _ _ _ h => h) (Or.inl ⟨by rfl, ?_⟩) ?_ ?_
                rotate_left
                · intro w'
                  go_simp
                  with_reducible rfl
                rotate_left
                · simp only [Act.put, List.setIfInBounds_toArray, List.set_cons_zero, List.set_cons_succ, i64_w, i32_w]
                  rfl
                refine pure_ (i := 2) (N := some 19) (v := ?_) (a' := ?_) #[true, true, true, false, false, false, false, false, false, false] rfl rfl (any_of HT_.out (by kernel_rfl)) (fun _ _ _ h => h) (Or.inl ⟨by rfl, ?_⟩) ?_ ?_
                rotate_left
                · intro w'
                  go_simp
                  with_reducible rfl
                rotate_left
                · simp only [Act.put, List.setIfInBounds_toArray, List.set_cons_zero, List.set_cons_succ, i64_w, i32_w]
                  rfl
                refine pure_ (i := 4) (N := some 21) (v := ?_) (a' := ?_) #[true, true, true, false, true, false, false, false, false, false] rfl rfl (any_of HT_.out (by kernel_rfl)) (fun _ _ _ h => h) (Or.inl ⟨by rfl, ?_⟩) ?_ ?_
                rotate_left
                · intro w'
                  go_simp
                  with_reducible rfl
                rotate_left
                · simp only [Act.put, List.setIfInBounds_toArray, List.set_cons_zero, List.set_cons_succ, i64_w, i32_w]
                  rfl
                refine pure_ (i := 5) (N := some 22) (v := ?_) (a' := ?_) #[true, true, true, false, true, true, false, false, false, false] rfl rfl (any_of HT_.out (by kernel_rfl)) (fun _ _ _ h => h) (Or.inl ⟨by rfl, ?_⟩) ?_ ?_
                rotate_left
                · intro w'
                  go_simp
                  with_reducible rfl
                rotate_left
                · simp only [Act.put, List.setIfInBounds_toArray, List.set_cons_zero, List.set_cons_succ, i64_w, i32_w]
                  rfl
                refine pure_ (i := 6) (N := some 23) (v := ?_) (a' := ?_) #[true, true, true, false, true, true, true, false, false, false] rfl rfl (any_of HT_.out (by kernel_rfl)) (fun _ _ _ h => h) (Or.inl ⟨by rfl, ?_⟩) ?_ ?_
                rotate_left
                · intro w'
                  go_simp
                  with_reducible rfl
                rotate_left
                · simp only [Act.put, List.setIfInBounds_toArray, List.set_cons_zero, List.set_cons_succ, i64_w, i32_w]
                  rfl
                refine take_ (i := 3) (N := some 20) (v := ?_) (a' := ?_) #[true, true, true, true, true, true, true, false, false, false] rfl rfl (take_ofW HT_.out HW_.out (by kernel_rfl)) (fun _ _ _ h => h) (Or.inl ⟨by rfl, ?_⟩) hHeld ?_ ?_
                rotate_left
                · rintro w' ⟨s0, s1, s2, s3, s4, s5, s6, s7, s8, s9, s10, s11, s12, s13⟩
                  first | (refine Eq.trans (run_execOp_load 40 _ (by rfl) _ (by rfl) _ _ Try.underlying40 rfl (by kernel_rfl) (ee_7 s0 s1 s2 s3 s4 s5 s6)) ?_; with_reducible rfl) | (refine Eq.trans (run_execOp_load 40 _ (by rfl) _ (by rfl) _ _ Try.underlying40 rfl (by kernel_rfl) (ee_7 s7 s8 s9 s10 s11 s12 s13)) ?_; with_reducible rfl) | (go_simp; with_reducible rfl)
                rotate_left
                · simp only [Act.put, List.setIfInBounds_toArray, List.set_cons_zero, List.set_cons_succ, i64_w, i32_w]
                  rfl
                refine take_ (i := 7) (N := some 24) (v := ?_) (a' := ?_) #[true, true, true, true, true, true, true, true, false, false] rfl rfl (take_ofW HT_.out HW_.out (by kernel_rfl)) (fun _ _ _ h => h) (Or.inl ⟨by rfl, ?_⟩) hHeld ?_ ?_
                rotate_left
                · rintro w' ⟨s0, s1, s2, s3, s4, s5, s6, s7, s8, s9, s10, s11, s12, s13⟩
                  first | (refine Eq.trans (run_execOp_load 40 _ (by rfl) _ (by rfl) _ _ Try.underlying40 rfl (by kernel_rfl) (ee_7 s0 s1 s2 s3 s4 s5 s6)) ?_; with_reducible rfl) | (refine Eq.trans (run_execOp_load 40 _ (by rfl) _ (by rfl) _ _ Try.underlying40 rfl (by kernel_rfl) (ee_7 s7 s8 s9 s10 s11 s12 s13)) ?_; with_reducible rfl) | (go_simp; with_reducible rfl)
                rotate_left
                · simp only [Act.put, List.setIfInBounds_toArray, List.set_cons_zero, List.set_cons_succ, i64_w, i32_w]
                  rfl
                refine one_ (i := 8) (N := some 25) #[true, true, true, true, true, true, true, true, true, false] rfl rfl (one_of HT_.out (by kernel_rfl)) (by decide) (fun K hK => ?_)
                refine goes_ Try.func110 (by kernel_rfl) rfl #[.agg #[.int .i64 ((rd_T40 l0 x5_1).f0), .int .i64 ((rd_T40 l0 x5_1).f1), .int .i64 ((rd_T40 l0 x5_1).f2), .int .i64 ((rd_T40 l0 x5_1).f3), .int .i64 ((rd_T40 l0 x5_1).f4), .int .i64 ((rd_T40 l0 x5_1).f5), .bool ((rd_T40 l0 x5_1).f6)], .agg #[.int .i64 ((rd_T40 l1 x5_1).f0), .int .i64 ((rd_T40 l1 x5_1).f1), .int .i64 ((rd_T40 l1 x5_1).f2), .int .i64 ((rd_T40 l1 x5_1).f3), .int .i64 ((rd_T40 l1 x5_1).f4), .int .i64 ((rd_T40 l1 x5_1).f5), .bool ((rd_T40 l1 x5_1).f6)]] (by rfl) rfl rfl (by (try simp only [List.map_toArray, List.map_cons, List.map_nil]); first | done | rfl | (simp only [List.length_drop, List.length_take]; rfl)) ?_
                with_reducible refine (laws_eqEvent.calls ((rd_T40 l0 x5_1).f0) ((rd_T40 l0 x5_1).f1) ((rd_T40 l0 x5_1).f2) ((rd_T40 l0 x5_1).f3) ((rd_T40 l0 x5_1).f4) ((rd_T40 l0 x5_1).f5) ((rd_T40 l0 x5_1).f6) ((rd_T40 l1 x5_1).f0) ((rd_T40 l1 x5_1).f1) ((rd_T40 l1 x5_1).f2) ((rd_T40 l1 x5_1).f3) ((rd_T40 l1 x5_1).f4) ((rd_T40 l1 x5_1).f5) ((rd_T40 l1 x5_1).f6) false _ A7.out).mono ?_
                rintro e w12 ⟨rfl, hb⟩
                refine ⟨_, rfl, ?_⟩
                have n0_ := Aside0.mk (below_step (by repeat (first | (with_reducible first | exact HB.out | apply below_alloc | apply pw_below_drewN | apply below_drew1) | exact HB.out)) hb)
                clear HB
                have HB := n0_
                clear n0_
                (try clear hb)
                (try clear hb2)
                (try clear hk)
                (try clear hi)
                refine hK.out _ _ ⟨((HB.out.cell (World.block_lt_of_cell? w _ hw200_0)).trans hw200_0), ((HB.out.cell (World.block_lt_of_cell? w _ hw200_1)).trans hw200_1), ((HB.out.cell (World.block_lt_of_cell? w _ hw200_2)).trans hw200_2), ((HB.out.cell (World.block_lt_of_cell? w _ hw200_3)).trans hw200_3), ((HB.out.cell (World.block_lt_of_cell? w _ hw200_4)).trans hw200_4), ((HB.out.cell (World.block_lt_of_cell? w _ hw200_5)).trans hw200_5), ((HB.out.cell (World.block_lt_of_cell? w _ hw200_6)).trans hw200_6), ((HB.out.cell (World.block_lt_of_cell? w _ hw201_0)).trans hw201_0), ((HB.out.cell (World.block_lt_of_cell? w _ hw201_1)).trans hw201_1), ((HB.out.cell (World.block_lt_of_cell? w _ hw201_2)).trans hw201_2), ((HB.out.cell (World.block_lt_of_cell? w _ hw201_3)).trans hw201_3), ((HB.out.cell (World.block_lt_of_cell? w _ hw201_4)).trans hw201_4), ((HB.out.cell (World.block_lt_of_cell? w _ hw201_5)).trans hw201_5), ((HB.out.cell (World.block_lt_of_cell? w _ hw201_6)).trans hw201_6)⟩ (fun hHeld => ?_)
                clear hK K
                refine norm_ (a' := ?_) ?_ ?_
                rotate_left
                · show Act.put _ (some 25) _ = _
                  simp only [Act.put, List.setIfInBounds_toArray, List.set_cons_zero, List.set_cons_succ, i64_w, i32_w]
                  rfl
                refine pure_ (i := 9) (N := some 26) (v := ?_) (a' := ?_) #[true, true, true, true, true, true, true, true, true, true] rfl rfl (any_of HT_.out (by kernel_rfl)) (fun _ _ _ h => h) (Or.inl ⟨by rfl, ?_⟩) ?_ ?_
                rotate_left
                · intro w'
                  go_simp
                  with_reducible rfl
                rotate_left
                · simp only [Act.put, List.setIfInBounds_toArray, List.set_cons_zero, List.set_cons_succ, i64_w, i32_w]
                  rfl
                refine done_ (done_of HT_.out (by kernel_rfl)) ?_
                try go_wp2_with (first | ((with_reducible refine gate_load (t := 40) rfl ?_); refine load_at rfl 40 _ rfl _ rfl _ _ Try.underlying40 rfl (by kernel_rfl) (ee_7 hx200_0 hx200_1 hx200_2 hx200_3 hx200_4 hx200_5 hx200_6) ?_) | ((with_reducible refine gate_load (t := 40) rfl ?_); refine load_at rfl 40 _ rfl _ rfl _ _ Try.underlying40 rfl (by kernel_rfl) (ee_7 hx201_0 hx201_1 hx201_2 hx201_3 hx201_4 hx201_5 hx201_6) ?_))
                go_ret
                exact ⟨by first | rfl | (simp [errW_none, errW_some] <;> rfl) | (simp [*, errW_none, errW_some] <;> rfl), by repeat (first | (with_reducible first | exact HB.out | apply below_alloc | apply pw_below_drewN | apply below_drew1) | exact HB.out)⟩
            · rw [if_neg c6] at H
              exact absurd H (by simp)
          · rw [if_neg c5] at H
            exact absurd H (by simp)
        · rw [if_neg c4] at H
          have c4b0 : decide (x5_1 < (l0.length : Int)) = false := decide_eq_false c4
          clear c4
          obtain rfl := Option.some.inj H
          go_wp2
          go_ret
          exact ⟨by first | rfl | (simp [errW_none, errW_some] <;> rfl) | (simp [*, errW_none, errW_some] <;> rfl), by repeat (first | (with_reducible first | exact HB.out | apply below_alloc | apply pw_below_drewN | apply below_drew1) | exact HB.out)⟩
  · rw [if_neg c3] at H
    have c3b0 : ((l0.length : Int) == (l1.length : Int)) = false := beq_eq_false_iff_ne.mpr c3
    have c3b1 : ((l0.length : Int) != (l1.length : Int)) = true := bne_iff_ne.mpr c3
    have c3b2 : (l0.length == l1.length) = false := by first | simpa using c3 | (simp at c3 ⊢; omega)
    obtain rfl := Option.some.inj H
    go_enter Try.func70, Try.ntmps70
    go_wp2
    go_ret
    exact ⟨by first | rfl | (simp [errW_none, errW_some] <;> rfl) | (simp [*, errW_none, errW_some] <;> rfl), by repeat (first | (with_reducible first | exact HB.out | apply below_alloc | apply pw_below_drewN | apply below_drew1) | exact HB.out)⟩

/-! ### laws_eqAct: function 88 -/
def laws_eqAct.f (k : Nat) (a0_0 : Int) (a0_1 : Int) (a0_2 : Int) (a0_3 : Int) (a0_4 : Int) (a0_5 : Bool) (l0_6 : List (S40)) (a1_0 : Int) (a1_1 : Int) (a1_2 : Int) (a1_3 : Int) (a1_4 : Int) (a1_5 : Bool) (l1_6 : List (S40)) : Option (Bool) := if a0_0 = a1_0 then (if a0_1 = a1_1 then (if a0_2 = a1_2 then (if a0_3 = a1_3 then (if a0_4 = a1_4 then (if (a0_5 != a1_5) = true then (some false) else ((laws_eqEventS.f k l0_6 l1_6).bind fun t205 => (if t205 = true then (some true) else (some false)))) else (some false)) else (some false)) else (some false)) else (some false)) else (some false)
theorem laws_eqAct.mono : ∀ a0 a1 a2 a3 a4 a5 a6 a7 a8 a9 a10 a11 a12 a13 k, LeO (laws_eqAct.f k a0 a1 a2 a3 a4 a5 a6 a7 a8 a9 a10 a11 a12 a13) (laws_eqAct.f (k + 1) a0 a1 a2 a3 a4 a5 a6 a7 a8 a9 a10 a11 a12 a13) := by
  intro a0 a1 a2 a3 a4 a5 a6 a7 a8 a9 a10 a11 a12 a13 k
  unfold laws_eqAct.f
  repeat' first
      | (with_reducible exact laws_eqEventS.mono _ _ _)
      | (with_reducible exact LeO.refl _)
      | (with_reducible exact LeO.none _)
      | (with_reducible refine LeO.ite ?_ ?_)
      | (with_reducible refine LeO.bind ?_ (fun _ => ?_))
      | exact laws_eqEventS.mono _ _ _
      | exact LeO.none _
      | refine LeO.ite ?_ ?_
      | refine LeO.bind ?_ (fun _ => ?_)
set_option maxHeartbeats 8000000 in
set_option maxRecDepth 100000 in
theorem laws_eqAct.calls (k : Nat) (a0_0 : Int) (a0_1 : Int) (a0_2 : Int) (a0_3 : Int) (a0_4 : Int) (a0_5 : Bool) (A0_6 : Option Addr) (c0_6 : Nat) (l0_6 : List (S40)) (a1_0 : Int) (a1_1 : Int) (a1_2 : Int) (a1_3 : Int) (a1_4 : Int) (a1_5 : Bool) (A1_6 : Option Addr) (c1_6 : Nat) (l1_6 : List (S40)) (r : Bool) (w : World) (hr0_6 : Kd.C k40 w A0_6 l0_6.length l0_6) (hc0_6 : l0_6.length ≤ c0_6) (hr1_6 : Kd.C k40 w A1_6 l1_6.length l1_6) (hc1_6 : l1_6.length ≤ c1_6) (h : laws_eqAct.f k a0_0 a0_1 a0_2 a0_3 a0_4 a0_5 l0_6 a1_0 a1_1 a1_2 a1_3 a1_4 a1_5 l1_6 = some r) :
    Calls Try.prog 88 #[.agg #[.int .i64 a0_0, .int .i64 a0_1, .int .i64 a0_2, .int .i64 a0_3, .int .i64 a0_4, .bool a0_5, .slice A0_6 l0_6.length c0_6], .agg #[.int .i64 a1_0, .int .i64 a1_1, .int .i64 a1_2, .int .i64 a1_3, .int .i64 a1_4, .bool a1_5, .slice A1_6 l1_6.length c1_6]] w fun e w' => e = .returned (.bool r) ∧ Below w.heap.size w w' := by
  have hu61 := Try.underlying61
  have HR0_6 := Aside0.mk hr0_6
  have HC0_6 := Aside0.mk hc0_6
  clear hr0_6 hc0_6
  have HR1_6 := Aside0.mk hr1_6
  have HC1_6 := Aside0.mk hc1_6
  clear hr1_6 hc1_6
  have HB := Aside0.mk (Below.refl w.heap.size w)
  have H : (if a0_0 = a1_0 then (if a0_1 = a1_1 then (if a0_2 = a1_2 then (if a0_3 = a1_3 then (if a0_4 = a1_4 then (if (a0_5 != a1_5) = true then (some false) else ((laws_eqEventS.f k l0_6 l1_6).bind fun t205 => (if t205 = true then (some true) else (some false)))) else (some false)) else (some false)) else (some false)) else (some false)) else (some false)) = some r := h
  clear h
  by_cases c3 : a0_0 = a1_0
  · rw [if_pos c3] at H
    have c3b0 : (a0_0 == a1_0) = true := beq_iff_eq.mpr c3
    have c3b1 : (a0_0 != a1_0) = false := bne_eq_false_iff_eq.mpr c3
    clear c3
    by_cases c4 : a0_1 = a1_1
    · rw [if_pos c4] at H
      have c4b0 : (a0_1 == a1_1) = true := beq_iff_eq.mpr c4
      have c4b1 : (a0_1 != a1_1) = false := bne_eq_false_iff_eq.mpr c4
      clear c4
      by_cases c5 : a0_2 = a1_2
      · rw [if_pos c5] at H
        have c5b0 : (a0_2 == a1_2) = true := beq_iff_eq.mpr c5
        have c5b1 : (a0_2 != a1_2) = false := bne_eq_false_iff_eq.mpr c5
        clear c5
        by_cases c6 : a0_3 = a1_3
        · rw [if_pos c6] at H
          have c6b0 : (a0_3 == a1_3) = true := beq_iff_eq.mpr c6
          have c6b1 : (a0_3 != a1_3) = false := bne_eq_false_iff_eq.mpr c6
          clear c6
          by_cases c7 : a0_4 = a1_4
          · rw [if_pos c7] at H
            have c7b0 : (a0_4 == a1_4) = true := beq_iff_eq.mpr c7
            have c7b1 : (a0_4 != a1_4) = false := bne_eq_false_iff_eq.mpr c7
            clear c7
            by_cases c8 : (a0_5 != a1_5) = true
            · rw [if_pos c8] at H
              have c8b0 : (a0_5 != a1_5) = true := c8
              (try (have c8b1 : decide (a0_5 = a1_5) = false := by simpa using c8))
              (try (have c8b2 : (a0_5 == a1_5) = false := by simpa using c8))
              (try (have c8b3 : ¬ (a0_5 = a1_5) := by simpa using c8))
              clear c8
              obtain rfl := Option.some.inj H
              go_enter Try.func88, Try.ntmps88
              go_wp2_with (first | ((with_reducible refine gate_load (t := 3) rfl ?_); refine bx_load rfl _ (by rfl) gb203 _ (by rfl) BK203.out _ Try.underlying3 rfl _ (by rfl) ?_) | ((with_reducible refine gate_load (t := 4) rfl ?_); refine bx_load rfl _ (by rfl) gb203 _ (by rfl) BK203.out _ Try.underlying4 rfl _ (by rfl) ?_) | ((with_reducible refine gate_load (t := 59) rfl ?_); refine bx_load rfl _ (by rfl) gb203 _ (by rfl) BK203.out _ Try.underlying59 rfl _ (by rfl) ?_) | ((with_reducible refine gate_load (t := 61) rfl ?_); refine load_box rfl 61 _ rfl gb203 rfl Try.underlying61 rfl BK203.out (by kernel_rfl) ?_) | ((with_reducible refine gate_load (t := 3) rfl ?_); refine bx_load rfl _ (by rfl) gb204 _ (by rfl) BK204.out _ Try.underlying3 rfl _ (by rfl) ?_) | ((with_reducible refine gate_load (t := 4) rfl ?_); refine bx_load rfl _ (by rfl) gb204 _ (by rfl) BK204.out _ Try.underlying4 rfl _ (by rfl) ?_) | ((with_reducible refine gate_load (t := 59) rfl ?_); refine bx_load rfl _ (by rfl) gb204 _ (by rfl) BK204.out _ Try.underlying59 rfl _ (by rfl) ?_) | ((with_reducible refine gate_load (t := 61) rfl ?_); refine load_box rfl 61 _ rfl gb204 rfl Try.underlying61 rfl BK204.out (by kernel_rfl) ?_) | ((with_reducible refine gate_st (t := 61) rfl ?_); refine bx_store rfl rfl _ _ (by rfl) gb203 0 (by rfl) BK203.out _ (by rfl) (by kernel_rfl) (by exact Nat.le_of_ble_eq_true rfl) (by exact oo_7 rfl rfl rfl rfl rfl rfl rfl) ?_; intro w_ hbk_ hg_; simp only [List.take_succ_cons, List.take_zero, List.drop_succ_cons, List.drop_zero, List.cons_append, List.nil_append, List.length_cons, List.length_nil, Nat.reduceAdd] at hbk_; have hlt_ := blk_lt BK203.out; (try (have nc_ := Aside0.mk (bx_other BK204.out hg_ NB204_203.out); clear BK204; have BK204 := nc_; clear nc_)); have nb_ := Aside0.mk hbk_; have nh_ := Aside0.mk (bx_below HB.out hg_ GE203.out hlt_); clear BK203 HB; have BK203 := nb_; have HB := nh_; clear nb_ nh_ hbk_ hg_ hlt_) | ((with_reducible refine gate_st (t := 61) rfl ?_); refine bx_store rfl rfl _ _ (by rfl) gb204 0 (by rfl) BK204.out _ (by rfl) (by kernel_rfl) (by exact Nat.le_of_ble_eq_true rfl) (by exact oo_7 rfl rfl rfl rfl rfl rfl rfl) ?_; intro w_ hbk_ hg_; simp only [List.take_succ_cons, List.take_zero, List.drop_succ_cons, List.drop_zero, List.cons_append, List.nil_append, List.length_cons, List.length_nil, Nat.reduceAdd] at hbk_; have hlt_ := blk_lt BK204.out; (try (have nc_ := Aside0.mk (bx_other BK203.out hg_ NB203_204.out); clear BK203; have BK203 := nc_; clear nc_)); have nb_ := Aside0.mk hbk_; have nh_ := Aside0.mk (bx_below HB.out hg_ GE204.out hlt_); clear BK204 HB; have BK204 := nb_; have HB := nh_; clear nb_ nh_ hbk_ hg_ hlt_) | ((with_reducible refine gate_dst (N := 2) rfl ?_); refine box_event ?hg (N := 2) ?hd (cs := #[.int .i64 a0_0, .int .i64 a0_1, .int .i64 a0_2, .int .i64 a0_3, .int .i64 a0_4, .bool a0_5, .slice A0_6 l0_6.length c0_6]) (t := 61) ?hr ?_; (case hd => rfl); (case hg => rfl); (case hr => first | (go_simp; done) | (go_simp; rfl)); intro gb203 hg w9 hbox hb; have n0_ := Aside0.mk (below_step (by repeat (first | (with_reducible first | exact HB.out | apply below_alloc | apply pw_below_drewN | apply below_drew1) | exact HB.out)) hb); have n1_ := Aside0.mk (hbox); have n2_ := Aside0.mk ((by rw [hg]; exact (below_size (by repeat (first | (with_reducible first | exact HB.out | apply below_alloc | apply pw_below_drewN | apply below_drew1) | exact HB.out))) : w.heap.size ≤ gb203)); have n3_ := n2_; clear HB; have HB := n0_; have BK203 := n1_; have GW203 := n2_; have GE203 := n3_; clear n0_ n1_ n2_ n3_; clear hb hbox hg) | ((with_reducible refine gate_dst (N := 3) rfl ?_); refine box_event ?hg (N := 3) ?hd (cs := #[.int .i64 a1_0, .int .i64 a1_1, .int .i64 a1_2, .int .i64 a1_3, .int .i64 a1_4, .bool a1_5, .slice A1_6 l1_6.length c1_6]) (t := 61) ?hr ?_; (case hd => rfl); (case hg => rfl); (case hr => first | (go_simp; done) | (go_simp; rfl)); intro gb204 hg w10 hbox hb; have n0_ := Aside0.mk (blk_below BK203.out hb); have n1_ := Aside0.mk (below_step (by repeat (first | (with_reducible first | exact HB.out | apply below_alloc | apply pw_below_drewN | apply below_drew1 | refine below_set ?_ GE203.out) | exact HB.out)) hb); have n2_ := Aside0.mk (hbox); have n3_ := Aside0.mk ((by rw [hg]; exact (below_size (by repeat (first | (with_reducible first | exact HB.out | apply below_alloc | apply pw_below_drewN | apply below_drew1 | refine below_set ?_ GE203.out) | exact HB.out))) : w.heap.size ≤ gb204)); have n4_ := n3_; have n5_ := Aside0.mk ((by rw [hg]; exact Nat.ne_of_lt (blk_lt BK203.out) : gb203 ≠ gb204)); have n6_ := Aside0.mk ((by rw [hg]; exact Nat.ne_of_gt (blk_lt BK203.out) : gb204 ≠ gb203)); clear BK203; clear HB; have BK203 := n0_; have HB := n1_; have BK204 := n2_; have GW204 := n3_; have GE204 := n4_; have NB203_204 := n5_; have NB204_203 := n6_; clear n0_ n1_ n2_ n3_ n4_ n5_ n6_; clear hb hbox hg))  -- boxed
              go_ret
              exact ⟨by first | rfl | (simp [errW_none, errW_some] <;> rfl) | (simp [*, errW_none, errW_some] <;> rfl), by repeat (first | (with_reducible first | exact HB.out | apply below_alloc | apply pw_below_drewN | apply below_drew1 | refine below_set ?_ GE203.out | refine below_set ?_ GE204.out) | exact HB.out)⟩
            · rw [if_neg c8] at H
              have c8b0 : (a0_5 != a1_5) = false := by simpa using c8
              (try (have c8b1 : decide (a0_5 = a1_5) = true := by simpa using c8))
              (try (have c8b2 : (a0_5 == a1_5) = true := by simpa using c8))
              clear c8
              replace H := Option.bind_eq_some_iff.mp H
              obtain ⟨t205, A140, H⟩ := H
              replace H : (if t205 = true then (some true) else (some false)) = some r := H
              have A14 := Aside0.mk A140
              clear A140
              by_cases c15 : t205 = true
              · subst c15
                have H1 : (some true) = some r := by rw [if_pos rfl] at H; exact H
                clear H
                have H := H1
                clear H1
                obtain rfl := Option.some.inj H
                go_enter Try.func88, Try.ntmps88
                go_wp2_with (first | ((with_reducible refine gate_load (t := 61) rfl ?_); refine load_box rfl 61 _ rfl gb203 rfl Try.underlying61 rfl (by (with_reducible repeat (first | refine blk_drewN ?_ _ | refine blk_drew ?_ | refine blk_alloc ?_ _)); with_reducible exact BK203.out) (by kernel_rfl) ?_) | ((with_reducible refine gate_load (t := 61) rfl ?_); refine load_box rfl 61 _ rfl gb204 rfl Try.underlying61 rfl (by (with_reducible repeat (first | refine blk_drewN ?_ _ | refine blk_drew ?_ | refine blk_alloc ?_ _)); with_reducible exact BK204.out) (by kernel_rfl) ?_) | ((with_reducible refine gate_dst (N := 2) rfl ?_); refine box_event ?hg (N := 2) ?hd (cs := #[.int .i64 a0_0, .int .i64 a0_1, .int .i64 a0_2, .int .i64 a0_3, .int .i64 a0_4, .bool a0_5, .slice A0_6 l0_6.length c0_6]) (t := 61) ?hr ?_; (case hd => rfl); (case hg => rfl); (case hr => first | (go_simp; done) | (go_simp; rfl)); intro gb203 hg w16 hbox hb; have n0_ := Aside0.mk (below_step (by repeat (first | (with_reducible first | exact HB.out | apply below_alloc | apply pw_below_drewN | apply below_drew1) | exact HB.out)) hb); have n1_ := Aside0.mk (hbox); have n2_ := Aside0.mk ((by rw [hg]; exact (below_size (by repeat (first | (with_reducible first | exact HB.out | apply below_alloc | apply pw_below_drewN | apply below_drew1) | exact HB.out))) : w.heap.size ≤ gb203)); have n3_ := n2_; clear HB; have HB := n0_; have BK203 := n1_; have GW203 := n2_; have GE203 := n3_; clear n0_ n1_ n2_ n3_; clear hb hbox hg) | ((with_reducible refine gate_dst (N := 3) rfl ?_); refine box_event ?hg (N := 3) ?hd (cs := #[.int .i64 a1_0, .int .i64 a1_1, .int .i64 a1_2, .int .i64 a1_3, .int .i64 a1_4, .bool a1_5, .slice A1_6 l1_6.length c1_6]) (t := 61) ?hr ?_; (case hd => rfl); (case hg => rfl); (case hr => first | (go_simp; done) | (go_simp; rfl)); intro gb204 hg w17 hbox hb; have n0_ := Aside0.mk (blk_below (by (with_reducible repeat (first | refine blk_drewN ?_ _ | refine blk_drew ?_ | refine blk_alloc ?_ _)); exact BK203.out) hb); have n1_ := Aside0.mk (below_step (by repeat (first | (with_reducible first | exact HB.out | apply below_alloc | apply pw_below_drewN | apply below_drew1 | refine below_set ?_ GE203.out) | exact HB.out)) hb); have n2_ := Aside0.mk (hbox); have n3_ := Aside0.mk ((by rw [hg]; exact (below_size (by repeat (first | (with_reducible first | exact HB.out | apply below_alloc | apply pw_below_drewN | apply below_drew1 | refine below_set ?_ GE203.out) | exact HB.out))) : w.heap.size ≤ gb204)); have n4_ := n3_; have n5_ := Aside0.mk ((by rw [hg]; exact Nat.ne_of_lt (blk_lt (by (with_reducible repeat (first | refine blk_drewN ?_ _ | refine blk_drew ?_ | refine blk_alloc ?_ _)); exact BK203.out)) : gb203 ≠ gb204)); have n6_ := Aside0.mk ((by rw [hg]; exact Nat.ne_of_gt (blk_lt (by (with_reducible repeat (first | refine blk_drewN ?_ _ | refine blk_drew ?_ | refine blk_alloc ?_ _)); exact BK203.out)) : gb204 ≠ gb203)); clear BK203; clear HB; have BK203 := n0_; have HB := n1_; have BK204 := n2_; have GW204 := n3_; have GE204 := n4_; have NB203_204 := n5_; have NB204_203 := n6_; clear n0_ n1_ n2_ n3_ n4_ n5_ n6_; clear hb hbox hg; have hnb18 := NB203_204.out; have hnc18 := NB204_203.out; obtain ⟨hcz19_0, hcz19_1, hcz19_2, hcz19_3, hcz19_4, hcz19_5, hcz19_6⟩ := cc_7 BK203.out; obtain ⟨hfz19_0, hfz19_1, hfz19_2, hfz19_3, hfz19_4, hfz19_5, hfz19_6⟩ := ff_7 BK203.out; obtain ⟨hcz20_0, hcz20_1, hcz20_2, hcz20_3, hcz20_4, hcz20_5, hcz20_6⟩ := cc_7 BK204.out; obtain ⟨hfz20_0, hfz20_1, hfz20_2, hfz20_3, hfz20_4, hfz20_5⟩ := ff_6 BK204.out; have hfz20_6 := blk_frozen BK204.out 6) | ((with_reducible refine gate_callee (f := 70) rfl ?_); refine goesL_ (some 39) rfl rfl Try.func70 (by kernel_rfl) rfl #[.slice A0_6 l0_6.length c0_6, .slice A1_6 l1_6.length c1_6] rfl (by (try simp only [List.map_toArray, List.map_cons, List.map_nil]); first | done | rfl | (simp only [List.length_drop, List.length_take]; rfl)) ?_; (with_reducible refine (laws_eqEventS.calls k _ _ l0_6 _ _ l1_6 true _ ?side1 ?side2 ?side3 ?side4 A14.out).mono ?_); (case side1 => repeat (first | exact (Kd.C_below HR0_6.out HB.out) | (with_reducible refine Kd.C_alloc ?_ _) | (with_reducible refine Kd.C_drewN ?_ _) | (with_reducible refine Kd.C_drew ?_))); (case side2 => exact HC0_6.out); (case side3 => repeat (first | exact (Kd.C_below HR1_6.out HB.out) | (with_reducible refine Kd.C_alloc ?_ _) | (with_reducible refine Kd.C_drewN ?_ _) | (with_reducible refine Kd.C_drew ?_))); (case side4 => exact HC1_6.out); rintro e w21 ⟨rfl, hb⟩; refine ⟨_, rfl, ?_⟩; have n0_ := Aside0.mk (blk_below (by (with_reducible repeat (first | refine blk_drewN ?_ _ | refine blk_drew ?_ | refine blk_alloc ?_ _)); exact BK203.out) hb); have n1_ := Aside0.mk (blk_below (by (with_reducible repeat (first | refine blk_drewN ?_ _ | refine blk_drew ?_ | refine blk_alloc ?_ _)); exact BK204.out) hb); have n2_ := Aside0.mk (below_step (by repeat (first | (with_reducible first | exact HB.out | apply below_alloc | apply pw_below_drewN | apply below_drew1 | refine below_set ?_ GE203.out | refine below_set ?_ GE204.out) | exact HB.out)) hb); clear BK203; clear BK204; clear HB; have BK203 := n0_; have BK204 := n1_; have HB := n2_; clear n0_ n1_ n2_; (try clear hb); (try clear hb2); (try clear hk); (try clear hi)))
                go_ret
                exact ⟨by first | rfl | (simp [errW_none, errW_some] <;> rfl) | (simp [*, errW_none, errW_some] <;> rfl), by repeat (first | (with_reducible first | exact HB.out | apply below_alloc | apply pw_below_drewN | apply below_drew1 | refine below_set ?_ GE203.out | refine below_set ?_ GE204.out) | exact HB.out)⟩
              · replace c15 := Bool.eq_false_iff.mpr c15
                subst c15
                have H1 : (some false) = some r := by rw [if_neg (show ¬ (false = true) by decide)] at H; exact H
                clear H
                have H := H1
                clear H1
                obtain rfl := Option.some.inj H
                go_enter Try.func88, Try.ntmps88
                go_wp2_with (first | ((with_reducible refine gate_load (t := 61) rfl ?_); refine load_box rfl 61 _ rfl gb203 rfl Try.underlying61 rfl (by (with_reducible repeat (first | refine blk_drewN ?_ _ | refine blk_drew ?_ | refine blk_alloc ?_ _)); with_reducible exact BK203.out) (by kernel_rfl) ?_) | ((with_reducible refine gate_load (t := 61) rfl ?_); refine load_box rfl 61 _ rfl gb204 rfl Try.underlying61 rfl (by (with_reducible repeat (first | refine blk_drewN ?_ _ | refine blk_drew ?_ | refine blk_alloc ?_ _)); with_reducible exact BK204.out) (by kernel_rfl) ?_) | ((with_reducible refine gate_dst (N := 2) rfl ?_); refine box_event ?hg (N := 2) ?hd (cs := #[.int .i64 a0_0, .int .i64 a0_1, .int .i64 a0_2, .int .i64 a0_3, .int .i64 a0_4, .bool a0_5, .slice A0_6 l0_6.length c0_6]) (t := 61) ?hr ?_; (case hd => rfl); (case hg => rfl); (case hr => first | (go_simp; done) | (go_simp; rfl)); intro gb203 hg w22 hbox hb; have n0_ := Aside0.mk (below_step (by repeat (first | (with_reducible first | exact HB.out | apply below_alloc | apply pw_below_drewN | apply below_drew1) | exact HB.out)) hb); have n1_ := Aside0.mk (hbox); have n2_ := Aside0.mk ((by rw [hg]; exact (below_size (by repeat (first | (with_reducible first | exact HB.out | apply below_alloc | apply pw_below_drewN | apply below_drew1) | exact HB.out))) : w.heap.size ≤ gb203)); have n3_ := n2_; clear HB; have HB := n0_; have BK203 := n1_; have GW203 := n2_; have GE203 := n3_; clear n0_ n1_ n2_ n3_; clear hb hbox hg) | ((with_reducible refine gate_dst (N := 3) rfl ?_); refine box_event ?hg (N := 3) ?hd (cs := #[.int .i64 a1_0, .int .i64 a1_1, .int .i64 a1_2, .int .i64 a1_3, .int .i64 a1_4, .bool a1_5, .slice A1_6 l1_6.length c1_6]) (t := 61) ?hr ?_; (case hd => rfl); (case hg => rfl); (case hr => first | (go_simp; done) | (go_simp; rfl)); intro gb204 hg w23 hbox hb; have n0_ := Aside0.mk (blk_below (by (with_reducible repeat (first | refine blk_drewN ?_ _ | refine blk_drew ?_ | refine blk_alloc ?_ _)); exact BK203.out) hb); have n1_ := Aside0.mk (below_step (by repeat (first | (with_reducible first | exact HB.out | apply below_alloc | apply pw_below_drewN | apply below_drew1 | refine below_set ?_ GE203.out) | exact HB.out)) hb); have n2_ := Aside0.mk (hbox); have n3_ := Aside0.mk ((by rw [hg]; exact (below_size (by repeat (first | (with_reducible first | exact HB.out | apply below_alloc | apply pw_below_drewN | apply below_drew1 | refine below_set ?_ GE203.out) | exact HB.out))) : w.heap.size ≤ gb204)); have n4_ := n3_; have n5_ := Aside0.mk ((by rw [hg]; exact Nat.ne_of_lt (blk_lt (by (with_reducible repeat (first | refine blk_drewN ?_ _ | refine blk_drew ?_ | refine blk_alloc ?_ _)); exact BK203.out)) : gb203 ≠ gb204)); have n6_ := Aside0.mk ((by rw [hg]; exact Nat.ne_of_gt (blk_lt (by (with_reducible repeat (first | refine blk_drewN ?_ _ | refine blk_drew ?_ | refine blk_alloc ?_ _)); exact BK203.out)) : gb204 ≠ gb203)); clear BK203; clear HB; have BK203 := n0_; have HB := n1_; have BK204 := n2_; have GW204 := n3_; have GE204 := n4_; have NB203_204 := n5_; have NB204_203 := n6_; clear n0_ n1_ n2_ n3_ n4_ n5_ n6_; clear hb hbox hg; have hnb24 := NB203_204.out; have hnc24 := NB204_203.out; obtain ⟨hcz25_0, hcz25_1, hcz25_2, hcz25_3, hcz25_4, hcz25_5, hcz25_6⟩ := cc_7 BK203.out; obtain ⟨hfz25_0, hfz25_1, hfz25_2, hfz25_3, hfz25_4, hfz25_5, hfz25_6⟩ := ff_7 BK203.out; obtain ⟨hcz26_0, hcz26_1, hcz26_2, hcz26_3, hcz26_4, hcz26_5, hcz26_6⟩ := cc_7 BK204.out; obtain ⟨hfz26_0, hfz26_1, hfz26_2, hfz26_3, hfz26_4, hfz26_5⟩ := ff_6 BK204.out; have hfz26_6 := blk_frozen BK204.out 6) | ((with_reducible refine gate_callee (f := 70) rfl ?_); refine goesL_ (some 39) rfl rfl Try.func70 (by kernel_rfl) rfl #[.slice A0_6 l0_6.length c0_6, .slice A1_6 l1_6.length c1_6] rfl (by (try simp only [List.map_toArray, List.map_cons, List.map_nil]); first | done | rfl | (simp only [List.length_drop, List.length_take]; rfl)) ?_; (with_reducible refine (laws_eqEventS.calls k _ _ l0_6 _ _ l1_6 false _ ?side1 ?side2 ?side3 ?side4 A14.out).mono ?_); (case side1 => repeat (first | exact (Kd.C_below HR0_6.out HB.out) | (with_reducible refine Kd.C_alloc ?_ _) | (with_reducible refine Kd.C_drewN ?_ _) | (with_reducible refine Kd.C_drew ?_))); (case side2 => exact HC0_6.out); (case side3 => repeat (first | exact (Kd.C_below HR1_6.out HB.out) | (with_reducible refine Kd.C_alloc ?_ _) | (with_reducible refine Kd.C_drewN ?_ _) | (with_reducible refine Kd.C_drew ?_))); (case side4 => exact HC1_6.out); rintro e w27 ⟨rfl, hb⟩; refine ⟨_, rfl, ?_⟩; have n0_ := Aside0.mk (blk_below (by (with_reducible repeat (first | refine blk_drewN ?_ _ | refine blk_drew ?_ | refine blk_alloc ?_ _)); exact BK203.out) hb); have n1_ := Aside0.mk (blk_below (by (with_reducible repeat (first | refine blk_drewN ?_ _ | refine blk_drew ?_ | refine blk_alloc ?_ _)); exact BK204.out) hb); have n2_ := Aside0.mk (below_step (by repeat (first | (with_reducible first | exact HB.out | apply below_alloc | apply pw_below_drewN | apply below_drew1 | refine below_set ?_ GE203.out | refine below_set ?_ GE204.out) | exact HB.out)) hb); clear BK203; clear BK204; clear HB; have BK203 := n0_; have BK204 := n1_; have HB := n2_; clear n0_ n1_ n2_; (try clear hb); (try clear hb2); (try clear hk); (try clear hi)))
                go_ret
                exact ⟨by first | rfl | (simp [errW_none, errW_some] <;> rfl) | (simp [*, errW_none, errW_some] <;> rfl), by repeat (first | (with_reducible first | exact HB.out | apply below_alloc | apply pw_below_drewN | apply below_drew1 | refine below_set ?_ GE203.out | refine below_set ?_ GE204.out) | exact HB.out)⟩
          · rw [if_neg c7] at H
            have c7b0 : (a0_4 == a1_4) = false := beq_eq_false_iff_ne.mpr c7
            have c7b1 : (a0_4 != a1_4) = true := bne_iff_ne.mpr c7
            obtain rfl := Option.some.inj H
            go_enter Try.func88, Try.ntmps88
            go_wp2_with (first | ((with_reducible refine gate_load (t := 3) rfl ?_); refine bx_load rfl _ (by rfl) gb203 _ (by rfl) BK203.out _ Try.underlying3 rfl _ (by rfl) ?_) | ((with_reducible refine gate_load (t := 4) rfl ?_); refine bx_load rfl _ (by rfl) gb203 _ (by rfl) BK203.out _ Try.underlying4 rfl _ (by rfl) ?_) | ((with_reducible refine gate_load (t := 59) rfl ?_); refine bx_load rfl _ (by rfl) gb203 _ (by rfl) BK203.out _ Try.underlying59 rfl _ (by rfl) ?_) | ((with_reducible refine gate_load (t := 61) rfl ?_); refine load_box rfl 61 _ rfl gb203 rfl Try.underlying61 rfl BK203.out (by kernel_rfl) ?_) | ((with_reducible refine gate_load (t := 3) rfl ?_); refine bx_load rfl _ (by rfl) gb204 _ (by rfl) BK204.out _ Try.underlying3 rfl _ (by rfl) ?_) | ((with_reducible refine gate_load (t := 4) rfl ?_); refine bx_load rfl _ (by rfl) gb204 _ (by rfl) BK204.out _ Try.underlying4 rfl _ (by rfl) ?_) | ((with_reducible refine gate_load (t := 59) rfl ?_); refine bx_load rfl _ (by rfl) gb204 _ (by rfl) BK204.out _ Try.underlying59 rfl _ (by rfl) ?_) | ((with_reducible refine gate_load (t := 61) rfl ?_); refine load_box rfl 61 _ rfl gb204 rfl Try.underlying61 rfl BK204.out (by kernel_rfl) ?_) | ((with_reducible refine gate_st (t := 61) rfl ?_); refine bx_store rfl rfl _ _ (by rfl) gb203 0 (by rfl) BK203.out _ (by rfl) (by kernel_rfl) (by exact Nat.le_of_ble_eq_true rfl) (by exact oo_7 rfl rfl rfl rfl rfl rfl rfl) ?_; intro w_ hbk_ hg_; simp only [List.take_succ_cons, List.take_zero, List.drop_succ_cons, List.drop_zero, List.cons_append, List.nil_append, List.length_cons, List.length_nil, Nat.reduceAdd] at hbk_; have hlt_ := blk_lt BK203.out; (try (have nc_ := Aside0.mk (bx_other BK204.out hg_ NB204_203.out); clear BK204; have BK204 := nc_; clear nc_)); have nb_ := Aside0.mk hbk_; have nh_ := Aside0.mk (bx_below HB.out hg_ GE203.out hlt_); clear BK203 HB; have BK203 := nb_; have HB := nh_; clear nb_ nh_ hbk_ hg_ hlt_) | ((with_reducible refine gate_st (t := 61) rfl ?_); refine bx_store rfl rfl _ _ (by rfl) gb204 0 (by rfl) BK204.out _ (by rfl) (by kernel_rfl) (by exact Nat.le_of_ble_eq_true rfl) (by exact oo_7 rfl rfl rfl rfl rfl rfl rfl) ?_; intro w_ hbk_ hg_; simp only [List.take_succ_cons, List.take_zero, List.drop_succ_cons, List.drop_zero, List.cons_append, List.nil_append, List.length_cons, List.length_nil, Nat.reduceAdd] at hbk_; have hlt_ := blk_lt BK204.out; (try (have nc_ := Aside0.mk (bx_other BK203.out hg_ NB203_204.out); clear BK203; have BK203 := nc_; clear nc_)); have nb_ := Aside0.mk hbk_; have nh_ := Aside0.mk (bx_below HB.out hg_ GE204.out hlt_); clear BK204 HB; have BK204 := nb_; have HB := nh_; clear nb_ nh_ hbk_ hg_ hlt_) | ((with_reducible refine gate_dst (N := 2) rfl ?_); refine box_event ?hg (N := 2) ?hd (cs := #[.int .i64 a0_0, .int .i64 a0_1, .int .i64 a0_2, .int .i64 a0_3, .int .i64 a0_4, .bool a0_5, .slice A0_6 l0_6.length c0_6]) (t := 61) ?hr ?_; (case hd => rfl); (case hg => rfl); (case hr => first | (go_simp; done) | (go_simp; rfl)); intro gb203 hg w28 hbox hb; have n0_ := Aside0.mk (below_step (by repeat (first | (with_reducible first | exact HB.out | apply below_alloc | apply pw_below_drewN | apply below_drew1) | exact HB.out)) hb); have n1_ := Aside0.mk (hbox); have n2_ := Aside0.mk ((by rw [hg]; exact (below_size (by repeat (first | (with_reducible first | exact HB.out | apply below_alloc | apply pw_below_drewN | apply below_drew1) | exact HB.out))) : w.heap.size ≤ gb203)); have n3_ := n2_; clear HB; have HB := n0_; have BK203 := n1_; have GW203 := n2_; have GE203 := n3_; clear n0_ n1_ n2_ n3_; clear hb hbox hg) | ((with_reducible refine gate_dst (N := 3) rfl ?_); refine box_event ?hg (N := 3) ?hd (cs := #[.int .i64 a1_0, .int .i64 a1_1, .int .i64 a1_2, .int .i64 a1_3, .int .i64 a1_4, .bool a1_5, .slice A1_6 l1_6.length c1_6]) (t := 61) ?hr ?_; (case hd => rfl); (case hg => rfl); (case hr => first | (go_simp; done) | (go_simp; rfl)); intro gb204 hg w29 hbox hb; have n0_ := Aside0.mk (blk_below BK203.out hb); have n1_ := Aside0.mk (below_step (by repeat (first | (with_reducible first | exact HB.out | apply below_alloc | apply pw_below_drewN | apply below_drew1 | refine below_set ?_ GE203.out) | exact HB.out)) hb); have n2_ := Aside0.mk (hbox); have n3_ := Aside0.mk ((by rw [hg]; exact (below_size (by repeat (first | (with_reducible first | exact HB.out | apply below_alloc | apply pw_below_drewN | apply below_drew1 | refine below_set ?_ GE203.out) | exact HB.out))) : w.heap.size ≤ gb204)); have n4_ := n3_; have n5_ := Aside0.mk ((by rw [hg]; exact Nat.ne_of_lt (blk_lt BK203.out) : gb203 ≠ gb204)); have n6_ := Aside0.mk ((by rw [hg]; exact Nat.ne_of_gt (blk_lt BK203.out) : gb204 ≠ gb203)); clear BK203; clear HB; have BK203 := n0_; have HB := n1_; have BK204 := n2_; have GW204 := n3_; have GE204 := n4_; have NB203_204 := n5_; have NB204_203 := n6_; clear n0_ n1_ n2_ n3_ n4_ n5_ n6_; clear hb hbox hg))  -- boxed
            go_ret
            exact ⟨by first | rfl | (simp [errW_none, errW_some] <;> rfl) | (simp [*, errW_none, errW_some] <;> rfl), by repeat (first | (with_reducible first | exact HB.out | apply below_alloc | apply pw_below_drewN | apply below_drew1 | refine below_set ?_ GE203.out | refine below_set ?_ GE204.out) | exact HB.out)⟩
        · rw [if_neg c6] at H
          have c6b0 : (a0_3 == a1_3) = false := beq_eq_false_iff_ne.mpr c6
          have c6b1 : (a0_3 != a1_3) = true := bne_iff_ne.mpr c6
          obtain rfl := Option.some.inj H
          go_enter Try.func88, Try.ntmps88
          go_wp2_with (first | ((with_reducible refine gate_load (t := 3) rfl ?_); refine bx_load rfl _ (by rfl) gb203 _ (by rfl) BK203.out _ Try.underlying3 rfl _ (by rfl) ?_) | ((with_reducible refine gate_load (t := 4) rfl ?_); refine bx_load rfl _ (by rfl) gb203 _ (by rfl) BK203.out _ Try.underlying4 rfl _ (by rfl) ?_) | ((with_reducible refine gate_load (t := 59) rfl ?_); refine bx_load rfl _ (by rfl) gb203 _ (by rfl) BK203.out _ Try.underlying59 rfl _ (by rfl) ?_) | ((with_reducible refine gate_load (t := 61) rfl ?_); refine load_box rfl 61 _ rfl gb203 rfl Try.underlying61 rfl BK203.out (by kernel_rfl) ?_) | ((with_reducible refine gate_load (t := 3) rfl ?_); refine bx_load rfl _ (by rfl) gb204 _ (by rfl) BK204.out _ Try.underlying3 rfl _ (by rfl) ?_) | ((with_reducible refine gate_load (t := 4) rfl ?_); refine bx_load rfl _ (by rfl) gb204 _ (by rfl) BK204.out _ Try.underlying4 rfl _ (by rfl) ?_) | ((with_reducible refine gate_load (t := 59) rfl ?_); refine bx_load rfl _ (by rfl) gb204 _ (by rfl) BK204.out _ Try.underlying59 rfl _ (by rfl) ?_) | ((with_reducible refine gate_load (t := 61) rfl ?_); refine load_box rfl 61 _ rfl gb204 rfl Try.underlying61 rfl BK204.out (by kernel_rfl) ?_) | ((with_reducible refine gate_st (t := 61) rfl ?_); refine bx_store rfl rfl _ _ (by rfl) gb203 0 (by rfl) BK203.out _ (by rfl) (by kernel_rfl) (by exact Nat.le_of_ble_eq_true rfl) (by exact oo_7 rfl rfl rfl rfl rfl rfl rfl) ?_; intro w_ hbk_ hg_; simp only [List.take_succ_cons, List.take_zero, List.drop_succ_cons, List.drop_zero, List.cons_append, List.nil_append, List.length_cons, List.length_nil, Nat.reduceAdd] at hbk_; have hlt_ := blk_lt BK203.out; (try (have nc_ := Aside0.mk (bx_other BK204.out hg_ NB204_203.out); clear BK204; have BK204 := nc_; clear nc_)); have nb_ := Aside0.mk hbk_; have nh_ := Aside0.mk (bx_below HB.out hg_ GE203.out hlt_); clear BK203 HB; have BK203 := nb_; have HB := nh_; clear nb_ nh_ hbk_ hg_ hlt_) | ((with_reducible refine gate_st (t := 61) rfl ?_); refine bx_store rfl rfl _ _ (by rfl) gb204 0 (by rfl) BK204.out _ (by rfl) (by kernel_rfl) (by exact Nat.le_of_ble_eq_true rfl) (by exact oo_7 rfl rfl rfl rfl rfl rfl rfl) ?_; intro w_ hbk_ hg_; simp only [List.take_succ_cons, List.take_zero, List.drop_succ_cons, List.drop_zero, List.cons_append, List.nil_append, List.length_cons, List.length_nil, Nat.reduceAdd] at hbk_; have hlt_ := blk_lt BK204.out; (try (have nc_ := Aside0.mk (bx_other BK203.out hg_ NB203_204.out); clear BK203; have BK203 := nc_; clear nc_)); have nb_ := Aside0.mk hbk_; have nh_ := Aside0.mk (bx_below HB.out hg_ GE204.out hlt_); clear BK204 HB; have BK204 := nb_; have HB := nh_; clear nb_ nh_ hbk_ hg_ hlt_) | ((with_reducible refine gate_dst (N := 2) rfl ?_); refine box_event ?hg (N := 2) ?hd (cs := #[.int .i64 a0_0, .int .i64 a0_1, .int .i64 a0_2, .int .i64 a0_3, .int .i64 a0_4, .bool a0_5, .slice A0_6 l0_6.length c0_6]) (t := 61) ?hr ?_; (case hd => rfl); (case hg => rfl); (case hr => first | (go_simp; done) | (go_simp; rfl)); intro gb203 hg w33 hbox hb; have n0_ := Aside0.mk (below_step (by repeat (first | (with_reducible first | exact HB.out | apply below_alloc | apply pw_below_drewN | apply below_drew1) | exact HB.out)) hb); have n1_ := Aside0.mk (hbox); have n2_ := Aside0.mk ((by rw [hg]; exact (below_size (by repeat (first | (with_reducible first | exact HB.out | apply below_alloc | apply pw_below_drewN | apply below_drew1) | exact HB.out))) : w.heap.size ≤ gb203)); have n3_ := n2_; clear HB; have HB := n0_; have BK203 := n1_; have GW203 := n2_; have GE203 := n3_; clear n0_ n1_ n2_ n3_; clear hb hbox hg) | ((with_reducible refine gate_dst (N := 3) rfl ?_); refine box_event ?hg (N := 3) ?hd (cs := #[.int .i64 a1_0, .int .i64 a1_1, .int .i64 a1_2, .int .i64 a1_3, .int .i64 a1_4, .bool a1_5, .slice A1_6 l1_6.length c1_6]) (t := 61) ?hr ?_; (case hd => rfl); (case hg => rfl); (case hr => first | (go_simp; done) | (go_simp; rfl)); intro gb204 hg w34 hbox hb; have n0_ := Aside0.mk (blk_below BK203.out hb); have n1_ := Aside0.mk (below_step (by repeat (first | (with_reducible first | exact HB.out | apply below_alloc | apply pw_below_drewN | apply below_drew1 | refine below_set ?_ GE203.out) | exact HB.out)) hb); have n2_ := Aside0.mk (hbox); have n3_ := Aside0.mk ((by rw [hg]; exact (below_size (by repeat (first | (with_reducible first | exact HB.out | apply below_alloc | apply pw_below_drewN | apply below_drew1 | refine below_set ?_ GE203.out) | exact HB.out))) : w.heap.size ≤ gb204)); have n4_ := n3_; have n5_ := Aside0.mk ((by rw [hg]; exact Nat.ne_of_lt (blk_lt BK203.out) : gb203 ≠ gb204)); have n6_ := Aside0.mk ((by rw [hg]; exact Nat.ne_of_gt (blk_lt BK203.out) : gb204 ≠ gb203)); clear BK203; clear HB; have BK203 := n0_; have HB := n1_; have BK204 := n2_; have GW204 := n3_; have GE204 := n4_; have NB203_204 := n5_; have NB204_203 := n6_; clear n0_ n1_ n2_ n3_ n4_ n5_ n6_; clear hb hbox hg))  -- boxed
          go_ret
          exact ⟨by first | rfl | (simp [errW_none, errW_some] <;> rfl) | (simp [*, errW_none, errW_some] <;> rfl), by repeat (first | (with_reducible first | exact HB.out | apply below_alloc | apply pw_below_drewN | apply below_drew1 | refine below_set ?_ GE203.out | refine below_set ?_ GE204.out) | exact HB.out)⟩
      · rw [if_neg c5] at H
        have c5b0 : (a0_2 == a1_2) = false := beq_eq_false_iff_ne.mpr c5
        have c5b1 : (a0_2 != a1_2) = true := bne_iff_ne.mpr c5
        obtain rfl := Option.some.inj H
        go_enter Try.func88, Try.ntmps88
        go_wp2_with (first | ((with_reducible refine gate_load (t := 3) rfl ?_); refine bx_load rfl _ (by rfl) gb203 _ (by rfl) BK203.out _ Try.underlying3 rfl _ (by rfl) ?_) | ((with_reducible refine gate_load (t := 4) rfl ?_); refine bx_load rfl _ (by rfl) gb203 _ (by rfl) BK203.out _ Try.underlying4 rfl _ (by rfl) ?_) | ((with_reducible refine gate_load (t := 59) rfl ?_); refine bx_load rfl _ (by rfl) gb203 _ (by rfl) BK203.out _ Try.underlying59 rfl _ (by rfl) ?_) | ((with_reducible refine gate_load (t := 61) rfl ?_); refine load_box rfl 61 _ rfl gb203 rfl Try.underlying61 rfl BK203.out (by kernel_rfl) ?_) | ((with_reducible refine gate_load (t := 3) rfl ?_); refine bx_load rfl _ (by rfl) gb204 _ (by rfl) BK204.out _ Try.underlying3 rfl _ (by rfl) ?_) | ((with_reducible refine gate_load (t := 4) rfl ?_); refine bx_load rfl _ (by rfl) gb204 _ (by rfl) BK204.out _ Try.underlying4 rfl _ (by rfl) ?_) | ((with_reducible refine gate_load (t := 59) rfl ?_); refine bx_load rfl _ (by rfl) gb204 _ (by rfl) BK204.out _ Try.underlying59 rfl _ (by rfl) ?_) | ((with_reducible refine gate_load (t := 61) rfl ?_); refine load_box rfl 61 _ rfl gb204 rfl Try.underlying61 rfl BK204.out (by kernel_rfl) ?_) | ((with_reducible refine gate_st (t := 61) rfl ?_); refine bx_store rfl rfl _ _ (by rfl) gb203 0 (by rfl) BK203.out _ (by rfl) (by kernel_rfl) (by exact Nat.le_of_ble_eq_true rfl) (by exact oo_7 rfl rfl rfl rfl rfl rfl rfl) ?_; intro w_ hbk_ hg_; simp only [List.take_succ_cons, List.take_zero, List.drop_succ_cons, List.drop_zero, List.cons_append, List.nil_append, List.length_cons, List.length_nil, Nat.reduceAdd] at hbk_; have hlt_ := blk_lt BK203.out; (try (have nc_ := Aside0.mk (bx_other BK204.out hg_ NB204_203.out); clear BK204; have BK204 := nc_; clear nc_)); have nb_ := Aside0.mk hbk_; have nh_ := Aside0.mk (bx_below HB.out hg_ GE203.out hlt_); clear BK203 HB; have BK203 := nb_; have HB := nh_; clear nb_ nh_ hbk_ hg_ hlt_) | ((with_reducible refine gate_st (t := 61) rfl ?_); refine bx_store rfl rfl _ _ (by rfl) gb204 0 (by rfl) BK204.out _ (by rfl) (by kernel_rfl) (by exact Nat.le_of_ble_eq_true rfl) (by exact oo_7 rfl rfl rfl rfl rfl rfl rfl) ?_; intro w_ hbk_ hg_; simp only [List.take_succ_cons, List.take_zero, List.drop_succ_cons, List.drop_zero, List.cons_append, List.nil_append, List.length_cons, List.length_nil, Nat.reduceAdd] at hbk_; have hlt_ := blk_lt BK204.out; (try (have nc_ := Aside0.mk (bx_other BK203.out hg_ NB203_204.out); clear BK203; have BK203 := nc_; clear nc_)); have nb_ := Aside0.mk hbk_; have nh_ := Aside0.mk (bx_below HB.out hg_ GE204.out hlt_); clear BK204 HB; have BK204 := nb_; have HB := nh_; clear nb_ nh_ hbk_ hg_ hlt_) | ((with_reducible refine gate_dst (N := 2) rfl ?_); refine box_event ?hg (N := 2) ?hd (cs := #[.int .i64 a0_0, .int .i64 a0_1, .int .i64 a0_2, .int .i64 a0_3, .int .i64 a0_4, .bool a0_5, .slice A0_6 l0_6.length c0_6]) (t := 61) ?hr ?_; (case hd => rfl); (case hg => rfl); (case hr => first | (go_simp; done) | (go_simp; rfl)); intro gb203 hg w38 hbox hb; have n0_ := Aside0.mk (below_step (by repeat (first | (with_reducible first | exact HB.out | apply below_alloc | apply pw_below_drewN | apply below_drew1) | exact HB.out)) hb); have n1_ := Aside0.mk (hbox); have n2_ := Aside0.mk ((by rw [hg]; exact (below_size (by repeat (first | (with_reducible first | exact HB.out | apply below_alloc | apply pw_below_drewN | apply below_drew1) | exact HB.out))) : w.heap.size ≤ gb203)); have n3_ := n2_; clear HB; have HB := n0_; have BK203 := n1_; have GW203 := n2_; have GE203 := n3_; clear n0_ n1_ n2_ n3_; clear hb hbox hg) | ((with_reducible refine gate_dst (N := 3) rfl ?_); refine box_event ?hg (N := 3) ?hd (cs := #[.int .i64 a1_0, .int .i64 a1_1, .int .i64 a1_2, .int .i64 a1_3, .int .i64 a1_4, .bool a1_5, .slice A1_6 l1_6.length c1_6]) (t := 61) ?hr ?_; (case hd => rfl); (case hg => rfl); (case hr => first | (go_simp; done) | (go_simp; rfl)); intro gb204 hg w39 hbox hb; have n0_ := Aside0.mk (blk_below BK203.out hb); have n1_ := Aside0.mk (below_step (by repeat (first | (with_reducible first | exact HB.out | apply below_alloc | apply pw_below_drewN | apply below_drew1 | refine below_set ?_ GE203.out) | exact HB.out)) hb); have n2_ := Aside0.mk (hbox); have n3_ := Aside0.mk ((by rw [hg]; exact (below_size (by repeat (first | (with_reducible first | exact HB.out | apply below_alloc | apply pw_below_drewN | apply below_drew1 | refine below_set ?_ GE203.out) | exact HB.out))) : w.heap.size ≤ gb204)); have n4_ := n3_; have n5_ := Aside0.mk ((by rw [hg]; exact Nat.ne_of_lt (blk_lt BK203.out) : gb203 ≠ gb204)); have n6_ := Aside0.mk ((by rw [hg]; exact Nat.ne_of_gt (blk_lt BK203.out) : gb204 ≠ gb203)); clear BK203; clear HB; have BK203 := n0_; have HB := n1_; have BK204 := n2_; have GW204 := n3_; have GE204 := n4_; have NB203_204 := n5_; have NB204_203 := n6_; clear n0_ n1_ n2_ n3_ n4_ n5_ n6_; clear hb hbox hg))  -- boxed
        go_ret
        exact ⟨by first | rfl | (simp [errW_none, errW_some] <;> rfl) | (simp [*, errW_none, errW_some] <;> rfl), by repeat (first | (with_reducible first | exact HB.out | apply below_alloc | apply pw_below_drewN | apply below_drew1 | refine below_set ?_ GE203.out | refine below_set ?_ GE204.out) | exact HB.out)⟩
    · rw [if_neg c4] at H
      have c4b0 : (a0_1 == a1_1) = false := beq_eq_false_iff_ne.mpr c4
      have c4b1 : (a0_1 != a1_1) = true := bne_iff_ne.mpr c4
      obtain rfl := Option.some.inj H
      go_enter Try.func88, Try.ntmps88
      go_wp2_with (first | ((with_reducible refine gate_load (t := 3) rfl ?_); refine bx_load rfl _ (by rfl) gb203 _ (by rfl) BK203.out _ Try.underlying3 rfl _ (by rfl) ?_) | ((with_reducible refine gate_load (t := 4) rfl ?_); refine bx_load rfl _ (by rfl) gb203 _ (by rfl) BK203.out _ Try.underlying4 rfl _ (by rfl) ?_) | ((with_reducible refine gate_load (t := 59) rfl ?_); refine bx_load rfl _ (by rfl) gb203 _ (by rfl) BK203.out _ Try.underlying59 rfl _ (by rfl) ?_) | ((with_reducible refine gate_load (t := 61) rfl ?_); refine load_box rfl 61 _ rfl gb203 rfl Try.underlying61 rfl BK203.out (by kernel_rfl) ?_) | ((with_reducible refine gate_load (t := 3) rfl ?_); refine bx_load rfl _ (by rfl) gb204 _ (by rfl) BK204.out _ Try.underlying3 rfl _ (by rfl) ?_) | ((with_reducible refine gate_load (t := 4) rfl ?_); refine bx_load rfl _ (by rfl) gb204 _ (by rfl) BK204.out _ Try.underlying4 rfl _ (by rfl) ?_) | ((with_reducible refine gate_load (t := 59) rfl ?_); refine bx_load rfl _ (by rfl) gb204 _ (by rfl) BK204.out _ Try.underlying59 rfl _ (by rfl) ?_) | ((with_reducible refine gate_load (t := 61) rfl ?_); refine load_box rfl 61 _ rfl gb204 rfl Try.underlying61 rfl BK204.out (by kernel_rfl) ?_) | ((with_reducible refine gate_st (t := 61) rfl ?_); refine bx_store rfl rfl _ _ (by rfl) gb203 0 (by rfl) BK203.out _ (by rfl) (by kernel_rfl) (by exact Nat.le_of_ble_eq_true rfl) (by exact oo_7 rfl rfl rfl rfl rfl rfl rfl) ?_; intro w_ hbk_ hg_; simp only [List.take_succ_cons, List.take_zero, List.drop_succ_cons, List.drop_zero, List.cons_append, List.nil_append, List.length_cons, List.length_nil, Nat.reduceAdd] at hbk_; have hlt_ := blk_lt BK203.out; (try (have nc_ := Aside0.mk (bx_other BK204.out hg_ NB204_203.out); clear BK204; have BK204 := nc_; clear nc_)); have nb_ := Aside0.mk hbk_; have nh_ := Aside0.mk (bx_below HB.out hg_ GE203.out hlt_); clear BK203 HB; have BK203 := nb_; have HB := nh_; clear nb_ nh_ hbk_ hg_ hlt_) | ((with_reducible refine gate_st (t := 61) rfl ?_); refine bx_store rfl rfl _ _ (by rfl) gb204 0 (by rfl) BK204.out _ (by rfl) (by kernel_rfl) (by exact Nat.le_of_ble_eq_true rfl) (by exact oo_7 rfl rfl rfl rfl rfl rfl rfl) ?_; intro w_ hbk_ hg_; simp only [List.take_succ_cons, List.take_zero, List.drop_succ_cons, List.drop_zero, List.cons_append, List.nil_append, List.length_cons, List.length_nil, Nat.reduceAdd] at hbk_; have hlt_ := blk_lt BK204.out; (try (have nc_ := Aside0.mk (bx_other BK203.out hg_ NB203_204.out); clear BK203; have BK203 := nc_; clear nc_)); have nb_ := Aside0.mk hbk_; have nh_ := Aside0.mk (bx_below HB.out hg_ GE204.out hlt_); clear BK204 HB; have BK204 := nb_; have HB := nh_; clear nb_ nh_ hbk_ hg_ hlt_) | ((with_reducible refine gate_dst (N := 2) rfl ?_); refine box_event ?hg (N := 2) ?hd (cs := #[.int .i64 a0_0, .int .i64 a0_1, .int .i64 a0_2, .int .i64 a0_3, .int .i64 a0_4, .bool a0_5, .slice A0_6 l0_6.length c0_6]) (t := 61) ?hr ?_; (case hd => rfl); (case hg => rfl); (case hr => first | (go_simp; done) | (go_simp; rfl)); intro gb203 hg w43 hbox hb; have n0_ := Aside0.mk (below_step (by repeat (first | (with_reducible first | exact HB.out | apply below_alloc | apply pw_below_drewN | apply below_drew1) | exact HB.out)) hb); have n1_ := Aside0.mk (hbox); have n2_ := Aside0.mk ((by rw [hg]; exact (below_size (by repeat (first | (with_reducible first | exact HB.out | apply below_alloc | apply pw_below_drewN | apply below_drew1) | exact HB.out))) : w.heap.size ≤ gb203)); have n3_ := n2_; clear HB; have HB := n0_; have BK203 := n1_; have GW203 := n2_; have GE203 := n3_; clear n0_ n1_ n2_ n3_; clear hb hbox hg) | ((with_reducible refine gate_dst (N := 3) rfl ?_); refine box_event ?hg (N := 3) ?hd (cs := #[.int .i64 a1_0, .int .i64 a1_1, .int .i64 a1_2, .int .i64 a1_3, .int .i64 a1_4, .bool a1_5, .slice A1_6 l1_6.length c1_6]) (t := 61) ?hr ?_; (case hd => rfl); (case hg => rfl); (case hr => first | (go_simp; done) | (go_simp; rfl)); intro gb204 hg w44 hbox hb; have n0_ := Aside0.mk (blk_below BK203.out hb); have n1_ := Aside0.mk (below_step (by repeat (first | (with_reducible first | exact HB.out | apply below_alloc | apply pw_below_drewN | apply below_drew1 | refine below_set ?_ GE203.out) | exact HB.out)) hb); have n2_ := Aside0.mk (hbox); have n3_ := Aside0.mk ((by rw [hg]; exact (below_size (by repeat (first | (with_reducible first | exact HB.out | apply below_alloc | apply pw_below_drewN | apply below_drew1 | refine below_set ?_ GE203.out) | exact HB.out))) : w.heap.size ≤ gb204)); have n4_ := n3_; have n5_ := Aside0.mk ((by rw [hg]; exact Nat.ne_of_lt (blk_lt BK203.out) : gb203 ≠ gb204)); have n6_ := Aside0.mk ((by rw [hg]; exact Nat.ne_of_gt (blk_lt BK203.out) : gb204 ≠ gb203)); clear BK203; clear HB; have BK203 := n0_; have HB := n1_; have BK204 := n2_; have GW204 := n3_; have GE204 := n4_; have NB203_204 := n5_; have NB204_203 := n6_; clear n0_ n1_ n2_ n3_ n4_ n5_ n6_; clear hb hbox hg))  -- boxed
      go_ret
      exact ⟨by first | rfl | (simp [errW_none, errW_some] <;> rfl) | (simp [*, errW_none, errW_some] <;> rfl), by repeat (first | (with_reducible first | exact HB.out | apply below_alloc | apply pw_below_drewN | apply below_drew1 | refine below_set ?_ GE203.out | refine below_set ?_ GE204.out) | exact HB.out)⟩
  · rw [if_neg c3] at H
    have c3b0 : (a0_0 == a1_0) = false := beq_eq_false_iff_ne.mpr c3
    have c3b1 : (a0_0 != a1_0) = true := bne_iff_ne.mpr c3
    obtain rfl := Option.some.inj H
    go_enter Try.func88, Try.ntmps88
    go_wp2_with (first | ((with_reducible refine gate_load (t := 3) rfl ?_); refine bx_load rfl _ (by rfl) gb203 _ (by rfl) BK203.out _ Try.underlying3 rfl _ (by rfl) ?_) | ((with_reducible refine gate_load (t := 4) rfl ?_); refine bx_load rfl _ (by rfl) gb203 _ (by rfl) BK203.out _ Try.underlying4 rfl _ (by rfl) ?_) | ((with_reducible refine gate_load (t := 59) rfl ?_); refine bx_load rfl _ (by rfl) gb203 _ (by rfl) BK203.out _ Try.underlying59 rfl _ (by rfl) ?_) | ((with_reducible refine gate_load (t := 61) rfl ?_); refine load_box rfl 61 _ rfl gb203 rfl Try.underlying61 rfl BK203.out (by kernel_rfl) ?_) | ((with_reducible refine gate_load (t := 3) rfl ?_); refine bx_load rfl _ (by rfl) gb204 _ (by rfl) BK204.out _ Try.underlying3 rfl _ (by rfl) ?_) | ((with_reducible refine gate_load (t := 4) rfl ?_); refine bx_load rfl _ (by rfl) gb204 _ (by rfl) BK204.out _ Try.underlying4 rfl _ (by rfl) ?_) | ((with_reducible refine gate_load (t := 59) rfl ?_); refine bx_load rfl _ (by rfl) gb204 _ (by rfl) BK204.out _ Try.underlying59 rfl _ (by rfl) ?_) | ((with_reducible refine gate_load (t := 61) rfl ?_); refine load_box rfl 61 _ rfl gb204 rfl Try.underlying61 rfl BK204.out (by kernel_rfl) ?_) | ((with_reducible refine gate_st (t := 61) rfl ?_); refine bx_store rfl rfl _ _ (by rfl) gb203 0 (by rfl) BK203.out _ (by rfl) (by kernel_rfl) (by exact Nat.le_of_ble_eq_true rfl) (by exact oo_7 rfl rfl rfl rfl rfl rfl rfl) ?_; intro w_ hbk_ hg_; simp only [List.take_succ_cons, List.take_zero, List.drop_succ_cons, List.drop_zero, List.cons_append, List.nil_append, List.length_cons, List.length_nil, Nat.reduceAdd] at hbk_; have hlt_ := blk_lt BK203.out; (try (have nc_ := Aside0.mk (bx_other BK204.out hg_ NB204_203.out); clear BK204; have BK204 := nc_; clear nc_)); have nb_ := Aside0.mk hbk_; have nh_ := Aside0.mk (bx_below HB.out hg_ GE203.out hlt_); clear BK203 HB; have BK203 := nb_; have HB := nh_; clear nb_ nh_ hbk_ hg_ hlt_) | ((with_reducible refine gate_st (t := 61) rfl ?_); refine bx_store rfl rfl _ _ (by rfl) gb204 0 (by rfl) BK204.out _ (by rfl) (by kernel_rfl) (by exact Nat.le_of_ble_eq_true rfl) (by exact oo_7 rfl rfl rfl rfl rfl rfl rfl) ?_; intro w_ hbk_ hg_; simp only [List.take_succ_cons, List.take_zero, List.drop_succ_cons, List.drop_zero, List.cons_append, List.nil_append, List.length_cons, List.length_nil, Nat.reduceAdd] at hbk_; have hlt_ := blk_lt BK204.out; (try (have nc_ := Aside0.mk (bx_other BK203.out hg_ NB203_204.out); clear BK203; have BK203 := nc_; clear nc_)); have nb_ := Aside0.mk hbk_; have nh_ := Aside0.mk (bx_below HB.out hg_ GE204.out hlt_); clear BK204 HB; have BK204 := nb_; have HB := nh_; clear nb_ nh_ hbk_ hg_ hlt_) | ((with_reducible refine gate_dst (N := 2) rfl ?_); refine box_event ?hg (N := 2) ?hd (cs := #[.int .i64 a0_0, .int .i64 a0_1, .int .i64 a0_2, .int .i64 a0_3, .int .i64 a0_4, .bool a0_5, .slice A0_6 l0_6.length c0_6]) (t := 61) ?hr ?_; (case hd => rfl); (case hg => rfl); (case hr => first | (go_simp; done) | (go_simp; rfl)); intro gb203 hg w48 hbox hb; have n0_ := Aside0.mk (below_step (by repeat (first | (with_reducible first | exact HB.out | apply below_alloc | apply pw_below_drewN | apply below_drew1) | exact HB.out)) hb); have n1_ := Aside0.mk (hbox); have n2_ := Aside0.mk ((by rw [hg]; exact (below_size (by repeat (first | (with_reducible first | exact HB.out | apply below_alloc | apply pw_below_drewN | apply below_drew1) | exact HB.out))) : w.heap.size ≤ gb203)); have n3_ := n2_; clear HB; have HB := n0_; have BK203 := n1_; have GW203 := n2_; have GE203 := n3_; clear n0_ n1_ n2_ n3_; clear hb hbox hg) | ((with_reducible refine gate_dst (N := 3) rfl ?_); refine box_event ?hg (N := 3) ?hd (cs := #[.int .i64 a1_0, .int .i64 a1_1, .int .i64 a1_2, .int .i64 a1_3, .int .i64 a1_4, .bool a1_5, .slice A1_6 l1_6.length c1_6]) (t := 61) ?hr ?_; (case hd => rfl); (case hg => rfl); (case hr => first | (go_simp; done) | (go_simp; rfl)); intro gb204 hg w49 hbox hb; have n0_ := Aside0.mk (blk_below BK203.out hb); have n1_ := Aside0.mk (below_step (by repeat (first | (with_reducible first | exact HB.out | apply below_alloc | apply pw_below_drewN | apply below_drew1 | refine below_set ?_ GE203.out) | exact HB.out)) hb); have n2_ := Aside0.mk (hbox); have n3_ := Aside0.mk ((by rw [hg]; exact (below_size (by repeat (first | (with_reducible first | exact HB.out | apply below_alloc | apply pw_below_drewN | apply below_drew1 | refine below_set ?_ GE203.out) | exact HB.out))) : w.heap.size ≤ gb204)); have n4_ := n3_; have n5_ := Aside0.mk ((by rw [hg]; exact Nat.ne_of_lt (blk_lt BK203.out) : gb203 ≠ gb204)); have n6_ := Aside0.mk ((by rw [hg]; exact Nat.ne_of_gt (blk_lt BK203.out) : gb204 ≠ gb203)); clear BK203; clear HB; have BK203 := n0_; have HB := n1_; have BK204 := n2_; have GW204 := n3_; have GE204 := n4_; have NB203_204 := n5_; have NB204_203 := n6_; clear n0_ n1_ n2_ n3_ n4_ n5_ n6_; clear hb hbox hg))  -- boxed
    go_ret
    exact ⟨by first | rfl | (simp [errW_none, errW_some] <;> rfl) | (simp [*, errW_none, errW_some] <;> rfl), by repeat (first | (with_reducible first | exact HB.out | apply below_alloc | apply pw_below_drewN | apply below_drew1 | refine below_set ?_ GE203.out | refine below_set ?_ GE204.out) | exact HB.out)⟩

end Go.Proofs.Ytnbmifoebaoemaa.PFnExactMostLeft
