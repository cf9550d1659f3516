-- Written by wip/fix.py (a program of this session) out of the print of this claim. NSqueezed
import Derived.Test.YtnbmifoebaoemaaPFnExactMostTurnsx0
import Derived.Test.YtnbmifoebaoemaaPFnExactMostTurnsx3
import Derived.Test.YtnbmifoebaoemaaCells
namespace Go.Proofs.Ytnbmifoebaoemaa.PFnExactMostTurns
open Go.RowKit Go.Proofs.YtnbmifoebaoemaaW.PrintWords Go.Proofs.YtnbmifoebaoemaaW.PrintLast Go.Proofs.YtnbmifoebaoemaaW.PrintMore Go.Proofs.Ytnbmifoebaoemaa.Cells
attribute [local go_sem] max2_int min2_int max_two min_two max_three min_three max_four min_four   -- for this text's walks alone
set_option linter.unusedVariables false
set_option linter.unusedSimpArgs false

/-! ### laws_eqEffectS: function 36 -/
def laws_eqEffectS.l0 : Nat → List (S63) → List (S63) → Int → Option (Bool)
  | 0, _, _, _ => none
  | k + 1, x0, x1, x5 => if x5 < (x0.length : Int) then (if 0 ≤ x5 then (if x5 < (x1.length : Int) then ((laws_eqEffect.f k ((rd_T63 x0 x5).f0) ((rd_T63 x0 x5).f1) ((rd_T63 x0 x5).f2) ((rd_T63 x0 x5).f3) ((rd_T63 x0 x5).f4.f0) ((rd_T63 x0 x5).f4.f1) ((rd_T63 x0 x5).f4.f2) ((rd_T63 x0 x5).f4.f3) ((rd_T63 x0 x5).f4.f4) ((rd_T63 x0 x5).f4.f5) ((rd_T63 x0 x5).f4.f6) ((rd_T63 x0 x5).f5.f0) ((rd_T63 x0 x5).f5.f1) ((rd_T63 x0 x5).f6.f0) ((rd_T63 x0 x5).f6.f1) ((rd_T63 x0 x5).f6.f2) ((rd_T63 x0 x5).f6.f3) ((rd_T63 x0 x5).f6.f4) ((rd_T63 x0 x5).f6.f5) ((rd_T63 x0 x5).f6.f6) ((rd_T63 x0 x5).f7) ((rd_T63 x0 x5).f8) ((rd_T63 x1 x5).f0) ((rd_T63 x1 x5).f1) ((rd_T63 x1 x5).f2) ((rd_T63 x1 x5).f3) ((rd_T63 x1 x5).f4.f0) ((rd_T63 x1 x5).f4.f1) ((rd_T63 x1 x5).f4.f2) ((rd_T63 x1 x5).f4.f3) ((rd_T63 x1 x5).f4.f4) ((rd_T63 x1 x5).f4.f5) ((rd_T63 x1 x5).f4.f6) ((rd_T63 x1 x5).f5.f0) ((rd_T63 x1 x5).f5.f1) ((rd_T63 x1 x5).f6.f0) ((rd_T63 x1 x5).f6.f1) ((rd_T63 x1 x5).f6.f2) ((rd_T63 x1 x5).f6.f3) ((rd_T63 x1 x5).f6.f4) ((rd_T63 x1 x5).f6.f5) ((rd_T63 x1 x5).f6.f6) ((rd_T63 x1 x5).f7) ((rd_T63 x1 x5).f8)).bind fun t203 => (if t203 = true then (laws_eqEffectS.l0 k x0 x1 (wrap64 (x5 + 1))) else (some false))) else (none)) else (none)) else (some true)
def laws_eqEffectS.f (k : Nat) (l0 : List (S63)) (l1 : List (S63)) : Option (Bool) := if (l0.length : Int) = (l1.length : Int) then (laws_eqEffectS.l0 k l0 l1 0) else (some false)
theorem laws_eqEffectS.mono_l : ∀ k, (∀ y0 y1 y2, LeO (laws_eqEffectS.l0 k y0 y1 y2) (laws_eqEffectS.l0 (k + 1) y0 y1 y2))
  | 0 => fun _ _ _ r h => by simp [laws_eqEffectS.l0] at h
  | k + 1 => by
    have ih0 := laws_eqEffectS.mono_l k
    · intro y0 y1 y2
      unfold laws_eqEffectS.l0
      repeat' first
      | (with_reducible exact ih0 _ _ _)
      | (with_reducible exact laws_eqEffect.mono _ _ _ _ _ _ _ _ _ _ _ _ _ _ _ _ _ _ _ _ _ _ _ _ _ _ _ _ _ _ _ _ _ _ _ _ _ _ _ _ _ _ _ _ _)
      | (with_reducible exact LeO.refl _)
      | (with_reducible exact LeO.none _)
      | (with_reducible refine LeO.ite ?_ ?_)
      | (with_reducible refine LeO.bind ?_ (fun _ => ?_))
      | exact ih0 _ _ _
      | exact laws_eqEffect.mono _ _ _ _ _ _ _ _ _ _ _ _ _ _ _ _ _ _ _ _ _ _ _ _ _ _ _ _ _ _ _ _ _ _ _ _ _ _ _ _ _ _ _ _ _
      | exact LeO.none _
      | refine LeO.ite ?_ ?_
      | refine LeO.bind ?_ (fun _ => ?_)
theorem laws_eqEffectS.mono : ∀ a0 a1 k, LeO (laws_eqEffectS.f k a0 a1) (laws_eqEffectS.f (k + 1) a0 a1) := by
  intro a0 a1 k
  have ih0 := laws_eqEffectS.mono_l k
  unfold laws_eqEffectS.f
  repeat' first
      | (with_reducible exact ih0 _ _ _)
      | (with_reducible exact laws_eqEffect.mono _ _ _ _ _ _ _ _ _ _ _ _ _ _ _ _ _ _ _ _ _ _ _ _ _ _ _ _ _ _ _ _ _ _ _ _ _ _ _ _ _ _ _ _ _)
      | (with_reducible exact LeO.refl _)
      | (with_reducible exact LeO.none _)
      | (with_reducible refine LeO.ite ?_ ?_)
      | (with_reducible refine LeO.bind ?_ (fun _ => ?_))
      | exact ih0 _ _ _
      | exact laws_eqEffect.mono _ _ _ _ _ _ _ _ _ _ _ _ _ _ _ _ _ _ _ _ _ _ _ _ _ _ _ _ _ _ _ _ _ _ _ _ _ _ _ _ _ _ _ _ _
      | exact LeO.none _
      | refine LeO.ite ?_ ?_
      | refine LeO.bind ?_ (fun _ => ?_)
def laws_eqEffectS.T6 : Bool × List (List Nat × List Nat) := (true, [([], []), ([], []), ([0, 1], [0, 1]), ([2], [2]), ([], []), ([], []), ([4, 5], [4, 5]), ([6], [6]), ([3, 7], [3, 7]), ([8], [8])])
def laws_eqEffectS.B6 : List Nat := [0, 0, 3, 7, 0, 0, 48, 112, 255, 511]
theorem laws_eqEffectS.tab6 : rtab .any (opsOf Try.f36 6) = laws_eqEffectS.T6 := by kernel_rfl
theorem laws_eqEffectS.bits6 : waitsOk laws_eqEffectS.T6.2 laws_eqEffectS.B6 = true := by kernel_rfl
set_option maxHeartbeats 8000000 in
set_option maxRecDepth 100000 in
theorem laws_eqEffectS.calls (k : Nat) (A0 : Option Addr) (c0 : Nat) (l0 : List (S63)) (A1 : Option Addr) (c1 : Nat) (l1 : List (S63)) (r : Bool) (w : World) (hr0 : Kd.C k63 w A0 l0.length l0) (hc0 : l0.length ≤ c0) (hr1 : Kd.C k63 w A1 l1.length l1) (hc1 : l1.length ≤ c1) (h : laws_eqEffectS.f k l0 l1 = some r) :
    Calls Try.prog 36 #[.slice A0 l0.length c0, .slice A1 l1.length c1] w fun e w' => e = .returned (.bool r) ∧ Below w.heap.size w w' := by
  have hu63 := Try.underlying63
  have HR0 := Aside0.mk hr0
  have HC0 := Aside0.mk hc0
  clear hr0 hc0
  have HR1 := Aside0.mk hr1
  have HC1 := Aside0.mk hc1
  clear hr1 hc1
  have HB := Aside0.mk (Below.refl w.heap.size w)
  have H : (if (l0.length : Int) = (l1.length : Int) then (laws_eqEffectS.l0 k l0 l1 0) else (some false)) = some r := h
  clear h
  by_cases c3 : (l0.length : Int) = (l1.length : Int)
  · rw [if_pos c3] at H
    have c3b0 : ((l0.length : Int) == (l1.length : Int)) = true := beq_iff_eq.mpr c3
    have c3b1 : ((l0.length : Int) != (l1.length : Int)) = false := bne_eq_false_iff_eq.mpr c3
    have c3b2 : (l0.length == l1.length) = true := by first | simpa using c3 | (simp at c3 ⊢; omega)
    clear c3
    have H' := Aside0.mk H
    clear H
    go_enter Try.func36, Try.ntmps36
    go_wp2
    go_loopg [5] k (fun kq v5 w' => ∃ (x5_1 : Int), v5 = .int .i64 x5_1 ∧ Aside0 (laws_eqEffectS.l0 kq l0 l1 x5_1 = some r) ∧ Aside0 (kq ≤ k) ∧ Aside0 (Below w.heap.size w w'))
    case atStart => exact ⟨(0), (by first | rfl | (simp; done) | (simp [*]; done)), H', ⟨Nat.le_refl _⟩, ⟨by repeat (first | (with_reducible first | exact HB.out | apply below_alloc | apply pw_below_drewN | apply below_drew1) | exact HB.out)⟩⟩
    case round =>
      clear H'
      try clear c1
      try clear p2
      try clear c3
      try clear c3b0
      try clear c3b1
      try clear c3b2
      obtain ⟨x5_1, rfl, HA, HK1, HB⟩ := hrel
      cases gk with
      | zero => exact absurd HA.out (by simp [laws_eqEffectS.l0])
      | succ k1 =>
        have H := HA.out
        clear HA
        simp only [laws_eqEffectS.l0] at H
        by_cases c4 : x5_1 < (l0.length : Int)
        · rw [if_pos c4] at H
          have c4b0 : decide (x5_1 < (l0.length : Int)) = true := decide_eq_true c4
          clear c4
          by_cases c5 : 0 ≤ x5_1
          · rw [if_pos c5] at H
            have c5b0 : decide (0 ≤ x5_1) = true := decide_eq_true c5
            clear c5
            by_cases c6 : x5_1 < (l1.length : Int)
            · rw [if_pos c6] at H
              have c6b0 : decide (x5_1 < (l1.length : Int)) = true := decide_eq_true c6
              clear c6
              replace H := Option.bind_eq_some_iff.mp H
              obtain ⟨t203, A70, H⟩ := H
              replace H : (if t203 = true then (laws_eqEffectS.l0 k1 l0 l1 (wrap64 (x5_1 + 1))) else (some false)) = some r := H
              have A7 := Aside0.mk A70
              clear A70
              by_cases c8 : t203 = true
              · subst c8
                have H1 : (laws_eqEffectS.l0 k1 l0 l1 (wrap64 (x5_1 + 1))) = some r := by rw [if_pos rfl] at H; exact H
                clear H
                have H := H1
                clear H1
                have H' := Aside0.mk H
                clear H
                try go_wp2
                have n0_ := Aside0.mk (below_drew1 HB.out)
                clear HB
                have HB := n0_
                clear n0_
                have p201 : 0 ≤ (x5_1 : Int) := of_decide_eq_true (by first | (with_reducible assumption) | assumption)
                have q201 : x5_1 < (l0.length : Int) := of_decide_eq_true (by first | (with_reducible assumption) | assumption)
                obtain ⟨ad201, A201_19, c201_19, e201, hx201_0, hx201_1, hx201_2, hx201_3, hx201_4, hx201_5, hx201_6, hx201_7, hx201_8, hx201_9, hx201_10, hx201_11, hx201_12, hx201_13, hx201_14, hx201_15, hx201_16, hx201_17, hx201_18, hx201_19, hx201_20, hx201_21, hl201_19, hi201_19⟩ := at_T63 HR0.out x5_1 p201 q201
                have E201 := Aside0.mk (ee_22 hx201_0 hx201_1 hx201_2 hx201_3 hx201_4 hx201_5 hx201_6 hx201_7 hx201_8 hx201_9 hx201_10 hx201_11 hx201_12 hx201_13 hx201_14 hx201_15 hx201_16 hx201_17 hx201_18 hx201_19 hx201_20 hx201_21)
                clear hx201_0 hx201_1 hx201_2 hx201_3 hx201_4 hx201_5 hx201_6 hx201_7 hx201_8 hx201_9 hx201_10 hx201_11 hx201_12 hx201_13 hx201_14 hx201_15 hx201_16 hx201_17 hx201_18 hx201_19 hx201_20 hx201_21

                cases e201

                have HR201_19 := Aside0.mk hi201_19
                have HC201_19 := Aside0.mk hl201_19
                clear hi201_19 hl201_19
                replace p201 := eq_true p201
                replace q201 := eq_true q201
                have p202 : 0 ≤ (x5_1 : Int) := of_decide_eq_true (by first | (with_reducible assumption) | assumption)
                have q202 : x5_1 < (l1.length : Int) := of_decide_eq_true (by first | (with_reducible assumption) | assumption)
                obtain ⟨ad202, A202_19, c202_19, e202, hx202_0, hx202_1, hx202_2, hx202_3, hx202_4, hx202_5, hx202_6, hx202_7, hx202_8, hx202_9, hx202_10, hx202_11, hx202_12, hx202_13, hx202_14, hx202_15, hx202_16, hx202_17, hx202_18, hx202_19, hx202_20, hx202_21, hl202_19, hi202_19⟩ := at_T63 HR1.out x5_1 p202 q202
                have E202 := Aside0.mk (ee_22 hx202_0 hx202_1 hx202_2 hx202_3 hx202_4 hx202_5 hx202_6 hx202_7 hx202_8 hx202_9 hx202_10 hx202_11 hx202_12 hx202_13 hx202_14 hx202_15 hx202_16 hx202_17 hx202_18 hx202_19 hx202_20 hx202_21)
                clear hx202_0 hx202_1 hx202_2 hx202_3 hx202_4 hx202_5 hx202_6 hx202_7 hx202_8 hx202_9 hx202_10 hx202_11 hx202_12 hx202_13 hx202_14 hx202_15 hx202_16 hx202_17 hx202_18 hx202_19 hx202_20 hx202_21

                cases e202

                have HR202_19 := Aside0.mk hi202_19
                have HC202_19 := Aside0.mk hl202_19
                clear hi202_19 hl202_19
                replace p202 := eq_true p202
                replace q202 := eq_true q202
                refine start_ (n := 10) (S := fun w' => (∀ j v, ([.int .i64 ((rd_T63 l0 x5_1).f0), .int .i64 ((rd_T63 l0 x5_1).f1), .int .i64 ((rd_T63 l0 x5_1).f2), .int .i64 ((rd_T63 l0 x5_1).f3), .int .i64 ((rd_T63 l0 x5_1).f4.f0), .int .i64 ((rd_T63 l0 x5_1).f4.f1), .int .i64 ((rd_T63 l0 x5_1).f4.f2), .int .i64 ((rd_T63 l0 x5_1).f4.f3), .int .i64 ((rd_T63 l0 x5_1).f4.f4), .int .i64 ((rd_T63 l0 x5_1).f4.f5), .int .i64 ((rd_T63 l0 x5_1).f4.f6), .int .i64 ((rd_T63 l0 x5_1).f5.f0), .int .i64 ((rd_T63 l0 x5_1).f5.f1), .int .i64 ((rd_T63 l0 x5_1).f6.f0), .int .i64 ((rd_T63 l0 x5_1).f6.f1), .int .i64 ((rd_T63 l0 x5_1).f6.f2), .int .i64 ((rd_T63 l0 x5_1).f6.f3), .int .i64 ((rd_T63 l0 x5_1).f6.f4), .bool ((rd_T63 l0 x5_1).f6.f5), .slice A201_19 ((rd_T63 l0 x5_1).f6.f6).length c201_19, .int .i64 ((rd_T63 l0 x5_1).f7), .int .i64 ((rd_T63 l0 x5_1).f8)] : List Value)[j]? = some v → w'.cell? ((ad201.add ((x5_1).toNat * 22)).add j) = some v) ∧ (∀ j v, ([.int .i64 ((rd_T63 l1 x5_1).f0), .int .i64 ((rd_T63 l1 x5_1).f1), .int .i64 ((rd_T63 l1 x5_1).f2), .int .i64 ((rd_T63 l1 x5_1).f3), .int .i64 ((rd_T63 l1 x5_1).f4.f0), .int .i64 ((rd_T63 l1 x5_1).f4.f1), .int .i64 ((rd_T63 l1 x5_1).f4.f2), .int .i64 ((rd_T63 l1 x5_1).f4.f3), .int .i64 ((rd_T63 l1 x5_1).f4.f4), .int .i64 ((rd_T63 l1 x5_1).f4.f5), .int .i64 ((rd_T63 l1 x5_1).f4.f6), .int .i64 ((rd_T63 l1 x5_1).f5.f0), .int .i64 ((rd_T63 l1 x5_1).f5.f1), .int .i64 ((rd_T63 l1 x5_1).f6.f0), .int .i64 ((rd_T63 l1 x5_1).f6.f1), .int .i64 ((rd_T63 l1 x5_1).f6.f2), .int .i64 ((rd_T63 l1 x5_1).f6.f3), .int .i64 ((rd_T63 l1 x5_1).f6.f4), .bool ((rd_T63 l1 x5_1).f6.f5), .slice A202_19 ((rd_T63 l1 x5_1).f6.f6).length c202_19, .int .i64 ((rd_T63 l1 x5_1).f7), .int .i64 ((rd_T63 l1 x5_1).f8)] : List Value)[j]? = some v → w'.cell? ((ad202.add ((x5_1).toNat * 22)).add j) = some v)) (ds := []) #[false, false, false, false, false, false, false, false, false, false] (by kernel_rfl) rfl rfl ⟨(up_at HB.out E201.out), (up_at HB.out E202.out)⟩ (fun hHeld => ?_); refine with_tabW laws_eqEffectS.tab6 laws_eqEffectS.bits6 (fun HT_ HW_ => ?_)
                generalize wr.drew = w9 at HB HR201_19 HR202_19 hHeld ⊢
                refine pure_ (i := 0) (N := some 17) (v := ?_) (a' := ?_) #[true, false, false, false, false, false, false, false, false, false] rfl rfl (any_of HT_.out (by kernel_rfl)) (fun _ _ _ h => h) (Or.inl ⟨by rfl, ?_⟩) ?_ ?_
                rotate_left
                · intro w'
                  go_simp
                  with_reducible rfl
                rotate_left
                · simp only [Act.put, List.setIfInBounds_toArray, List.set_cons_zero, List.set_cons_succ, i64_w, i32_w]
                  rfl
                refine pure_ (i := 1) (N := some 18) (v := ?_) (a' := ?_) #[true, true, false, false, false, false, false, false, false, false] rfl rfl (any_of HT_.out (by kernel_rfl)) (fun _ _ _ h => h) (Or.inl ⟨by rfl, ?_⟩) ?_ ?_
                rotate_left
                · intro w'
                  go_simp
                  with_reducible rfl
                rotate_left
                · simp only [Act.put, List.setIfInBounds_toArray, List.set_cons_zero, List.set_cons_succ, i64_w, i32_w]
                  rfl
                refine pure_ (i := 2) (N := some 19) (v := ?_) (a' := ?_) #[true, true, true, false, false, false, false, false, false, false] rfl rfl (any_of HT_.out (by kernel_rfl)) (fun _ _ _ h => h) (Or.inl ⟨by rfl, ?_⟩) ?_ ?_
                rotate_left
                · intro w'
                  go_simp
                  with_reducible rfl
                rotate_left
                · simp only [Act.put, List.setIfInBounds_toArray, List.set_cons_zero, List.set_cons_succ, i64_w, i32_w]
                  rfl
                refine pure_ (i := 4) (N := some 21) (v := ?_) (a' := ?_) #[true, true, true, false, true, false, false, false, false, false] rfl rfl (any_of HT_.out (by kernel_rfl)) (fun _ _ _ h => h) (Or.inl ⟨by rfl, ?_⟩) ?_ ?_
                rotate_left
                · intro w'
                  go_simp
                  with_reducible rfl
                rotate_left
                · simp only [Act.put, List.setIfInBounds_toArray, List.set_cons_zero, List.set_cons_succ, i64_w, i32_w]
                  rfl
                refine pure_ (i := 5) (N := some 22) (v := ?_) (a' := ?_) #[true, true, true, false, true, true, false, false, false, false] rfl rfl (any_of HT_.out (by kernel_rfl)) (fun _ _ _ h => h) (Or.inl ⟨by rfl, ?_⟩) ?_ ?_
                rotate_left
                · intro w'
                  go_simp
                  with_reducible rfl
                rotate_left
                · simp only [Act.put, List.setIfInBounds_toArray, List.set_cons_zero, List.set_cons_succ, i64_w, i32_w]
                  rfl
                refine pure_ (i := 6) (N := some 23) (v := ?_) (a' := ?_) #[true, true, true, false, true, true, true, false, false, false] rfl rfl (any_of HT_.out (by kernel_rfl)) (fun _ _ _ h => h) (Or.inl ⟨by rfl, ?_⟩) ?_ ?_
                rotate_left
                · intro w'
                  go_simp
                  with_reducible rfl
                rotate_left
                · simp only [Act.put, List.setIfInBounds_toArray, List.set_cons_zero, List.set_cons_succ, i64_w, i32_w]
                  rfl
                refine take_ (i := 3) (N := some 20) (v := ?_) (a' := ?_) #[true, true, true, true, true, true, true, false, false, false] rfl rfl (take_ofW HT_.out HW_.out (by kernel_rfl)) (fun _ _ _ h => h) (Or.inl ⟨by rfl, ?_⟩) hHeld ?_ ?_
                rotate_left
                · rintro w' ⟨s0, s1⟩
                  first | (refine Eq.trans (run_execOp_load 63 _ (by rfl) _ (by rfl) _ _ Try.underlying63 rfl (by kernel_rfl) s0) ?_; with_reducible rfl) | (refine Eq.trans (run_execOp_load 63 _ (by rfl) _ (by rfl) _ _ Try.underlying63 rfl (by kernel_rfl) s1) ?_; with_reducible rfl) | (go_simp; with_reducible rfl)

                rotate_left
                · simp only [Act.put, List.setIfInBounds_toArray, List.set_cons_zero, List.set_cons_succ, i64_w, i32_w]
                  rfl
                refine take_ (i := 7) (N := some 24) (v := ?_) (a' := ?_) #[true, true, true, true, true, true, true, true, false, false] rfl rfl (take_ofW HT_.out HW_.out (by kernel_rfl)) (fun _ _ _ h => h) (Or.inl ⟨by rfl, ?_⟩) hHeld ?_ ?_
                rotate_left
                · rintro w' ⟨s0, s1⟩
                  first | (refine Eq.trans (run_execOp_load 63 _ (by rfl) _ (by rfl) _ _ Try.underlying63 rfl (by kernel_rfl) s0) ?_; with_reducible rfl) | (refine Eq.trans (run_execOp_load 63 _ (by rfl) _ (by rfl) _ _ Try.underlying63 rfl (by kernel_rfl) s1) ?_; with_reducible rfl) | (go_simp; with_reducible rfl)

                rotate_left
                · simp only [Act.put, List.setIfInBounds_toArray, List.set_cons_zero, List.set_cons_succ, i64_w, i32_w]
                  rfl
                refine one_ (i := 8) (N := some 25) #[true, true, true, true, true, true, true, true, true, false] rfl rfl (one_of HT_.out (by kernel_rfl)) (by decide) (fun K hK => ?_)
                refine goes_ Try.func30 (by kernel_rfl) rfl #[.agg #[.int .i64 ((rd_T63 l0 x5_1).f0), .int .i64 ((rd_T63 l0 x5_1).f1), .int .i64 ((rd_T63 l0 x5_1).f2), .int .i64 ((rd_T63 l0 x5_1).f3), .int .i64 ((rd_T63 l0 x5_1).f4.f0), .int .i64 ((rd_T63 l0 x5_1).f4.f1), .int .i64 ((rd_T63 l0 x5_1).f4.f2), .int .i64 ((rd_T63 l0 x5_1).f4.f3), .int .i64 ((rd_T63 l0 x5_1).f4.f4), .int .i64 ((rd_T63 l0 x5_1).f4.f5), .int .i64 ((rd_T63 l0 x5_1).f4.f6), .int .i64 ((rd_T63 l0 x5_1).f5.f0), .int .i64 ((rd_T63 l0 x5_1).f5.f1), .int .i64 ((rd_T63 l0 x5_1).f6.f0), .int .i64 ((rd_T63 l0 x5_1).f6.f1), .int .i64 ((rd_T63 l0 x5_1).f6.f2), .int .i64 ((rd_T63 l0 x5_1).f6.f3), .int .i64 ((rd_T63 l0 x5_1).f6.f4), .bool ((rd_T63 l0 x5_1).f6.f5), .slice A201_19 ((rd_T63 l0 x5_1).f6.f6).length c201_19, .int .i64 ((rd_T63 l0 x5_1).f7), .int .i64 ((rd_T63 l0 x5_1).f8)], .agg #[.int .i64 ((rd_T63 l1 x5_1).f0), .int .i64 ((rd_T63 l1 x5_1).f1), .int .i64 ((rd_T63 l1 x5_1).f2), .int .i64 ((rd_T63 l1 x5_1).f3), .int .i64 ((rd_T63 l1 x5_1).f4.f0), .int .i64 ((rd_T63 l1 x5_1).f4.f1), .int .i64 ((rd_T63 l1 x5_1).f4.f2), .int .i64 ((rd_T63 l1 x5_1).f4.f3), .int .i64 ((rd_T63 l1 x5_1).f4.f4), .int .i64 ((rd_T63 l1 x5_1).f4.f5), .int .i64 ((rd_T63 l1 x5_1).f4.f6), .int .i64 ((rd_T63 l1 x5_1).f5.f0), .int .i64 ((rd_T63 l1 x5_1).f5.f1), .int .i64 ((rd_T63 l1 x5_1).f6.f0), .int .i64 ((rd_T63 l1 x5_1).f6.f1), .int .i64 ((rd_T63 l1 x5_1).f6.f2), .int .i64 ((rd_T63 l1 x5_1).f6.f3), .int .i64 ((rd_T63 l1 x5_1).f6.f4), .bool ((rd_T63 l1 x5_1).f6.f5), .slice A202_19 ((rd_T63 l1 x5_1).f6.f6).length c202_19, .int .i64 ((rd_T63 l1 x5_1).f7), .int .i64 ((rd_T63 l1 x5_1).f8)]] (by rfl) rfl rfl (by (try simp only [List.map_toArray, List.map_cons, List.map_nil]); first | done | rfl | (simp only [List.length_drop, List.length_take]; rfl)) ?_
                with_reducible refine (laws_eqEffect.calls k1 ((rd_T63 l0 x5_1).f0) ((rd_T63 l0 x5_1).f1) ((rd_T63 l0 x5_1).f2) ((rd_T63 l0 x5_1).f3) ((rd_T63 l0 x5_1).f4.f0) ((rd_T63 l0 x5_1).f4.f1) ((rd_T63 l0 x5_1).f4.f2) ((rd_T63 l0 x5_1).f4.f3) ((rd_T63 l0 x5_1).f4.f4) ((rd_T63 l0 x5_1).f4.f5) ((rd_T63 l0 x5_1).f4.f6) ((rd_T63 l0 x5_1).f5.f0) ((rd_T63 l0 x5_1).f5.f1) ((rd_T63 l0 x5_1).f6.f0) ((rd_T63 l0 x5_1).f6.f1) ((rd_T63 l0 x5_1).f6.f2) ((rd_T63 l0 x5_1).f6.f3) ((rd_T63 l0 x5_1).f6.f4) ((rd_T63 l0 x5_1).f6.f5) _ _ ((rd_T63 l0 x5_1).f6.f6) ((rd_T63 l0 x5_1).f7) ((rd_T63 l0 x5_1).f8) ((rd_T63 l1 x5_1).f0) ((rd_T63 l1 x5_1).f1) ((rd_T63 l1 x5_1).f2) ((rd_T63 l1 x5_1).f3) ((rd_T63 l1 x5_1).f4.f0) ((rd_T63 l1 x5_1).f4.f1) ((rd_T63 l1 x5_1).f4.f2) ((rd_T63 l1 x5_1).f4.f3) ((rd_T63 l1 x5_1).f4.f4) ((rd_T63 l1 x5_1).f4.f5) ((rd_T63 l1 x5_1).f4.f6) ((rd_T63 l1 x5_1).f5.f0) ((rd_T63 l1 x5_1).f5.f1) ((rd_T63 l1 x5_1).f6.f0) ((rd_T63 l1 x5_1).f6.f1) ((rd_T63 l1 x5_1).f6.f2) ((rd_T63 l1 x5_1).f6.f3) ((rd_T63 l1 x5_1).f6.f4) ((rd_T63 l1 x5_1).f6.f5) _ _ ((rd_T63 l1 x5_1).f6.f6) ((rd_T63 l1 x5_1).f7) ((rd_T63 l1 x5_1).f8) true _ ?side1 ?side2 ?side3 ?side4 A7.out).mono ?_
                (case side1 => repeat (first | exact (Kd.C_below HR201_19.out HB.out) | (with_reducible refine Kd.C_alloc ?_ _) | (with_reducible refine Kd.C_drewN ?_ _) | (with_reducible refine Kd.C_drew ?_)))
                (case side2 => exact HC201_19.out)
                (case side3 => repeat (first | exact (Kd.C_below HR202_19.out HB.out) | (with_reducible refine Kd.C_alloc ?_ _) | (with_reducible refine Kd.C_drewN ?_ _) | (with_reducible refine Kd.C_drew ?_)))
                (case side4 => exact HC202_19.out)
                rintro e w10 ⟨rfl, hb⟩
                refine ⟨_, rfl, ?_⟩
                have n0_ := Aside0.mk (below_step (by repeat (first | (with_reducible first | exact HB.out | apply below_alloc | apply pw_below_drewN | apply below_drew1) | exact HB.out)) hb)
                clear HB
                have HB := n0_
                clear n0_
                (try clear hb)
                (try clear hb2)
                (try clear hk)
                (try clear hi)
                refine hK.out _ _ ⟨(up_at HB.out E201.out), (up_at HB.out E202.out)⟩ (fun hHeld => ?_)
                clear hK K
                refine norm_ (a' := ?_) ?_ ?_
                rotate_left
                · show Act.put _ (some 25) _ = _
                  simp only [Act.put, List.setIfInBounds_toArray, List.set_cons_zero, List.set_cons_succ, i64_w, i32_w]
                  rfl
                refine pure_ (i := 9) (N := some 26) (v := ?_) (a' := ?_) #[true, true, true, true, true, true, true, true, true, true] rfl rfl (any_of HT_.out (by kernel_rfl)) (fun _ _ _ h => h) (Or.inl ⟨by rfl, ?_⟩) ?_ ?_
                rotate_left
                · intro w'
                  go_simp
                  with_reducible rfl
                rotate_left
                · simp only [Act.put, List.setIfInBounds_toArray, List.set_cons_zero, List.set_cons_succ, i64_w, i32_w]
                  rfl
                refine done_ (done_of HT_.out (by kernel_rfl)) ?_
                try go_wp2_with (first | ((with_reducible refine gate_load (t := 63) rfl ?_); refine load_at rfl 63 _ rfl _ rfl _ _ Try.underlying63 rfl (by kernel_rfl) (ee_22 hx201_0 hx201_1 hx201_2 hx201_3 hx201_4 hx201_5 hx201_6 hx201_7 hx201_8 hx201_9 hx201_10 hx201_11 hx201_12 hx201_13 hx201_14 hx201_15 hx201_16 hx201_17 hx201_18 hx201_19 hx201_20 hx201_21) ?_) | ((with_reducible refine gate_load (t := 63) rfl ?_); refine load_at rfl 63 _ rfl _ rfl _ _ Try.underlying63 rfl (by kernel_rfl) (ee_22 hx202_0 hx202_1 hx202_2 hx202_3 hx202_4 hx202_5 hx202_6 hx202_7 hx202_8 hx202_9 hx202_10 hx202_11 hx202_12 hx202_13 hx202_14 hx202_15 hx202_16 hx202_17 hx202_18 hx202_19 hx202_20 hx202_21) ?_))
                go_roundg k1
                case measure => have := HK1.out; omega
                case rel => exact ⟨(wrap64 (x5_1 + 1)), (by first | rfl | (simp; done) | (simp [*]; done)), H', ⟨by have := HK1.out; omega⟩, ⟨by repeat (first | (with_reducible first | exact HB.out | apply below_alloc | apply pw_below_drewN | apply below_drew1) | exact HB.out)⟩⟩
              · replace c8 := Bool.eq_false_iff.mpr c8
                subst c8
                have H1 : (some false) = some r := by rw [if_neg (show ¬ (false = true) by decide)] at H; exact H
                clear H
                have H := H1
                clear H1
                obtain rfl := Option.some.inj H
                try go_wp2
                have n0_ := Aside0.mk (below_drew1 HB.out)
                clear HB
                have HB := n0_
                clear n0_
                have p201 : 0 ≤ (x5_1 : Int) := of_decide_eq_true (by first | (with_reducible assumption) | assumption)
                have q201 : x5_1 < (l0.length : Int) := of_decide_eq_true (by first | (with_reducible assumption) | assumption)
                obtain ⟨ad201, A201_19, c201_19, e201, hx201_0, hx201_1, hx201_2, hx201_3, hx201_4, hx201_5, hx201_6, hx201_7, hx201_8, hx201_9, hx201_10, hx201_11, hx201_12, hx201_13, hx201_14, hx201_15, hx201_16, hx201_17, hx201_18, hx201_19, hx201_20, hx201_21, hl201_19, hi201_19⟩ := at_T63 HR0.out x5_1 p201 q201
                have E201 := Aside0.mk (ee_22 hx201_0 hx201_1 hx201_2 hx201_3 hx201_4 hx201_5 hx201_6 hx201_7 hx201_8 hx201_9 hx201_10 hx201_11 hx201_12 hx201_13 hx201_14 hx201_15 hx201_16 hx201_17 hx201_18 hx201_19 hx201_20 hx201_21)
                clear hx201_0 hx201_1 hx201_2 hx201_3 hx201_4 hx201_5 hx201_6 hx201_7 hx201_8 hx201_9 hx201_10 hx201_11 hx201_12 hx201_13 hx201_14 hx201_15 hx201_16 hx201_17 hx201_18 hx201_19 hx201_20 hx201_21

                cases e201

                have HR201_19 := Aside0.mk hi201_19
                have HC201_19 := Aside0.mk hl201_19
                clear hi201_19 hl201_19
                replace p201 := eq_true p201
                replace q201 := eq_true q201
                have p202 : 0 ≤ (x5_1 : Int) := of_decide_eq_true (by first | (with_reducible assumption) | assumption)
                have q202 : x5_1 < (l1.length : Int) := of_decide_eq_true (by first | (with_reducible assumption) | assumption)
                obtain ⟨ad202, A202_19, c202_19, e202, hx202_0, hx202_1, hx202_2, hx202_3, hx202_4, hx202_5, hx202_6, hx202_7, hx202_8, hx202_9, hx202_10, hx202_11, hx202_12, hx202_13, hx202_14, hx202_15, hx202_16, hx202_17, hx202_18, hx202_19, hx202_20, hx202_21, hl202_19, hi202_19⟩ := at_T63 HR1.out x5_1 p202 q202
                have E202 := Aside0.mk (ee_22 hx202_0 hx202_1 hx202_2 hx202_3 hx202_4 hx202_5 hx202_6 hx202_7 hx202_8 hx202_9 hx202_10 hx202_11 hx202_12 hx202_13 hx202_14 hx202_15 hx202_16 hx202_17 hx202_18 hx202_19 hx202_20 hx202_21)
                clear hx202_0 hx202_1 hx202_2 hx202_3 hx202_4 hx202_5 hx202_6 hx202_7 hx202_8 hx202_9 hx202_10 hx202_11 hx202_12 hx202_13 hx202_14 hx202_15 hx202_16 hx202_17 hx202_18 hx202_19 hx202_20 hx202_21

                cases e202

                have HR202_19 := Aside0.mk hi202_19
                have HC202_19 := Aside0.mk hl202_19
                clear hi202_19 hl202_19
                replace p202 := eq_true p202
                replace q202 := eq_true q202
                refine start_ (n := 10) (S := fun w' => (∀ j v, ([.int .i64 ((rd_T63 l0 x5_1).f0), .int .i64 ((rd_T63 l0 x5_1).f1), .int .i64 ((rd_T63 l0 x5_1).f2), .int .i64 ((rd_T63 l0 x5_1).f3), .int .i64 ((rd_T63 l0 x5_1).f4.f0), .int .i64 ((rd_T63 l0 x5_1).f4.f1), .int .i64 ((rd_T63 l0 x5_1).f4.f2), .int .i64 ((rd_T63 l0 x5_1).f4.f3), .int .i64 ((rd_T63 l0 x5_1).f4.f4), .int .i64 ((rd_T63 l0 x5_1).f4.f5), .int .i64 ((rd_T63 l0 x5_1).f4.f6), .int .i64 ((rd_T63 l0 x5_1).f5.f0), .int .i64 ((rd_T63 l0 x5_1).f5.f1), .int .i64 ((rd_T63 l0 x5_1).f6.f0), .int .i64 ((rd_T63 l0 x5_1).f6.f1), .int .i64 ((rd_T63 l0 x5_1).f6.f2), .int .i64 ((rd_T63 l0 x5_1).f6.f3), .int .i64 ((rd_T63 l0 x5_1).f6.f4), .bool ((rd_T63 l0 x5_1).f6.f5), .slice A201_19 ((rd_T63 l0 x5_1).f6.f6).length c201_19, .int .i64 ((rd_T63 l0 x5_1).f7), .int .i64 ((rd_T63 l0 x5_1).f8)] : List Value)[j]? = some v → w'.cell? ((ad201.add ((x5_1).toNat * 22)).add j) = some v) ∧ (∀ j v, ([.int .i64 ((rd_T63 l1 x5_1).f0), .int .i64 ((rd_T63 l1 x5_1).f1), .int .i64 ((rd_T63 l1 x5_1).f2), .int .i64 ((rd_T63 l1 x5_1).f3), .int .i64 ((rd_T63 l1 x5_1).f4.f0), .int .i64 ((rd_T63 l1 x5_1).f4.f1), .int .i64 ((rd_T63 l1 x5_1).f4.f2), .int .i64 ((rd_T63 l1 x5_1).f4.f3), .int .i64 ((rd_T63 l1 x5_1).f4.f4), .int .i64 ((rd_T63 l1 x5_1).f4.f5), .int .i64 ((rd_T63 l1 x5_1).f4.f6), .int .i64 ((rd_T63 l1 x5_1).f5.f0), .int .i64 ((rd_T63 l1 x5_1).f5.f1), .int .i64 ((rd_T63 l1 x5_1).f6.f0), .int .i64 ((rd_T63 l1 x5_1).f6.f1), .int .i64 ((rd_T63 l1 x5_1).f6.f2), .int .i64 ((rd_T63 l1 x5_1).f6.f3), .int .i64 ((rd_T63 l1 x5_1).f6.f4), .bool ((rd_T63 l1 x5_1).f6.f5), .slice A202_19 ((rd_T63 l1 x5_1).f6.f6).length c202_19, .int .i64 ((rd_T63 l1 x5_1).f7), .int .i64 ((rd_T63 l1 x5_1).f8)] : List Value)[j]? = some v → w'.cell? ((ad202.add ((x5_1).toNat * 22)).add j) = some v)) (ds := []) #[false, false, false, false, false, false, false, false, false, false] (by kernel_rfl) rfl rfl ⟨(up_at HB.out E201.out), (up_at HB.out E202.out)⟩ (fun hHeld => ?_); refine with_tabW laws_eqEffectS.tab6 laws_eqEffectS.bits6 (fun HT_ HW_ => ?_)
                generalize wr.drew = w11 at HB HR201_19 HR202_19 hHeld ⊢
                refine pure_ (i := 0) (N := some 17) (v := ?_) (a' := ?_) #[true, false, false, false, false, false, false, false, false, false] rfl rfl (any_of HT_.out (by kernel_rfl)) (fun _ _ _ h => h) (Or.inl ⟨by rfl, ?_⟩) ?_ ?_
                rotate_left
                · intro w'
                  go_simp
                  with_reducible rfl
                rotate_left
                · simp only [Act.put, List.setIfInBounds_toArray, List.set_cons_zero, List.set_cons_succ, i64_w, i32_w]
                  rfl
                refine pure_ (i := 1) (N := some 18) (v := ?_) (a' := ?_) #[true, true, false, false, false, false, false, false, false, false] rfl rfl (any_of HT_.out (by kernel_rfl)) (fun _ _ _ h => h) (Or.inl ⟨by rfl, ?_⟩) ?_ ?_
                rotate_left
                · intro w'
                  go_simp
                  with_reducible rfl
                rotate_left
                · simp only [Act.put, List.setIfInBounds_toArray, List.set_cons_zero, List.set_cons_succ, i64_w, i32_w]
                  rfl
                refine pure_ (i := 2) (N := some 19) (v := ?_) (a' := ?_) #[true, true, true, false, false, false, false, false, false, false] rfl rfl (any_of HT_.out (by kernel_rfl)) (fun _ _ _ h => h) (Or.inl ⟨by rfl, ?_⟩) ?_ ?_
                rotate_left
                · intro w'
                  go_simp
                  with_reducible rfl
                rotate_left
                · simp only [Act.put, List.setIfInBounds_toArray, List.set_cons_zero, List.set_cons_succ, i64_w, i32_w]
                  rfl
                refine pure_ (i := 4) (N := some 21) (v := ?_) (a' := ?_) #[true, true, true, false, true, false, false, false, false, false] rfl rfl (any_of HT_.out (by kernel_rfl)) (fun _ _ _ h => h) (Or.inl ⟨by rfl, ?_⟩) ?_ ?_
                rotate_left
                · intro w'
                  go_simp
                  with_reducible rfl
                rotate_left
                · simp only [Act.put, List.setIfInBounds_toArray, List.set_cons_zero, List.set_cons_succ, i64_w, i32_w]
                  rfl
                refine pure_ (i := 5) (N := some 22) (v := ?_) (a' := ?_) #[true, true, true, false, true, true, false, false, false, false] rfl rfl (any_of HT_.out (by kernel_rfl)) (fun _ _ _ h => h) (Or.inl ⟨by rfl, ?_⟩) ?_ ?_
                rotate_left
                · intro w'
                  go_simp
                  with_reducible rfl
                rotate_left
                · simp only [Act.put, List.setIfInBounds_toArray, List.set_cons_zero, List.set_cons_succ, i64_w, i32_w]
                  rfl
                refine pure_ (i := 6) (N := some 23) (v := ?_) (a' := ?_) #[true, true, true, false, true, true, true, false, false, false] rfl rfl (any_of HT_.out (by kernel_rfl)) (fun _ _ _ h => h) (Or.inl ⟨by rfl, ?_⟩) ?_ ?_
                rotate_left
                · intro w'
                  go_simp
                  with_reducible rfl
                rotate_left
                · simp only [Act.put, List.setIfInBounds_toArray, List.set_cons_zero, List.set_cons_succ, i64_w, i32_w]
                  rfl
                refine take_ (i := 3) (N := some 20) (v := ?_) (a' := ?_) #[true, true, true, true, true, true, true, false, false, false] rfl rfl (take_ofW HT_.out HW_.out (by kernel_rfl)) (fun _ _ _ h => h) (Or.inl ⟨by rfl, ?_⟩) hHeld ?_ ?_
                rotate_left
                · rintro w' ⟨s0, s1⟩
                  first | (refine Eq.trans (run_execOp_load 63 _ (by rfl) _ (by rfl) _ _ Try.underlying63 rfl (by kernel_rfl) s0) ?_; with_reducible rfl) | (refine Eq.trans (run_execOp_load 63 _ (by rfl) _ (by rfl) _ _ Try.underlying63 rfl (by kernel_rfl) s1) ?_; with_reducible rfl) | (go_simp; with_reducible rfl)

                rotate_left
                · simp only [Act.put, List.setIfInBounds_toArray, List.set_cons_zero, List.set_cons_succ, i64_w, i32_w]
                  rfl
                refine take_ (i := 7) (N := some 24) (v := ?_) (a' := ?_) #[true, true, true, true, true, true, true, true, false, false] rfl rfl (take_ofW HT_.out HW_.out (by kernel_rfl)) (fun _ _ _ h => h) (Or.inl ⟨by rfl, ?_⟩) hHeld ?_ ?_
                rotate_left
                · rintro w' ⟨s0, s1⟩
                  first | (refine Eq.trans (run_execOp_load 63 _ (by rfl) _ (by rfl) _ _ Try.underlying63 rfl (by kernel_rfl) s0) ?_; with_reducible rfl) | (refine Eq.trans (run_execOp_load 63 _ (by rfl) _ (by rfl) _ _ Try.underlying63 rfl (by kernel_rfl) s1) ?_; with_reducible rfl) | (go_simp; with_reducible rfl)

                rotate_left
                · simp only [Act.put, List.setIfInBounds_toArray, List.set_cons_zero, List.set_cons_succ, i64_w, i32_w]
                  rfl
                refine one_ (i := 8) (N := some 25) #[true, true, true, true, true, true, true, true, true, false] rfl rfl (one_of HT_.out (by kernel_rfl)) (by decide) (fun K hK => ?_)
                refine goes_ Try.func30 (by kernel_rfl) rfl #[.agg #[.int .i64 ((rd_T63 l0 x5_1).f0), .int .i64 ((rd_T63 l0 x5_1).f1), .int .i64 ((rd_T63 l0 x5_1).f2), .int .i64 ((rd_T63 l0 x5_1).f3), .int .i64 ((rd_T63 l0 x5_1).f4.f0), .int .i64 ((rd_T63 l0 x5_1).f4.f1), .int .i64 ((rd_T63 l0 x5_1).f4.f2), .int .i64 ((rd_T63 l0 x5_1).f4.f3), .int .i64 ((rd_T63 l0 x5_1).f4.f4), .int .i64 ((rd_T63 l0 x5_1).f4.f5), .int .i64 ((rd_T63 l0 x5_1).f4.f6), .int .i64 ((rd_T63 l0 x5_1).f5.f0), .int .i64 ((rd_T63 l0 x5_1).f5.f1), .int .i64 ((rd_T63 l0 x5_1).f6.f0), .int .i64 ((rd_T63 l0 x5_1).f6.f1), .int .i64 ((rd_T63 l0 x5_1).f6.f2), .int .i64 ((rd_T63 l0 x5_1).f6.f3), .int .i64 ((rd_T63 l0 x5_1).f6.f4), .bool ((rd_T63 l0 x5_1).f6.f5), .slice A201_19 ((rd_T63 l0 x5_1).f6.f6).length c201_19, .int .i64 ((rd_T63 l0 x5_1).f7), .int .i64 ((rd_T63 l0 x5_1).f8)], .agg #[.int .i64 ((rd_T63 l1 x5_1).f0), .int .i64 ((rd_T63 l1 x5_1).f1), .int .i64 ((rd_T63 l1 x5_1).f2), .int .i64 ((rd_T63 l1 x5_1).f3), .int .i64 ((rd_T63 l1 x5_1).f4.f0), .int .i64 ((rd_T63 l1 x5_1).f4.f1), .int .i64 ((rd_T63 l1 x5_1).f4.f2), .int .i64 ((rd_T63 l1 x5_1).f4.f3), .int .i64 ((rd_T63 l1 x5_1).f4.f4), .int .i64 ((rd_T63 l1 x5_1).f4.f5), .int .i64 ((rd_T63 l1 x5_1).f4.f6), .int .i64 ((rd_T63 l1 x5_1).f5.f0), .int .i64 ((rd_T63 l1 x5_1).f5.f1), .int .i64 ((rd_T63 l1 x5_1).f6.f0), .int .i64 ((rd_T63 l1 x5_1).f6.f1), .int .i64 ((rd_T63 l1 x5_1).f6.f2), .int .i64 ((rd_T63 l1 x5_1).f6.f3), .int .i64 ((rd_T63 l1 x5_1).f6.f4), .bool ((rd_T63 l1 x5_1).f6.f5), .slice A202_19 ((rd_T63 l1 x5_1).f6.f6).length c202_19, .int .i64 ((rd_T63 l1 x5_1).f7), .int .i64 ((rd_T63 l1 x5_1).f8)]] (by rfl) rfl rfl (by (try simp only [List.map_toArray, List.map_cons, List.map_nil]); first | done | rfl | (simp only [List.length_drop, List.length_take]; rfl)) ?_
                with_reducible refine (laws_eqEffect.calls k1 ((rd_T63 l0 x5_1).f0) ((rd_T63 l0 x5_1).f1) ((rd_T63 l0 x5_1).f2) ((rd_T63 l0 x5_1).f3) ((rd_T63 l0 x5_1).f4.f0) ((rd_T63 l0 x5_1).f4.f1) ((rd_T63 l0 x5_1).f4.f2) ((rd_T63 l0 x5_1).f4.f3) ((rd_T63 l0 x5_1).f4.f4) ((rd_T63 l0 x5_1).f4.f5) ((rd_T63 l0 x5_1).f4.f6) ((rd_T63 l0 x5_1).f5.f0) ((rd_T63 l0 x5_1).f5.f1) ((rd_T63 l0 x5_1).f6.f0) ((rd_T63 l0 x5_1).f6.f1) ((rd_T63 l0 x5_1).f6.f2) ((rd_T63 l0 x5_1).f6.f3) ((rd_T63 l0 x5_1).f6.f4) ((rd_T63 l0 x5_1).f6.f5) _ _ ((rd_T63 l0 x5_1).f6.f6) ((rd_T63 l0 x5_1).f7) ((rd_T63 l0 x5_1).f8) ((rd_T63 l1 x5_1).f0) ((rd_T63 l1 x5_1).f1) ((rd_T63 l1 x5_1).f2) ((rd_T63 l1 x5_1).f3) ((rd_T63 l1 x5_1).f4.f0) ((rd_T63 l1 x5_1).f4.f1) ((rd_T63 l1 x5_1).f4.f2) ((rd_T63 l1 x5_1).f4.f3) ((rd_T63 l1 x5_1).f4.f4) ((rd_T63 l1 x5_1).f4.f5) ((rd_T63 l1 x5_1).f4.f6) ((rd_T63 l1 x5_1).f5.f0) ((rd_T63 l1 x5_1).f5.f1) ((rd_T63 l1 x5_1).f6.f0) ((rd_T63 l1 x5_1).f6.f1) ((rd_T63 l1 x5_1).f6.f2) ((rd_T63 l1 x5_1).f6.f3) ((rd_T63 l1 x5_1).f6.f4) ((rd_T63 l1 x5_1).f6.f5) _ _ ((rd_T63 l1 x5_1).f6.f6) ((rd_T63 l1 x5_1).f7) ((rd_T63 l1 x5_1).f8) false _ ?side1 ?side2 ?side3 ?side4 A7.out).mono ?_
                (case side1 => repeat (first | exact (Kd.C_below HR201_19.out HB.out) | (with_reducible refine Kd.C_alloc ?_ _) | (with_reducible refine Kd.C_drewN ?_ _) | (with_reducible refine Kd.C_drew ?_)))
                (case side2 => exact HC201_19.out)
                (case side3 => repeat (first | exact (Kd.C_below HR202_19.out HB.out) | (with_reducible refine Kd.C_alloc ?_ _) | (with_reducible refine Kd.C_drewN ?_ _) | (with_reducible refine Kd.C_drew ?_)))
                (case side4 => exact HC202_19.out)
                rintro e w12 ⟨rfl, hb⟩
                refine ⟨_, rfl, ?_⟩
                have n0_ := Aside0.mk (below_step (by repeat (first | (with_reducible first | exact HB.out | apply below_alloc | apply pw_below_drewN | apply below_drew1) | exact HB.out)) hb)
                clear HB
                have HB := n0_
                clear n0_
                (try clear hb)
                (try clear hb2)
                (try clear hk)
                (try clear hi)
                refine hK.out _ _ ⟨(up_at HB.out E201.out), (up_at HB.out E202.out)⟩ (fun hHeld => ?_)
                clear hK K
                refine norm_ (a' := ?_) ?_ ?_
                rotate_left
                · show Act.put _ (some 25) _ = _
                  simp only [Act.put, List.setIfInBounds_toArray, List.set_cons_zero, List.set_cons_succ, i64_w, i32_w]
                  rfl
                refine pure_ (i := 9) (N := some 26) (v := ?_) (a' := ?_) #[true, true, true, true, true, true, true, true, true, true] rfl rfl (any_of HT_.out (by kernel_rfl)) (fun _ _ _ h => h) (Or.inl ⟨by rfl, ?_⟩) ?_ ?_
                rotate_left
                · intro w'
                  go_simp
                  with_reducible rfl
                rotate_left
                · simp only [Act.put, List.setIfInBounds_toArray, List.set_cons_zero, List.set_cons_succ, i64_w, i32_w]
                  rfl
                refine done_ (done_of HT_.out (by kernel_rfl)) ?_
                try go_wp2_with (first | ((with_reducible refine gate_load (t := 63) rfl ?_); refine load_at rfl 63 _ rfl _ rfl _ _ Try.underlying63 rfl (by kernel_rfl) (ee_22 hx201_0 hx201_1 hx201_2 hx201_3 hx201_4 hx201_5 hx201_6 hx201_7 hx201_8 hx201_9 hx201_10 hx201_11 hx201_12 hx201_13 hx201_14 hx201_15 hx201_16 hx201_17 hx201_18 hx201_19 hx201_20 hx201_21) ?_) | ((with_reducible refine gate_load (t := 63) rfl ?_); refine load_at rfl 63 _ rfl _ rfl _ _ Try.underlying63 rfl (by kernel_rfl) (ee_22 hx202_0 hx202_1 hx202_2 hx202_3 hx202_4 hx202_5 hx202_6 hx202_7 hx202_8 hx202_9 hx202_10 hx202_11 hx202_12 hx202_13 hx202_14 hx202_15 hx202_16 hx202_17 hx202_18 hx202_19 hx202_20 hx202_21) ?_))
                go_ret
                exact ⟨by first | rfl | (simp [errW_none, errW_some] <;> rfl) | (simp [*, errW_none, errW_some] <;> rfl), by repeat (first | (with_reducible first | exact HB.out | apply below_alloc | apply pw_below_drewN | apply below_drew1) | exact HB.out)⟩
            · rw [if_neg c6] at H
              exact absurd H (by simp)
          · rw [if_neg c5] at H
            exact absurd H (by simp)
        · rw [if_neg c4] at H
          have c4b0 : decide (x5_1 < (l0.length : Int)) = false := decide_eq_false c4
          clear c4
          obtain rfl := Option.some.inj H
          go_wp2
          go_ret
          exact ⟨by first | rfl | (simp [errW_none, errW_some] <;> rfl) | (simp [*, errW_none, errW_some] <;> rfl), by repeat (first | (with_reducible first | exact HB.out | apply below_alloc | apply pw_below_drewN | apply below_drew1) | exact HB.out)⟩
  · rw [if_neg c3] at H
    have c3b0 : ((l0.length : Int) == (l1.length : Int)) = false := beq_eq_false_iff_ne.mpr c3
    have c3b1 : ((l0.length : Int) != (l1.length : Int)) = true := bne_iff_ne.mpr c3
    have c3b2 : (l0.length == l1.length) = false := by first | simpa using c3 | (simp at c3 ⊢; omega)
    obtain rfl := Option.some.inj H
    go_enter Try.func36, Try.ntmps36
    go_wp2
    go_ret
    exact ⟨by first | rfl | (simp [errW_none, errW_some] <;> rfl) | (simp [*, errW_none, errW_some] <;> rfl), by repeat (first | (with_reducible first | exact HB.out | apply below_alloc | apply pw_below_drewN | apply below_drew1) | exact HB.out)⟩

/-! ### spec_Usable: function 91 -/
def spec_Usable.l0 : Nat → List (S63) → Int → Int → Option (Int)
  | 0, _, _, _ => none
  | k + 1, x0, x3, x4 => if x4 < (x0.length : Int) then (if 0 ≤ x4 then (if ((rd_T63 x0 x4).f8) = 0 then (spec_Usable.l0 k x0 x3 (wrap64 (x4 + 1))) else (spec_Usable.l0 k x0 (wrap64 (x3 + 1)) (wrap64 (x4 + 1)))) else (none)) else (some x3)
def spec_Usable.f (k : Nat) (l0 : List (S63)) : Option (Int) := spec_Usable.l0 k l0 0 0
theorem spec_Usable.mono_l : ∀ k, (∀ y0 y1 y2, LeO (spec_Usable.l0 k y0 y1 y2) (spec_Usable.l0 (k + 1) y0 y1 y2))
  | 0 => fun _ _ _ r h => by simp [spec_Usable.l0] at h
  | k + 1 => by
    have ih0 := spec_Usable.mono_l k
    · intro y0 y1 y2
      unfold spec_Usable.l0
      repeat' first
      | (with_reducible exact ih0 _ _ _)
      | (with_reducible exact LeO.refl _)
      | (with_reducible exact LeO.none _)
      | (with_reducible refine LeO.ite ?_ ?_)
      | (with_reducible refine LeO.bind ?_ (fun _ => ?_))
      | exact ih0 _ _ _
      | exact LeO.none _
      | refine LeO.ite ?_ ?_
      | refine LeO.bind ?_ (fun _ => ?_)
theorem spec_Usable.mono : ∀ a0 k, LeO (spec_Usable.f k a0) (spec_Usable.f (k + 1) a0) := by
  intro a0 k
  have ih0 := spec_Usable.mono_l k
  unfold spec_Usable.f
  repeat' first
      | (with_reducible exact ih0 _ _ _)
      | (with_reducible exact LeO.refl _)
      | (with_reducible exact LeO.none _)
      | (with_reducible refine LeO.ite ?_ ?_)
      | (with_reducible refine LeO.bind ?_ (fun _ => ?_))
      | exact ih0 _ _ _
      | exact LeO.none _
      | refine LeO.ite ?_ ?_
      | refine LeO.bind ?_ (fun _ => ?_)
set_option maxHeartbeats 8000000 in
set_option maxRecDepth 100000 in
theorem spec_Usable.calls (k : Nat) (A0 : Option Addr) (c0 : Nat) (l0 : List (S63)) (r : Int) (w : World) (hr0 : Kd.C k63 w A0 l0.length l0) (hc0 : l0.length ≤ c0) (h : spec_Usable.f k l0 = some r) :
    Calls Try.prog 91 #[.slice A0 l0.length c0] w fun e w' => e = .returned (.int .i64 r) ∧ Drawn0 w w' := by
  have HR0 := Aside0.mk hr0
  have HC0 := Aside0.mk hc0
  clear hr0 hc0
  have H : (spec_Usable.l0 k l0 0 0) = some r := h
  clear h
  have H' := Aside0.mk H
  clear H
  go_enter Try.func91, Try.ntmps91
  go_wp2
  go_loopg [3, 4] k (fun kq v3 v4 w' => ∃ (x3_1 : Int) (x4_1 : Int), v3 = .int .i64 x3_1 ∧ v4 = .int .i64 x4_1 ∧ Aside0 (spec_Usable.l0 kq l0 x3_1 x4_1 = some r) ∧ Aside0 (kq ≤ k) ∧ Drawn0 w w')
  case atStart => exact ⟨(0), (0), (by first | rfl | (simp; done) | (simp [*]; done)), (by first | rfl | (simp; done) | (simp [*]; done)), H', ⟨Nat.le_refl _⟩, by repeat (first | exact Drawn0.refl _ | apply Drawn0.step)⟩
  case round =>
    clear H'
    obtain ⟨x3_1, x4_1, rfl, rfl, HA, HK1, ⟨m1, rfl⟩⟩ := hrel
    cases gk with
    | zero => exact absurd HA.out (by simp [spec_Usable.l0])
    | succ k1 =>
      have H := HA.out
      clear HA
      simp only [spec_Usable.l0] at H
      by_cases c2 : x4_1 < (l0.length : Int)
      · rw [if_pos c2] at H
        have c2b0 : decide (x4_1 < (l0.length : Int)) = true := decide_eq_true c2
        clear c2
        by_cases c3 : 0 ≤ x4_1
        · rw [if_pos c3] at H
          have c3b0 : decide (0 ≤ x4_1) = true := decide_eq_true c3
          clear c3
          by_cases c4 : ((rd_T63 l0 x4_1).f8) = 0
          · rw [if_pos c4] at H
            have c4b0 : (((rd_T63 l0 x4_1).f8) == 0) = true := beq_iff_eq.mpr c4
            have c4b1 : (((rd_T63 l0 x4_1).f8) != 0) = false := bne_eq_false_iff_eq.mpr c4
            clear c4
            have H' := Aside0.mk H
            clear H
            have p204 : 0 ≤ (x4_1 : Int) := of_decide_eq_true (by first | (with_reducible assumption) | assumption)
            have q204 : x4_1 < (l0.length : Int) := of_decide_eq_true (by first | (with_reducible assumption) | assumption)
            obtain ⟨ad204, A204_19, c204_19, e204, hx204_0, hx204_1, hx204_2, hx204_3, hx204_4, hx204_5, hx204_6, hx204_7, hx204_8, hx204_9, hx204_10, hx204_11, hx204_12, hx204_13, hx204_14, hx204_15, hx204_16, hx204_17, hx204_18, hx204_19, hx204_20, hx204_21, hl204_19, hi204_19⟩ := at_T63 HR0.out x4_1 p204 q204
            cases e204
            have HR204_19 := Aside0.mk hi204_19
            have HC204_19 := Aside0.mk hl204_19
            clear hi204_19 hl204_19
            replace p204 := eq_true p204
            replace q204 := eq_true q204
            go_wp2_with (first | ((with_reducible refine gate_load (t := 63) rfl ?_); refine load_at rfl 63 _ rfl _ rfl _ _ Try.underlying63 rfl (by kernel_rfl) (ee_22 hx204_0 hx204_1 hx204_2 hx204_3 hx204_4 hx204_5 hx204_6 hx204_7 hx204_8 hx204_9 hx204_10 hx204_11 hx204_12 hx204_13 hx204_14 hx204_15 hx204_16 hx204_17 hx204_18 hx204_19 hx204_20 hx204_21) ?_))
            go_roundg k1
            case measure => have := HK1.out; omega
            case rel => exact ⟨(x3_1), (wrap64 (x4_1 + 1)), (by first | rfl | (simp; done) | (simp [*]; done)), (by first | rfl | (simp; done) | (simp [*]; done)), H', ⟨by have := HK1.out; omega⟩, by repeat (first | exact Drawn0.refl _ | apply Drawn0.step)⟩
          · rw [if_neg c4] at H
            have c4b0 : (((rd_T63 l0 x4_1).f8) == 0) = false := beq_eq_false_iff_ne.mpr c4
            have c4b1 : (((rd_T63 l0 x4_1).f8) != 0) = true := bne_iff_ne.mpr c4
            have H' := Aside0.mk H
            clear H
            have p204 : 0 ≤ (x4_1 : Int) := of_decide_eq_true (by first | (with_reducible assumption) | assumption)
            have q204 : x4_1 < (l0.length : Int) := of_decide_eq_true (by first | (with_reducible assumption) | assumption)
            obtain ⟨ad204, A204_19, c204_19, e204, hx204_0, hx204_1, hx204_2, hx204_3, hx204_4, hx204_5, hx204_6, hx204_7, hx204_8, hx204_9, hx204_10, hx204_11, hx204_12, hx204_13, hx204_14, hx204_15, hx204_16, hx204_17, hx204_18, hx204_19, hx204_20, hx204_21, hl204_19, hi204_19⟩ := at_T63 HR0.out x4_1 p204 q204
            cases e204
            have HR204_19 := Aside0.mk hi204_19
            have HC204_19 := Aside0.mk hl204_19
            clear hi204_19 hl204_19
            replace p204 := eq_true p204
            replace q204 := eq_true q204
            go_wp2_with (first | ((with_reducible refine gate_load (t := 63) rfl ?_); refine load_at rfl 63 _ rfl _ rfl _ _ Try.underlying63 rfl (by kernel_rfl) (ee_22 hx204_0 hx204_1 hx204_2 hx204_3 hx204_4 hx204_5 hx204_6 hx204_7 hx204_8 hx204_9 hx204_10 hx204_11 hx204_12 hx204_13 hx204_14 hx204_15 hx204_16 hx204_17 hx204_18 hx204_19 hx204_20 hx204_21) ?_))
            go_roundg k1
            case measure => have := HK1.out; omega
            case rel => exact ⟨(wrap64 (x3_1 + 1)), (wrap64 (x4_1 + 1)), (by first | rfl | (simp; done) | (simp [*]; done)), (by first | rfl | (simp; done) | (simp [*]; done)), H', ⟨by have := HK1.out; omega⟩, by repeat (first | exact Drawn0.refl _ | apply Drawn0.step)⟩
        · rw [if_neg c3] at H
          exact absurd H (by simp)
      · rw [if_neg c2] at H
        have c2b0 : decide (x4_1 < (l0.length : Int)) = false := decide_eq_false c2
        clear c2
        obtain rfl := Option.some.inj H
        go_wp2
        go_ret
        exact ⟨by first | rfl | (simp; done) | (simp [*]; done), by repeat (first | exact Drawn0.refl _ | apply Drawn0.step)⟩

/-! ### spec_Upto: function 100 -/
def spec_Upto.f (a0 : Int) (a1 : Int) : Option (Int) := if a1 < a0 then (if a1 < 0 then (some 0) else (some a1)) else (if a0 < 0 then (some 0) else (some a0))
set_option maxHeartbeats 8000000 in
set_option maxRecDepth 100000 in
theorem spec_Upto.calls (a0 : Int) (a1 : Int) (r : Int) (w : World) (h : spec_Upto.f a0 a1 = some r) :
    Calls Try.prog 100 #[.int .i64 a0, .int .i64 a1] w fun e w' => e = .returned (.int .i64 r) ∧ Drawn0 w w' := by
  have H : (if a1 < a0 then (if a1 < 0 then (some 0) else (some a1)) else (if a0 < 0 then (some 0) else (some a0))) = some r := h
  clear h
  by_cases c3 : a1 < a0
  · rw [if_pos c3] at H
    have c3b0 : decide (a1 < a0) = true := decide_eq_true c3
    clear c3
    by_cases c4 : a1 < 0
    · rw [if_pos c4] at H
      have c4b0 : decide (a1 < 0) = true := decide_eq_true c4
      clear c4
      obtain rfl := Option.some.inj H
      go_enter Try.func100, Try.ntmps100
      go_wp2
      go_ret
      exact ⟨by first | rfl | (simp; done) | (simp [*]; done), by repeat (first | exact Drawn0.refl _ | apply Drawn0.step)⟩
    · rw [if_neg c4] at H
      have c4b0 : decide (a1 < 0) = false := decide_eq_false c4
      clear c4
      obtain rfl := Option.some.inj H
      go_enter Try.func100, Try.ntmps100
      go_wp2
      go_ret
      exact ⟨by first | rfl | (simp; done) | (simp [*]; done), by repeat (first | exact Drawn0.refl _ | apply Drawn0.step)⟩
  · rw [if_neg c3] at H
    have c3b0 : decide (a1 < a0) = false := decide_eq_false c3
    clear c3
    by_cases c5 : a0 < 0
    · rw [if_pos c5] at H
      have c5b0 : decide (a0 < 0) = true := decide_eq_true c5
      clear c5
      obtain rfl := Option.some.inj H
      go_enter Try.func100, Try.ntmps100
      go_wp2
      go_ret
      exact ⟨by first | rfl | (simp; done) | (simp [*]; done), by repeat (first | exact Drawn0.refl _ | apply Drawn0.step)⟩
    · rw [if_neg c5] at H
      have c5b0 : decide (a0 < 0) = false := decide_eq_false c5
      clear c5
      obtain rfl := Option.some.inj H
      go_enter Try.func100, Try.ntmps100
      go_wp2
      go_ret
      exact ⟨by first | rfl | (simp; done) | (simp [*]; done), by repeat (first | exact Drawn0.refl _ | apply Drawn0.step)⟩

/-! ### spec_Bound: function 122 -/
def spec_Bound.f (a0 : Int) : Option (Int) := if a0 > 2147483647 then (some 2147483647) else (if a0 < (-2147483647) then (some (-2147483647)) else (some a0))
set_option maxHeartbeats 8000000 in
set_option maxRecDepth 100000 in
theorem spec_Bound.calls (a0 : Int) (r : Int) (w : World) (h : spec_Bound.f a0 = some r) :
    Calls Try.prog 122 #[.int .i64 a0] w fun e w' => e = .returned (.int .i64 r) ∧ Drawn0 w w' := by
  have H : (if a0 > 2147483647 then (some 2147483647) else (if a0 < (-2147483647) then (some (-2147483647)) else (some a0))) = some r := h
  clear h
  by_cases c2 : a0 > 2147483647
  · rw [if_pos c2] at H
    have c2b0 : decide (2147483647 < a0) = true := decide_eq_true c2
    clear c2
    obtain rfl := Option.some.inj H
    go_enter Try.func122, Try.ntmps122
    go_wp2
    go_ret
    exact ⟨by first | rfl | (simp; done) | (simp [*]; done), by repeat (first | exact Drawn0.refl _ | apply Drawn0.step)⟩
  · rw [if_neg c2] at H
    have c2b0 : decide (2147483647 < a0) = false := decide_eq_false c2
    clear c2
    by_cases c3 : a0 < (-2147483647)
    · rw [if_pos c3] at H
      have c3b0 : decide (a0 < (-2147483647)) = true := decide_eq_true c3
      clear c3
      obtain rfl := Option.some.inj H
      go_enter Try.func122, Try.ntmps122
      go_wp2
      go_ret
      exact ⟨by first | rfl | (simp; done) | (simp [*]; done), by repeat (first | exact Drawn0.refl _ | apply Drawn0.step)⟩
    · rw [if_neg c3] at H
      have c3b0 : decide (a0 < (-2147483647)) = false := decide_eq_false c3
      clear c3
      obtain rfl := Option.some.inj H
      go_enter Try.func122, Try.ntmps122
      go_wp2
      go_ret
      exact ⟨by first | rfl | (simp; done) | (simp [*]; done), by repeat (first | exact Drawn0.refl _ | apply Drawn0.step)⟩

/-! ### spec_Power: function 90 -/
def spec_Power.l0 : Nat → Int → Int → Int → Int → Option (Int)
  | 0, _, _, _, _ => none
  | k + 1, x1, x5, x6, x7 => if x7 < x1 then (if x7 < 64 then ((spec_Bound.f (wrap64 (x6 * x5))).bind fun t206 => (spec_Power.l0 k x1 x5 t206 (wrap64 (x7 + 1)))) else (some x6)) else (some x6)
def spec_Power.f (k : Nat) (a0 : Int) (a1 : Int) : Option (Int) := (spec_Upto.f a0 2147483647).bind fun t205 => (spec_Power.l0 k a1 t205 1 0)
theorem spec_Power.mono_l : ∀ k, (∀ y0 y1 y2 y3, LeO (spec_Power.l0 k y0 y1 y2 y3) (spec_Power.l0 (k + 1) y0 y1 y2 y3))
  | 0 => fun _ _ _ _ r h => by simp [spec_Power.l0] at h
  | k + 1 => by
    have ih0 := spec_Power.mono_l k
    · intro y0 y1 y2 y3
      unfold spec_Power.l0
      repeat' first
      | (with_reducible exact ih0 _ _ _ _)
      | (with_reducible exact LeO.refl _)
      | (with_reducible exact LeO.none _)
      | (with_reducible refine LeO.ite ?_ ?_)
      | (with_reducible refine LeO.bind ?_ (fun _ => ?_))
      | exact ih0 _ _ _ _
      | exact LeO.none _
      | refine LeO.ite ?_ ?_
      | refine LeO.bind ?_ (fun _ => ?_)
theorem spec_Power.mono : ∀ a0 a1 k, LeO (spec_Power.f k a0 a1) (spec_Power.f (k + 1) a0 a1) := by
  intro a0 a1 k
  have ih0 := spec_Power.mono_l k
  unfold spec_Power.f
  repeat' first
      | (with_reducible exact ih0 _ _ _ _)
      | (with_reducible exact LeO.refl _)
      | (with_reducible exact LeO.none _)
      | (with_reducible refine LeO.ite ?_ ?_)
      | (with_reducible refine LeO.bind ?_ (fun _ => ?_))
      | exact ih0 _ _ _ _
      | exact LeO.none _
      | refine LeO.ite ?_ ?_
      | refine LeO.bind ?_ (fun _ => ?_)
set_option maxHeartbeats 8000000 in
set_option maxRecDepth 100000 in
theorem spec_Power.calls (k : Nat) (a0 : Int) (a1 : Int) (r : Int) (w : World) (h : spec_Power.f k a0 a1 = some r) :
    Calls Try.prog 90 #[.int .i64 a0, .int .i64 a1] w fun e w' => e = .returned (.int .i64 r) ∧ Drawn0 w w' := by
  have H : ((spec_Upto.f a0 2147483647).bind fun t205 => (spec_Power.l0 k a1 t205 1 0)) = some r := h
  clear h
  replace H := Option.bind_eq_some_iff.mp H
  obtain ⟨t205, A30, H⟩ := H
  replace H : (spec_Power.l0 k a1 t205 1 0) = some r := H
  have A3 := Aside0.mk A30
  clear A30
  have H' := Aside0.mk H
  clear H
  go_enter Try.func90, Try.ntmps90
  go_wp2_with (first | ((with_reducible refine gate_callee (f := 100) rfl ?_); refine goesL_ (some 9) rfl rfl Try.func100 (by kernel_rfl) rfl #[.int .i64 a0, .int .i64 2147483647] rfl (by (try simp only [List.map_toArray, List.map_cons, List.map_nil]); first | done | rfl | (simp only [List.length_drop, List.length_take]; rfl)) ?_; (with_reducible refine (spec_Upto.calls a0 2147483647 t205 _ A3.out).mono ?_); rintro e w' ⟨rfl, ⟨nd, rfl⟩⟩; refine ⟨_, rfl, ?_⟩))
  go_loopg [6, 7] k (fun kq v6 v7 w' => ∃ (x6_1 : Int) (x7_1 : Int), v6 = .int .i64 x6_1 ∧ v7 = .int .i64 x7_1 ∧ Aside0 (spec_Power.l0 kq a1 t205 x6_1 x7_1 = some r) ∧ Aside0 (kq ≤ k) ∧ Drawn0 w w')
  case atStart => exact ⟨(1), (0), (by first | rfl | (simp; done) | (simp [*]; done)), (by first | rfl | (simp; done) | (simp [*]; done)), H', ⟨Nat.le_refl _⟩, by repeat (first | exact Drawn0.refl _ | apply Drawn0.step)⟩
  case round =>
    clear H'
    try clear c1
    try clear p2
    obtain ⟨x6_1, x7_1, rfl, rfl, HA, HK1, ⟨m1, rfl⟩⟩ := hrel
    cases gk with
    | zero => exact absurd HA.out (by simp [spec_Power.l0])
    | succ k1 =>
      have H := HA.out
      clear HA
      simp only [spec_Power.l0] at H
      by_cases c4 : x7_1 < a1
      · rw [if_pos c4] at H
        have c4b0 : decide (x7_1 < a1) = true := decide_eq_true c4
        clear c4
        by_cases c5 : x7_1 < 64
        · rw [if_pos c5] at H
          have c5b0 : decide (x7_1 < 64) = true := decide_eq_true c5
          clear c5
          replace H := Option.bind_eq_some_iff.mp H
          obtain ⟨t206, A60, H⟩ := H
          replace H : (spec_Power.l0 k1 a1 t205 t206 (wrap64 (x7_1 + 1))) = some r := H
          have A6 := Aside0.mk A60
          clear A60
          have H' := Aside0.mk H
          clear H
          go_wp2_with (first | ((with_reducible refine gate_callee (f := 122) rfl ?_); refine goesL_ (some 22) rfl rfl Try.func122 (by kernel_rfl) rfl #[.int .i64 (wrap64 (x6_1 * t205))] rfl (by (try simp only [List.map_toArray, List.map_cons, List.map_nil]); first | done | rfl | (simp only [List.length_drop, List.length_take]; rfl)) ?_; (with_reducible refine (spec_Bound.calls (wrap64 (x6_1 * t205)) t206 _ A6.out).mono ?_); rintro e w' ⟨rfl, ⟨nd, rfl⟩⟩; refine ⟨_, rfl, ?_⟩))
          go_roundg k1
          case measure => have := HK1.out; omega
          case rel => exact ⟨(t206), (wrap64 (x7_1 + 1)), (by first | rfl | (simp; done) | (simp [*]; done)), (by first | rfl | (simp; done) | (simp [*]; done)), H', ⟨by have := HK1.out; omega⟩, by repeat (first | exact Drawn0.refl _ | apply Drawn0.step)⟩
        · rw [if_neg c5] at H
          have c5b0 : decide (x7_1 < 64) = false := decide_eq_false c5
          clear c5
          obtain rfl := Option.some.inj H
          go_wp2
          go_ret
          exact ⟨by first | rfl | (simp; done) | (simp [*]; done), by repeat (first | exact Drawn0.refl _ | apply Drawn0.step)⟩
      · rw [if_neg c4] at H
        have c4b0 : decide (x7_1 < a1) = false := decide_eq_false c4
        clear c4
        obtain rfl := Option.some.inj H
        go_wp2
        go_ret
        exact ⟨by first | rfl | (simp; done) | (simp [*]; done), by repeat (first | exact Drawn0.refl _ | apply Drawn0.step)⟩

/-! ### spec_Plus: function 123 -/
def spec_Plus.f (a0 : Int) (a1 : Int) : Option (Int) := (spec_Bound.f a0).bind fun t207 => ((spec_Bound.f a1).bind fun t208 => ((spec_Bound.f (wrap64 (t207 + t208))).bind fun t209 => (some t209)))
set_option maxHeartbeats 8000000 in
set_option maxRecDepth 100000 in
theorem spec_Plus.calls (a0 : Int) (a1 : Int) (r : Int) (w : World) (h : spec_Plus.f a0 a1 = some r) :
    Calls Try.prog 123 #[.int .i64 a0, .int .i64 a1] w fun e w' => e = .returned (.int .i64 r) ∧ Drawn0 w w' := by
  have H : ((spec_Bound.f a0).bind fun t207 => ((spec_Bound.f a1).bind fun t208 => ((spec_Bound.f (wrap64 (t207 + t208))).bind fun t209 => (some t209)))) = some r := h
  clear h
  replace H := Option.bind_eq_some_iff.mp H
  obtain ⟨t207, A30, H⟩ := H
  replace H : ((spec_Bound.f a1).bind fun t208 => ((spec_Bound.f (wrap64 (t207 + t208))).bind fun t209 => (some t209))) = some r := H
  have A3 := Aside0.mk A30
  clear A30
  replace H := Option.bind_eq_some_iff.mp H
  obtain ⟨t208, A40, H⟩ := H
  replace H : ((spec_Bound.f (wrap64 (t207 + t208))).bind fun t209 => (some t209)) = some r := H
  have A4 := Aside0.mk A40
  clear A40
  replace H := Option.bind_eq_some_iff.mp H
  obtain ⟨t209, A50, H⟩ := H
  replace H : (some t209) = some r := H
  have A5 := Aside0.mk A50
  clear A50
  obtain rfl := Option.some.inj H
  go_enter Try.func123, Try.ntmps123
  go_wp2_with (first | ((with_reducible refine gate_callee (f := 122) rfl ?_); refine goesL_ (some 6) rfl rfl Try.func122 (by kernel_rfl) rfl #[.int .i64 a0] rfl (by (try simp only [List.map_toArray, List.map_cons, List.map_nil]); first | done | rfl | (simp only [List.length_drop, List.length_take]; rfl)) ?_; (with_reducible refine (spec_Bound.calls a0 t207 _ A3.out).mono ?_); rintro e w' ⟨rfl, ⟨nd, rfl⟩⟩; refine ⟨_, rfl, ?_⟩) | ((with_reducible refine gate_callee (f := 122) rfl ?_); refine goesL_ (some 8) rfl rfl Try.func122 (by kernel_rfl) rfl #[.int .i64 a1] rfl (by (try simp only [List.map_toArray, List.map_cons, List.map_nil]); first | done | rfl | (simp only [List.length_drop, List.length_take]; rfl)) ?_; (with_reducible refine (spec_Bound.calls a1 t208 _ A4.out).mono ?_); rintro e w' ⟨rfl, ⟨nd, rfl⟩⟩; refine ⟨_, rfl, ?_⟩) | ((with_reducible refine gate_callee (f := 122) rfl ?_); refine goesL_ (some 10) rfl rfl Try.func122 (by kernel_rfl) rfl #[.int .i64 (wrap64 (t207 + t208))] rfl (by (try simp only [List.map_toArray, List.map_cons, List.map_nil]); first | done | rfl | (simp only [List.length_drop, List.length_take]; rfl)) ?_; (with_reducible refine (spec_Bound.calls (wrap64 (t207 + t208)) t209 _ A5.out).mono ?_); rintro e w' ⟨rfl, ⟨nd, rfl⟩⟩; refine ⟨_, rfl, ?_⟩))
  go_ret
  exact ⟨by first | rfl | (simp; done) | (simp [*]; done), by repeat (first | exact Drawn0.refl _ | apply Drawn0.step)⟩

end Go.Proofs.Ytnbmifoebaoemaa.PFnExactMostTurns
