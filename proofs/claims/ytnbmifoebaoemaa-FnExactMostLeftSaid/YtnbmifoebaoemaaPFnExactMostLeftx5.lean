-- Written by wip/fix.py (a program of this session) out of the print of this claim. NSqueezed
import Derived.Test.YtnbmifoebaoemaaPFnExactMostLeftx0
import Derived.Test.YtnbmifoebaoemaaPFnExactMostLeftx1
import Derived.Test.YtnbmifoebaoemaaPFnExactMostLeftx2
import Derived.Test.YtnbmifoebaoemaaPFnExactMostLeftx4
import Derived.Test.YtnbmifoebaoemaaCells
namespace Go.Proofs.Ytnbmifoebaoemaa.PFnExactMostLeft
open Go.RowKit Go.Proofs.YtnbmifoebaoemaaW.PrintWords Go.Proofs.YtnbmifoebaoemaaW.PrintLast Go.Proofs.YtnbmifoebaoemaaW.PrintMore Go.Proofs.Ytnbmifoebaoemaa.Cells
attribute [local go_sem] max2_int min2_int max_two min_two max_three min_three max_four min_four   -- for this text's walks alone
set_option linter.unusedVariables false
set_option linter.unusedSimpArgs false

/-! ### laws_eqEffectS: function 36 -/
def laws_eqEffectS.l0 : Nat → List (S63) → List (S63) → Int → Option (Bool)
  | 0, _, _, _ => none
  | k + 1, x0, x1, x5 => if x5 < (x0.length : Int) then (if 0 ≤ x5 then (if x5 < (x1.length : Int) then ((laws_eqEffect.f k ((rd_T63 x0 x5).f0) ((rd_T63 x0 x5).f1) ((rd_T63 x0 x5).f2) ((rd_T63 x0 x5).f3) ((rd_T63 x0 x5).f4.f0) ((rd_T63 x0 x5).f4.f1) ((rd_T63 x0 x5).f4.f2) ((rd_T63 x0 x5).f4.f3) ((rd_T63 x0 x5).f4.f4) ((rd_T63 x0 x5).f4.f5) ((rd_T63 x0 x5).f4.f6) ((rd_T63 x0 x5).f5.f0) ((rd_T63 x0 x5).f5.f1) ((rd_T63 x0 x5).f6.f0) ((rd_T63 x0 x5).f6.f1) ((rd_T63 x0 x5).f6.f2) ((rd_T63 x0 x5).f6.f3) ((rd_T63 x0 x5).f6.f4) ((rd_T63 x0 x5).f6.f5) ((rd_T63 x0 x5).f6.f6) ((rd_T63 x0 x5).f7) ((rd_T63 x0 x5).f8) ((rd_T63 x1 x5).f0) ((rd_T63 x1 x5).f1) ((rd_T63 x1 x5).f2) ((rd_T63 x1 x5).f3) ((rd_T63 x1 x5).f4.f0) ((rd_T63 x1 x5).f4.f1) ((rd_T63 x1 x5).f4.f2) ((rd_T63 x1 x5).f4.f3) ((rd_T63 x1 x5).f4.f4) ((rd_T63 x1 x5).f4.f5) ((rd_T63 x1 x5).f4.f6) ((rd_T63 x1 x5).f5.f0) ((rd_T63 x1 x5).f5.f1) ((rd_T63 x1 x5).f6.f0) ((rd_T63 x1 x5).f6.f1) ((rd_T63 x1 x5).f6.f2) ((rd_T63 x1 x5).f6.f3) ((rd_T63 x1 x5).f6.f4) ((rd_T63 x1 x5).f6.f5) ((rd_T63 x1 x5).f6.f6) ((rd_T63 x1 x5).f7) ((rd_T63 x1 x5).f8)).bind fun t213 => (if t213 = true then (laws_eqEffectS.l0 k x0 x1 (wrap64 (x5 + 1))) else (some false))) else (none)) else (none)) else (some true)
def laws_eqEffectS.f (k : Nat) (l0 : List (S63)) (l1 : List (S63)) : Option (Bool) := if (l0.length : Int) = (l1.length : Int) then (laws_eqEffectS.l0 k l0 l1 0) else (some false)
theorem laws_eqEffectS.mono_l : ∀ k, (∀ y0 y1 y2, LeO (laws_eqEffectS.l0 k y0 y1 y2) (laws_eqEffectS.l0 (k + 1) y0 y1 y2))
  | 0 => fun _ _ _ r h => by simp [laws_eqEffectS.l0] at h
  | k + 1 => by
    have ih0 := laws_eqEffectS.mono_l k
    · intro y0 y1 y2
      unfold laws_eqEffectS.l0
      repeat' first
      | (with_reducible exact ih0 _ _ _)
      | (with_reducible exact laws_eqEffect.mono _ _ _ _ _ _ _ _ _ _ _ _ _ _ _ _ _ _ _ _ _ _ _ _ _ _ _ _ _ _ _ _ _ _ _ _ _ _ _ _ _ _ _ _ _)
      | (with_reducible exact LeO.refl _)
      | (with_reducible exact LeO.none _)
      | (with_reducible refine LeO.ite ?_ ?_)
      | (with_reducible refine LeO.bind ?_ (fun _ => ?_))
      | exact ih0 _ _ _
      | exact laws_eqEffect.mono _ _ _ _ _ _ _ _ _ _ _ _ _ _ _ _ _ _ _ _ _ _ _ _ _ _ _ _ _ _ _ _ _ _ _ _ _ _ _ _ _ _ _ _ _
      | exact LeO.none _
      | refine LeO.ite ?_ ?_
      | refine LeO.bind ?_ (fun _ => ?_)
theorem laws_eqEffectS.mono : ∀ a0 a1 k, LeO (laws_eqEffectS.f k a0 a1) (laws_eqEffectS.f (k + 1) a0 a1) := by
  intro a0 a1 k
  have ih0 := laws_eqEffectS.mono_l k
  unfold laws_eqEffectS.f
  repeat' first
      | (with_reducible exact ih0 _ _ _)
      | (with_reducible exact laws_eqEffect.mono _ _ _ _ _ _ _ _ _ _ _ _ _ _ _ _ _ _ _ _ _ _ _ _ _ _ _ _ _ _ _ _ _ _ _ _ _ _ _ _ _ _ _ _ _)
      | (with_reducible exact LeO.refl _)
      | (with_reducible exact LeO.none _)
      | (with_reducible refine LeO.ite ?_ ?_)
      | (with_reducible refine LeO.bind ?_ (fun _ => ?_))
      | exact ih0 _ _ _
      | exact laws_eqEffect.mono _ _ _ _ _ _ _ _ _ _ _ _ _ _ _ _ _ _ _ _ _ _ _ _ _ _ _ _ _ _ _ _ _ _ _ _ _ _ _ _ _ _ _ _ _
      | exact LeO.none _
      | refine LeO.ite ?_ ?_
      | refine LeO.bind ?_ (fun _ => ?_)
def laws_eqEffectS.T6 : Bool × List (List Nat × List Nat) := (true, [([], []), ([], []), ([0, 1], [0, 1]), ([2], [2]), ([], []), ([], []), ([4, 5], [4, 5]), ([6], [6]), ([3, 7], [3, 7]), ([8], [8])])
def laws_eqEffectS.B6 : List Nat := [0, 0, 3, 7, 0, 0, 48, 112, 255, 511]
theorem laws_eqEffectS.tab6 : rtab .any (opsOf Try.f36 6) = laws_eqEffectS.T6 := by kernel_rfl
theorem laws_eqEffectS.bits6 : waitsOk laws_eqEffectS.T6.2 laws_eqEffectS.B6 = true := by kernel_rfl
set_option maxHeartbeats 8000000 in
set_option maxRecDepth 100000 in
theorem laws_eqEffectS.calls (k : Nat) (A0 : Option Addr) (c0 : Nat) (l0 : List (S63)) (A1 : Option Addr) (c1 : Nat) (l1 : List (S63)) (r : Bool) (w : World) (hr0 : Kd.C k63 w A0 l0.length l0) (hc0 : l0.length ≤ c0) (hr1 : Kd.C k63 w A1 l1.length l1) (hc1 : l1.length ≤ c1) (h : laws_eqEffectS.f k l0 l1 = some r) :
    Calls Try.prog 36 #[.slice A0 l0.length c0, .slice A1 l1.length c1] w fun e w' => e = .returned (.bool r) ∧ Below w.heap.size w w' := by
  have hu63 := Try.underlying63
  have HR0 := Aside0.mk hr0
  have HC0 := Aside0.mk hc0
  clear hr0 hc0
  have HR1 := Aside0.mk hr1
  have HC1 := Aside0.mk hc1
  clear hr1 hc1
  have HB := Aside0.mk (Below.refl w.heap.size w)
  have H : (if (l0.length : Int) = (l1.length : Int) then (laws_eqEffectS.l0 k l0 l1 0) else (some false)) = some r := h
  clear h
  by_cases c3 : (l0.length : Int) = (l1.length : Int)
  · rw [if_pos c3] at H
    have c3b0 : ((l0.length : Int) == (l1.length : Int)) = true := beq_iff_eq.mpr c3
    have c3b1 : ((l0.length : Int) != (l1.length : Int)) = false := bne_eq_false_iff_eq.mpr c3
    have c3b2 : (l0.length == l1.length) = true := by first | simpa using c3 | (simp at c3 ⊢; omega)
    clear c3
    have H' := Aside0.mk H
    clear H
    go_enter Try.func36, Try.ntmps36
    go_wp2
    go_loopg [5] k (fun kq v5 w' => ∃ (x5_1 : Int), v5 = .int .i64 x5_1 ∧ Aside0 (laws_eqEffectS.l0 kq l0 l1 x5_1 = some r) ∧ Aside0 (kq ≤ k) ∧ Aside0 (Below w.heap.size w w'))
    case atStart => exact ⟨(0), (by first | rfl | (simp; done) | (simp [*]; done)), H', ⟨Nat.le_refl _⟩, ⟨by repeat (first | (with_reducible first | exact HB.out | apply below_alloc | apply pw_below_drewN | apply below_drew1) | exact HB.out)⟩⟩
    case round =>
      clear H'
      try clear c1
      try clear p2
      try clear c3
      try clear c3b0
      try clear c3b1
      try clear c3b2
      obtain ⟨x5_1, rfl, HA, HK1, HB⟩ := hrel
      cases gk with
      | zero => exact absurd HA.out (by simp [laws_eqEffectS.l0])
      | succ k1 =>
        have H := HA.out
        clear HA
        simp only [laws_eqEffectS.l0] at H
        by_cases c4 : x5_1 < (l0.length : Int)
        · rw [if_pos c4] at H
          have c4b0 : decide (x5_1 < (l0.length : Int)) = true := decide_eq_true c4
          clear c4
          by_cases c5 : 0 ≤ x5_1
          · rw [if_pos c5] at H
            have c5b0 : decide (0 ≤ x5_1) = true := decide_eq_true c5
            clear c5
            by_cases c6 : x5_1 < (l1.length : Int)
            · rw [if_pos c6] at H
              have c6b0 : decide (x5_1 < (l1.length : Int)) = true := decide_eq_true c6
              clear c6
              replace H := Option.bind_eq_some_iff.mp H
              obtain ⟨t213, A70, H⟩ := H
              replace H : (if t213 = true then (laws_eqEffectS.l0 k1 l0 l1 (wrap64 (x5_1 + 1))) else (some false)) = some r := H
              have A7 := Aside0.mk A70
              clear A70
              by_cases c8 : t213 = true
              · subst c8
                have H1 : (laws_eqEffectS.l0 k1 l0 l1 (wrap64 (x5_1 + 1))) = some r := by rw [if_pos rfl] at H; exact H
                clear H
                have H := H1
                clear H1
                have H' := Aside0.mk H
                clear H
                try go_wp2
                have n0_ := Aside0.mk (below_drew1 HB.out)
                clear HB
                have HB := n0_
                clear n0_
                have p211 : 0 ≤ (x5_1 : Int) := of_decide_eq_true (by first | (with_reducible assumption) | assumption)
                have q211 : x5_1 < (l0.length : Int) := of_decide_eq_true (by first | (with_reducible assumption) | assumption)
                obtain ⟨ad211, A211_19, c211_19, e211, hx211_0, hx211_1, hx211_2, hx211_3, hx211_4, hx211_5, hx211_6, hx211_7, hx211_8, hx211_9, hx211_10, hx211_11, hx211_12, hx211_13, hx211_14, hx211_15, hx211_16, hx211_17, hx211_18, hx211_19, hx211_20, hx211_21, hl211_19, hi211_19⟩ := at_T63 HR0.out x5_1 p211 q211
                have E211 := Aside0.mk (ee_22 hx211_0 hx211_1 hx211_2 hx211_3 hx211_4 hx211_5 hx211_6 hx211_7 hx211_8 hx211_9 hx211_10 hx211_11 hx211_12 hx211_13 hx211_14 hx211_15 hx211_16 hx211_17 hx211_18 hx211_19 hx211_20 hx211_21)
                clear hx211_0 hx211_1 hx211_2 hx211_3 hx211_4 hx211_5 hx211_6 hx211_7 hx211_8 hx211_9 hx211_10 hx211_11 hx211_12 hx211_13 hx211_14 hx211_15 hx211_16 hx211_17 hx211_18 hx211_19 hx211_20 hx211_21

                cases e211

                have HR211_19 := Aside0.mk hi211_19
                have HC211_19 := Aside0.mk hl211_19
                clear hi211_19 hl211_19
                replace p211 := eq_true p211
                replace q211 := eq_true q211
                have p212 : 0 ≤ (x5_1 : Int) := of_decide_eq_true (by first | (with_reducible assumption) | assumption)
                have q212 : x5_1 < (l1.length : Int) := of_decide_eq_true (by first | (with_reducible assumption) | assumption)
                obtain ⟨ad212, A212_19, c212_19, e212, hx212_0, hx212_1, hx212_2, hx212_3, hx212_4, hx212_5, hx212_6, hx212_7, hx212_8, hx212_9, hx212_10, hx212_11, hx212_12, hx212_13, hx212_14, hx212_15, hx212_16, hx212_17, hx212_18, hx212_19, hx212_20, hx212_21, hl212_19, hi212_19⟩ := at_T63 HR1.out x5_1 p212 q212
                have E212 := Aside0.mk (ee_22 hx212_0 hx212_1 hx212_2 hx212_3 hx212_4 hx212_5 hx212_6 hx212_7 hx212_8 hx212_9 hx212_10 hx212_11 hx212_12 hx212_13 hx212_14 hx212_15 hx212_16 hx212_17 hx212_18 hx212_19 hx212_20 hx212_21)
                clear hx212_0 hx212_1 hx212_2 hx212_3 hx212_4 hx212_5 hx212_6 hx212_7 hx212_8 hx212_9 hx212_10 hx212_11 hx212_12 hx212_13 hx212_14 hx212_15 hx212_16 hx212_17 hx212_18 hx212_19 hx212_20 hx212_21

                cases e212

                have HR212_19 := Aside0.mk hi212_19
                have HC212_19 := Aside0.mk hl212_19
                clear hi212_19 hl212_19
                replace p212 := eq_true p212
                replace q212 := eq_true q212
                refine start_ (n := 10) (S := fun w' => (∀ j v, ([.int .i64 ((rd_T63 l0 x5_1).f0), .int .i64 ((rd_T63 l0 x5_1).f1), .int .i64 ((rd_T63 l0 x5_1).f2), .int .i64 ((rd_T63 l0 x5_1).f3), .int .i64 ((rd_T63 l0 x5_1).f4.f0), .int .i64 ((rd_T63 l0 x5_1).f4.f1), .int .i64 ((rd_T63 l0 x5_1).f4.f2), .int .i64 ((rd_T63 l0 x5_1).f4.f3), .int .i64 ((rd_T63 l0 x5_1).f4.f4), .int .i64 ((rd_T63 l0 x5_1).f4.f5), .int .i64 ((rd_T63 l0 x5_1).f4.f6), .int .i64 ((rd_T63 l0 x5_1).f5.f0), .int .i64 ((rd_T63 l0 x5_1).f5.f1), .int .i64 ((rd_T63 l0 x5_1).f6.f0), .int .i64 ((rd_T63 l0 x5_1).f6.f1), .int .i64 ((rd_T63 l0 x5_1).f6.f2), .int .i64 ((rd_T63 l0 x5_1).f6.f3), .int .i64 ((rd_T63 l0 x5_1).f6.f4), .bool ((rd_T63 l0 x5_1).f6.f5), .slice A211_19 ((rd_T63 l0 x5_1).f6.f6).length c211_19, .int .i64 ((rd_T63 l0 x5_1).f7), .int .i64 ((rd_T63 l0 x5_1).f8)] : List Value)[j]? = some v → w'.cell? ((ad211.add ((x5_1).toNat * 22)).add j) = some v) ∧ (∀ j v, ([.int .i64 ((rd_T63 l1 x5_1).f0), .int .i64 ((rd_T63 l1 x5_1).f1), .int .i64 ((rd_T63 l1 x5_1).f2), .int .i64 ((rd_T63 l1 x5_1).f3), .int .i64 ((rd_T63 l1 x5_1).f4.f0), .int .i64 ((rd_T63 l1 x5_1).f4.f1), .int .i64 ((rd_T63 l1 x5_1).f4.f2), .int .i64 ((rd_T63 l1 x5_1).f4.f3), .int .i64 ((rd_T63 l1 x5_1).f4.f4), .int .i64 ((rd_T63 l1 x5_1).f4.f5), .int .i64 ((rd_T63 l1 x5_1).f4.f6), .int .i64 ((rd_T63 l1 x5_1).f5.f0), .int .i64 ((rd_T63 l1 x5_1).f5.f1), .int .i64 ((rd_T63 l1 x5_1).f6.f0), .int .i64 ((rd_T63 l1 x5_1).f6.f1), .int .i64 ((rd_T63 l1 x5_1).f6.f2), .int .i64 ((rd_T63 l1 x5_1).f6.f3), .int .i64 ((rd_T63 l1 x5_1).f6.f4), .bool ((rd_T63 l1 x5_1).f6.f5), .slice A212_19 ((rd_T63 l1 x5_1).f6.f6).length c212_19, .int .i64 ((rd_T63 l1 x5_1).f7), .int .i64 ((rd_T63 l1 x5_1).f8)] : List Value)[j]? = some v → w'.cell? ((ad212.add ((x5_1).toNat * 22)).add j) = some v)) (ds := []) #[false, false, false, false, false, false, false, false, false, false] (by kernel_rfl) rfl rfl ⟨(up_at HB.out E211.out), (up_at HB.out E212.out)⟩ (fun hHeld => ?_); refine with_tabW laws_eqEffectS.tab6 laws_eqEffectS.bits6 (fun HT_ HW_ => ?_)
                generalize wr.drew = w9 at HB HR211_19 HR212_19 hHeld ⊢
                refine pure_ (i := 0) (N := some 17) (v := ?_) (a' := ?_) #[true, false, false, false, false, false, false, false, false, false] rfl rfl (any_of HT_.out (by kernel_rfl)) (fun _ _ _ h => h) (Or.inl ⟨by rfl, ?_⟩) ?_ ?_
                rotate_left
                · intro w'
                  go_simp
                  with_reducible rfl
                rotate_left
                · simp only [Act.put, List.setIfInBounds_toArray, List.set_cons_zero, List.set_cons_succ, i64_w, i32_w]
                  rfl
                refine pure_ (i := 1) (N := some 18) (v := ?_) (a' := ?_) #[true, true, false, false, false, false, false, false, false, false] rfl rfl (any_of HT_.out (by kernel_rfl)) (fun _ _ _ h => h) (Or.inl ⟨by rfl, ?_⟩) ?_ ?_
                rotate_left
                · intro w'
                  go_simp
                  with_reducible rfl
                rotate_left
                · simp only [Act.put, List.setIfInBounds_toArray, List.set_cons_zero, List.set_cons_succ, i64_w, i32_w]
                  rfl
                refine pure_ (i := 2) (N := some 19) (v := ?_) (a' := ?_) #[true, true, true, false, false, false, false, false, false, false] rfl rfl (any_of HT_.out (by kernel_rfl)) (fun _ _ _ h => h) (Or.inl ⟨by rfl, ?_⟩) ?_ ?_
                rotate_left
                · intro w'
                  go_simp
                  with_reducible rfl
                rotate_left
                · simp only [Act.put, List.setIfInBounds_toArray, List.set_cons_zero, List.set_cons_succ, i64_w, i32_w]
                  rfl
                refine pure_ (i := 4) (N := some 21) (v := ?_) (a' := ?_) #[true, true, true, false, true, false, false, false, false, false] rfl rfl (any_of HT_.out (by kernel_rfl)) (fun _ _ _ h => h) (Or.inl ⟨by rfl, ?_⟩) ?_ ?_
                rotate_left
                · intro w'
                  go_simp
                  with_reducible rfl
                rotate_left
                · simp only [Act.put, List.setIfInBounds_toArray, List.set_cons_zero, List.set_cons_succ, i64_w, i32_w]
                  rfl
                refine pure_ (i := 5) (N := some 22) (v := ?_) (a' := ?_) #[true, true, true, false, true, true, false, false, false, false] rfl rfl (any_of HT_.out (by kernel_rfl)) (fun _ _ _ h => h) (Or.inl ⟨by rfl, ?_⟩) ?_ ?_
                rotate_left
                · intro w'
                  go_simp
                  with_reducible rfl
                rotate_left
                · simp only [Act.put, List.setIfInBounds_toArray, List.set_cons_zero, List.set_cons_succ, i64_w, i32_w]
                  rfl
                refine pure_ (i := 6) (N := some 23) (v := ?_) (a' := ?_) #[true, true, true, false, true, true, true, false, false, false] rfl rfl (any_of HT_.out (by kernel_rfl)) (fun _ _ _ h => h) (Or.inl ⟨by rfl, ?_⟩) ?_ ?_
                rotate_left
                · intro w'
                  go_simp
                  with_reducible rfl
                rotate_left
                · simp only [Act.put, List.setIfInBounds_toArray, List.set_cons_zero, List.set_cons_succ, i64_w, i32_w]
                  rfl
                refine take_ (i := 3) (N := some 20) (v := ?_) (a' := ?_) #[true, true, true, true, true, true, true, false, false, false] rfl rfl (take_ofW HT_.out HW_.out (by kernel_rfl)) (fun _ _ _ h => h) (Or.inl ⟨by rfl, ?_⟩) hHeld ?_ ?_
                rotate_left
                · rintro w' ⟨s0, s1⟩
                  first | (refine Eq.trans (run_execOp_load 63 _ (by rfl) _ (by rfl) _ _ Try.underlying63 rfl (by kernel_rfl) s0) ?_; with_reducible rfl) | (refine Eq.trans (run_execOp_load 63 _ (by rfl) _ (by rfl) _ _ Try.underlying63 rfl (by kernel_rfl) s1) ?_; with_reducible rfl) | (go_simp; with_reducible rfl)

                rotate_left
                · simp only [Act.put, List.setIfInBounds_toArray, List.set_cons_zero, List.set_cons_succ, i64_w, i32_w]
                  rfl
                refine take_ (i := 7) (N := some 24) (v := ?_) (a' := ?_) #[true, true, true, true, true, true, true, true, false, false] rfl rfl (take_ofW HT_.out HW_.out (by kernel_rfl)) (fun _ _ _ h => h) (Or.inl ⟨by rfl, ?_⟩) hHeld ?_ ?_
                rotate_left
                · rintro w' ⟨s0, s1⟩
                  first | (refine Eq.trans (run_execOp_load 63 _ (by rfl) _ (by rfl) _ _ Try.underlying63 rfl (by kernel_rfl) s0) ?_; with_reducible rfl) | (refine Eq.trans (run_execOp_load 63 _ (by rfl) _ (by rfl) _ _ Try.underlying63 rfl (by kernel_rfl) s1) ?_; with_reducible rfl) | (go_simp; with_reducible rfl)

                rotate_left
                · simp only [Act.put, List.setIfInBounds_toArray, List.set_cons_zero, List.set_cons_succ, i64_w, i32_w]
                  rfl
                refine one_ (i := 8) (N := some 25) #[true, true, true, true, true, true, true, true, true, false] rfl rfl (one_of HT_.out (by kernel_rfl)) (by decide) (fun K hK => ?_)
                refine goes_ Try.func30 (by kernel_rfl) rfl #[.agg #[.int .i64 ((rd_T63 l0 x5_1).f0), .int .i64 ((rd_T63 l0 x5_1).f1), .int .i64 ((rd_T63 l0 x5_1).f2), .int .i64 ((rd_T63 l0 x5_1).f3), .int .i64 ((rd_T63 l0 x5_1).f4.f0), .int .i64 ((rd_T63 l0 x5_1).f4.f1), .int .i64 ((rd_T63 l0 x5_1).f4.f2), .int .i64 ((rd_T63 l0 x5_1).f4.f3), .int .i64 ((rd_T63 l0 x5_1).f4.f4), .int .i64 ((rd_T63 l0 x5_1).f4.f5), .int .i64 ((rd_T63 l0 x5_1).f4.f6), .int .i64 ((rd_T63 l0 x5_1).f5.f0), .int .i64 ((rd_T63 l0 x5_1).f5.f1), .int .i64 ((rd_T63 l0 x5_1).f6.f0), .int .i64 ((rd_T63 l0 x5_1).f6.f1), .int .i64 ((rd_T63 l0 x5_1).f6.f2), .int .i64 ((rd_T63 l0 x5_1).f6.f3), .int .i64 ((rd_T63 l0 x5_1).f6.f4), .bool ((rd_T63 l0 x5_1).f6.f5), .slice A211_19 ((rd_T63 l0 x5_1).f6.f6).length c211_19, .int .i64 ((rd_T63 l0 x5_1).f7), .int .i64 ((rd_T63 l0 x5_1).f8)], .agg #[.int .i64 ((rd_T63 l1 x5_1).f0), .int .i64 ((rd_T63 l1 x5_1).f1), .int .i64 ((rd_T63 l1 x5_1).f2), .int .i64 ((rd_T63 l1 x5_1).f3), .int .i64 ((rd_T63 l1 x5_1).f4.f0), .int .i64 ((rd_T63 l1 x5_1).f4.f1), .int .i64 ((rd_T63 l1 x5_1).f4.f2), .int .i64 ((rd_T63 l1 x5_1).f4.f3), .int .i64 ((rd_T63 l1 x5_1).f4.f4), .int .i64 ((rd_T63 l1 x5_1).f4.f5), .int .i64 ((rd_T63 l1 x5_1).f4.f6), .int .i64 ((rd_T63 l1 x5_1).f5.f0), .int .i64 ((rd_T63 l1 x5_1).f5.f1), .int .i64 ((rd_T63 l1 x5_1).f6.f0), .int .i64 ((rd_T63 l1 x5_1).f6.f1), .int .i64 ((rd_T63 l1 x5_1).f6.f2), .int .i64 ((rd_T63 l1 x5_1).f6.f3), .int .i64 ((rd_T63 l1 x5_1).f6.f4), .bool ((rd_T63 l1 x5_1).f6.f5), .slice A212_19 ((rd_T63 l1 x5_1).f6.f6).length c212_19, .int .i64 ((rd_T63 l1 x5_1).f7), .int .i64 ((rd_T63 l1 x5_1).f8)]] (by rfl) rfl rfl (by (try simp only [List.map_toArray, List.map_cons, List.map_nil]); first | done | rfl | (simp only [List.length_drop, List.length_take]; rfl)) ?_
                with_reducible refine (laws_eqEffect.calls k1 ((rd_T63 l0 x5_1).f0) ((rd_T63 l0 x5_1).f1) ((rd_T63 l0 x5_1).f2) ((rd_T63 l0 x5_1).f3) ((rd_T63 l0 x5_1).f4.f0) ((rd_T63 l0 x5_1).f4.f1) ((rd_T63 l0 x5_1).f4.f2) ((rd_T63 l0 x5_1).f4.f3) ((rd_T63 l0 x5_1).f4.f4) ((rd_T63 l0 x5_1).f4.f5) ((rd_T63 l0 x5_1).f4.f6) ((rd_T63 l0 x5_1).f5.f0) ((rd_T63 l0 x5_1).f5.f1) ((rd_T63 l0 x5_1).f6.f0) ((rd_T63 l0 x5_1).f6.f1) ((rd_T63 l0 x5_1).f6.f2) ((rd_T63 l0 x5_1).f6.f3) ((rd_T63 l0 x5_1).f6.f4) ((rd_T63 l0 x5_1).f6.f5) _ _ ((rd_T63 l0 x5_1).f6.f6) ((rd_T63 l0 x5_1).f7) ((rd_T63 l0 x5_1).f8) ((rd_T63 l1 x5_1).f0) ((rd_T63 l1 x5_1).f1) ((rd_T63 l1 x5_1).f2) ((rd_T63 l1 x5_1).f3) ((rd_T63 l1 x5_1).f4.f0) ((rd_T63 l1 x5_1).f4.f1) ((rd_T63 l1 x5_1).f4.f2) ((rd_T63 l1 x5_1).f4.f3) ((rd_T63 l1 x5_1).f4.f4) ((rd_T63 l1 x5_1).f4.f5) ((rd_T63 l1 x5_1).f4.f6) ((rd_T63 l1 x5_1).f5.f0) ((rd_T63 l1 x5_1).f5.f1) ((rd_T63 l1 x5_1).f6.f0) ((rd_T63 l1 x5_1).f6.f1) ((rd_T63 l1 x5_1).f6.f2) ((rd_T63 l1 x5_1).f6.f3) ((rd_T63 l1 x5_1).f6.f4) ((rd_T63 l1 x5_1).f6.f5) _ _ ((rd_T63 l1 x5_1).f6.f6) ((rd_T63 l1 x5_1).f7) ((rd_T63 l1 x5_1).f8) true _ ?side1 ?side2 ?side3 ?side4 A7.out).mono ?_
                (case side1 => repeat (first | exact (Kd.C_below HR211_19.out HB.out) | (with_reducible refine Kd.C_alloc ?_ _) | (with_reducible refine Kd.C_drewN ?_ _) | (with_reducible refine Kd.C_drew ?_)))
                (case side2 => exact HC211_19.out)
                (case side3 => repeat (first | exact (Kd.C_below HR212_19.out HB.out) | (with_reducible refine Kd.C_alloc ?_ _) | (with_reducible refine Kd.C_drewN ?_ _) | (with_reducible refine Kd.C_drew ?_)))
                (case side4 => exact HC212_19.out)
                rintro e w10 ⟨rfl, hb⟩
                refine ⟨_, rfl, ?_⟩
                have n0_ := Aside0.mk (below_step (by repeat (first | (with_reducible first | exact HB.out | apply below_alloc | apply pw_below_drewN | apply below_drew1) | exact HB.out)) hb)
                clear HB
                have HB := n0_
                clear n0_
                (try clear hb)
                (try clear hb2)
                (try clear hk)
                (try clear hi)
                refine hK.out _ _ ⟨(up_at HB.out E211.out), (up_at HB.out E212.out)⟩ (fun hHeld => ?_)
                clear hK K
                refine norm_ (a' := ?_) ?_ ?_
                rotate_left
                · show Act.put _ (some 25) _ = _
                  simp only [Act.put, List.setIfInBounds_toArray, List.set_cons_zero, List.set_cons_succ, i64_w, i32_w]
                  rfl
                refine pure_ (i := 9) (N := some 26) (v := ?_) (a' := ?_) #[true, true, true, true, true, true, true, true, true, true] rfl rfl (any_of HT_.out (by kernel_rfl)) (fun _ _ _ h => h) (Or.inl ⟨by rfl, ?_⟩) ?_ ?_
                rotate_left
                · intro w'
                  go_simp
                  with_reducible rfl
                rotate_left
                · simp only [Act.put, List.setIfInBounds_toArray, List.set_cons_zero, List.set_cons_succ, i64_w, i32_w]
                  rfl
                refine done_ (done_of HT_.out (by kernel_rfl)) ?_
                try go_wp2_with (first | ((with_reducible refine gate_load (t := 63) rfl ?_); refine load_at rfl 63 _ rfl _ rfl _ _ Try.underlying63 rfl (by kernel_rfl) (ee_22 hx211_0 hx211_1 hx211_2 hx211_3 hx211_4 hx211_5 hx211_6 hx211_7 hx211_8 hx211_9 hx211_10 hx211_11 hx211_12 hx211_13 hx211_14 hx211_15 hx211_16 hx211_17 hx211_18 hx211_19 hx211_20 hx211_21) ?_) | ((with_reducible refine gate_load (t := 63) rfl ?_); refine load_at rfl 63 _ rfl _ rfl _ _ Try.underlying63 rfl (by kernel_rfl) (ee_22 hx212_0 hx212_1 hx212_2 hx212_3 hx212_4 hx212_5 hx212_6 hx212_7 hx212_8 hx212_9 hx212_10 hx212_11 hx212_12 hx212_13 hx212_14 hx212_15 hx212_16 hx212_17 hx212_18 hx212_19 hx212_20 hx212_21) ?_))
                go_roundg k1
                case measure => have := HK1.out; omega
                case rel => exact ⟨(wrap64 (x5_1 + 1)), (by first | rfl | (simp; done) | (simp [*]; done)), H', ⟨by have := HK1.out; omega⟩, ⟨by repeat (first | (with_reducible first | exact HB.out | apply below_alloc | apply pw_below_drewN | apply below_drew1) | exact HB.out)⟩⟩
              · replace c8 := Bool.eq_false_iff.mpr c8
                subst c8
                have H1 : (some false) = some r := by rw [if_neg (show ¬ (false = true) by decide)] at H; exact H
                clear H
                have H := H1
                clear H1
                obtain rfl := Option.some.inj H
                try go_wp2
                have n0_ := Aside0.mk (below_drew1 HB.out)
                clear HB
                have HB := n0_
                clear n0_
                have p211 : 0 ≤ (x5_1 : Int) := of_decide_eq_true (by first | (with_reducible assumption) | assumption)
                have q211 : x5_1 < (l0.length : Int) := of_decide_eq_true (by first | (with_reducible assumption) | assumption)
                obtain ⟨ad211, A211_19, c211_19, e211, hx211_0, hx211_1, hx211_2, hx211_3, hx211_4, hx211_5, hx211_6, hx211_7, hx211_8, hx211_9, hx211_10, hx211_11, hx211_12, hx211_13, hx211_14, hx211_15, hx211_16, hx211_17, hx211_18, hx211_19, hx211_20, hx211_21, hl211_19, hi211_19⟩ := at_T63 HR0.out x5_1 p211 q211
                have E211 := Aside0.mk (ee_22 hx211_0 hx211_1 hx211_2 hx211_3 hx211_4 hx211_5 hx211_6 hx211_7 hx211_8 hx211_9 hx211_10 hx211_11 hx211_12 hx211_13 hx211_14 hx211_15 hx211_16 hx211_17 hx211_18 hx211_19 hx211_20 hx211_21)
                clear hx211_0 hx211_1 hx211_2 hx211_3 hx211_4 hx211_5 hx211_6 hx211_7 hx211_8 hx211_9 hx211_10 hx211_11 hx211_12 hx211_13 hx211_14 hx211_15 hx211_16 hx211_17 hx211_18 hx211_19 hx211_20 hx211_21

                cases e211

                have HR211_19 := Aside0.mk hi211_19
                have HC211_19 := Aside0.mk hl211_19
                clear hi211_19 hl211_19
                replace p211 := eq_true p211
                replace q211 := eq_true q211
                have p212 : 0 ≤ (x5_1 : Int) := of_decide_eq_true (by first | (with_reducible assumption) | assumption)
                have q212 : x5_1 < (l1.length : Int) := of_decide_eq_true (by first | (with_reducible assumption) | assumption)
                obtain ⟨ad212, A212_19, c212_19, e212, hx212_0, hx212_1, hx212_2, hx212_3, hx212_4, hx212_5, hx212_6, hx212_7, hx212_8, hx212_9, hx212_10, hx212_11, hx212_12, hx212_13, hx212_14, hx212_15, hx212_16, hx212_17, hx212_18, hx212_19, hx212_20, hx212_21, hl212_19, hi212_19⟩ := at_T63 HR1.out x5_1 p212 q212
                have E212 := Aside0.mk (ee_22 hx212_0 hx212_1 hx212_2 hx212_3 hx212_4 hx212_5 hx212_6 hx212_7 hx212_8 hx212_9 hx212_10 hx212_11 hx212_12 hx212_13 hx212_14 hx212_15 hx212_16 hx212_17 hx212_18 hx212_19 hx212_20 hx212_21)
                clear hx212_0 hx212_1 hx212_2 hx212_3 hx212_4 hx212_5 hx212_6 hx212_7 hx212_8 hx212_9 hx212_10 hx212_11 hx212_12 hx212_13 hx212_14 hx212_15 hx212_16 hx212_17 hx212_18 hx212_19 hx212_20 hx212_21

                cases e212

                have HR212_19 := Aside0.mk hi212_19
                have HC212_19 := Aside0.mk hl212_19
                clear hi212_19 hl212_19
                replace p212 := eq_true p212
                replace q212 := eq_true q212
                refine start_ (n := 10) (S := fun w' => (∀ j v, ([.int .i64 ((rd_T63 l0 x5_1).f0), .int .i64 ((rd_T63 l0 x5_1).f1), .int .i64 ((rd_T63 l0 x5_1).f2), .int .i64 ((rd_T63 l0 x5_1).f3), .int .i64 ((rd_T63 l0 x5_1).f4.f0), .int .i64 ((rd_T63 l0 x5_1).f4.f1), .int .i64 ((rd_T63 l0 x5_1).f4.f2), .int .i64 ((rd_T63 l0 x5_1).f4.f3), .int .i64 ((rd_T63 l0 x5_1).f4.f4), .int .i64 ((rd_T63 l0 x5_1).f4.f5), .int .i64 ((rd_T63 l0 x5_1).f4.f6), .int .i64 ((rd_T63 l0 x5_1).f5.f0), .int .i64 ((rd_T63 l0 x5_1).f5.f1), .int .i64 ((rd_T63 l0 x5_1).f6.f0), .int .i64 ((rd_T63 l0 x5_1).f6.f1), .int .i64 ((rd_T63 l0 x5_1).f6.f2), .int .i64 ((rd_T63 l0 x5_1).f6.f3), .int .i64 ((rd_T63 l0 x5_1).f6.f4), .bool ((rd_T63 l0 x5_1).f6.f5), .slice A211_19 ((rd_T63 l0 x5_1).f6.f6).length c211_19, .int .i64 ((rd_T63 l0 x5_1).f7), .int .i64 ((rd_T63 l0 x5_1).f8)] : List Value)[j]? = some v → w'.cell? ((ad211.add ((x5_1).toNat * 22)).add j) = some v) ∧ (∀ j v, ([.int .i64 ((rd_T63 l1 x5_1).f0), .int .i64 ((rd_T63 l1 x5_1).f1), .int .i64 ((rd_T63 l1 x5_1).f2), .int .i64 ((rd_T63 l1 x5_1).f3), .int .i64 ((rd_T63 l1 x5_1).f4.f0), .int .i64 ((rd_T63 l1 x5_1).f4.f1), .int .i64 ((rd_T63 l1 x5_1).f4.f2), .int .i64 ((rd_T63 l1 x5_1).f4.f3), .int .i64 ((rd_T63 l1 x5_1).f4.f4), .int .i64 ((rd_T63 l1 x5_1).f4.f5), .int .i64 ((rd_T63 l1 x5_1).f4.f6), .int .i64 ((rd_T63 l1 x5_1).f5.f0), .int .i64 ((rd_T63 l1 x5_1).f5.f1), .int .i64 ((rd_T63 l1 x5_1).f6.f0), .int .i64 ((rd_T63 l1 x5_1).f6.f1), .int .i64 ((rd_T63 l1 x5_1).f6.f2), .int .i64 ((rd_T63 l1 x5_1).f6.f3), .int .i64 ((rd_T63 l1 x5_1).f6.f4), .bool ((rd_T63 l1 x5_1).f6.f5), .slice A212_19 ((rd_T63 l1 x5_1).f6.f6).length c212_19, .int .i64 ((rd_T63 l1 x5_1).f7), .int .i64 ((rd_T63 l1 x5_1).f8)] : List Value)[j]? = some v → w'.cell? ((ad212.add ((x5_1).toNat * 22)).add j) = some v)) (ds := []) #[false, false, false, false, false, false, false, false, false, false] (by kernel_rfl) rfl rfl ⟨(up_at HB.out E211.out), (up_at HB.out E212.out)⟩ (fun hHeld => ?_); refine with_tabW laws_eqEffectS.tab6 laws_eqEffectS.bits6 (fun HT_ HW_ => ?_)
                generalize wr.drew = w11 at HB HR211_19 HR212_19 hHeld ⊢
                refine pure_ (i := 0) (N := some 17) (v := ?_) (a' := ?_) #[true, false, false, false, false, false, false, false, false, false] rfl rfl (any_of HT_.out (by kernel_rfl)) (fun _ _ _ h => h) (Or.inl ⟨by rfl, ?_⟩) ?_ ?_
                rotate_left
                · intro w'
                  go_simp
                  with_reducible rfl
                rotate_left
                · simp only [Act.put, List.setIfInBounds_toArray, List.set_cons_zero, List.set_cons_succ, i64_w, i32_w]
                  rfl
                refine pure_ (i := 1) (N := some 18) (v := ?_) (a' := ?_) #[true, true, false, false, false, false, false, false, false, false] rfl rfl (any_of HT_.out (by kernel_rfl)) (fun _ _ _ h => h) (Or.inl ⟨by rfl, ?_⟩) ?_ ?_
                rotate_left
                · intro w'
                  go_simp
                  with_reducible rfl
                rotate_left
                · simp only [Act.put, List.setIfInBounds_toArray, List.set_cons_zero, List.set_cons_succ, i64_w, i32_w]
                  rfl
                refine pure_ (i := 2) (N := some 19) (v := ?_) (a' := ?_) #[true, true, true, false, false, false, false, false, false, false] rfl rfl (any_of HT_.out (by kernel_rfl)) (fun _ _ _ h => h) (Or.inl ⟨by rfl, ?_⟩) ?_ ?_
                rotate_left
                · intro w'
                  go_simp
                  with_reducible rfl
                rotate_left
                · simp only [Act.put, List.setIfInBounds_toArray, List.set_cons_zero, List.set_cons_succ, i64_w, i32_w]
                  rfl
                refine pure_ (i := 4) (N := some 21) (v := ?_) (a' := ?_) #[true, true, true, false, true, false, false, false, false, false] rfl rfl (any_of HT_.out (by kernel_rfl)) (fun _ _ _ h => h) (Or.inl ⟨by rfl, ?_⟩) ?_ ?_
                rotate_left
                · intro w'
                  go_simp
                  with_reducible rfl
                rotate_left
                · simp only [Act.put, List.setIfInBounds_toArray, List.set_cons_zero, List.set_cons_succ, i64_w, i32_w]
                  rfl
                refine pure_ (i := 5) (N := some 22) (v := ?_) (a' := ?_) #[true, true, true, false, true, true, false, false, false, false] rfl rfl (any_of HT_.out (by kernel_rfl)) (fun _ _ _ h => h) (Or.inl ⟨by rfl, ?_⟩) ?_ ?_
                rotate_left
                · intro w'
                  go_simp
                  with_reducible rfl
                rotate_left
                · simp only [Act.put, List.setIfInBounds_toArray, List.set_cons_zero, List.set_cons_succ, i64_w, i32_w]
                  rfl
                refine pure_ (i := 6) (N := some 23) (v := ?_) (a' := ?_) #[true, true, true, false, true, true, true, false, false, false] rfl rfl (any_of HT_.out (by kernel_rfl)) (fun _ _ _ h => h) (Or.inl ⟨by rfl, ?_⟩) ?_ ?_
                rotate_left
                · intro w'
                  go_simp
                  with_reducible rfl
                rotate_left
                · simp only [Act.put, List.setIfInBounds_toArray, List.set_cons_zero, List.set_cons_succ, i64_w, i32_w]
                  rfl
                refine take_ (i := 3) (N := some 20) (v := ?_) (a' := ?_) #[true, true, true, true, true, true, true, false, false, false] rfl rfl (take_ofW HT_.out HW_.out (by kernel_rfl)) (fun _ _ _ h => h) (Or.inl ⟨by rfl, ?_⟩) hHeld ?_ ?_
                rotate_left
                · rintro w' ⟨s0, s1⟩
                  first | (refine Eq.trans (run_execOp_load 63 _ (by rfl) _ (by rfl) _ _ Try.underlying63 rfl (by kernel_rfl) s0) ?_; with_reducible rfl) | (refine Eq.trans (run_execOp_load 63 _ (by rfl) _ (by rfl) _ _ Try.underlying63 rfl (by kernel_rfl) s1) ?_; with_reducible rfl) | (go_simp; with_reducible rfl)

                rotate_left
                · simp only [Act.put, List.setIfInBounds_toArray, List.set_cons_zero, List.set_cons_succ, i64_w, i32_w]
                  rfl
                refine take_ (i := 7) (N := some 24) (v := ?_) (a' := ?_) #[true, true, true, true, true, true, true, true, false, false] rfl rfl (take_ofW HT_.out HW_.out (by kernel_rfl)) (fun _ _ _ h => h) (Or.inl ⟨by rfl, ?_⟩) hHeld ?_ ?_
                rotate_left
                · rintro w' ⟨s0, s1⟩
                  first | (refine Eq.trans (run_execOp_load 63 _ (by rfl) _ (by rfl) _ _ Try.underlying63 rfl (by kernel_rfl) s0) ?_; with_reducible rfl) | (refine Eq.trans (run_execOp_load 63 _ (by rfl) _ (by rfl) _ _ Try.underlying63 rfl (by kernel_rfl) s1) ?_; with_reducible rfl) | (go_simp; with_reducible rfl)

                rotate_left
                · simp only [Act.put, List.setIfInBounds_toArray, List.set_cons_zero, List.set_cons_succ, i64_w, i32_w]
                  rfl
                refine one_ (i := 8) (N := some 25) #[true, true, true, true, true, true, true, true, true, false] rfl rfl (one_of HT_.out (by kernel_rfl)) (by decide) (fun K hK => ?_)
                refine goes_ Try.func30 (by kernel_rfl) rfl #[.agg #[.int .i64 ((rd_T63 l0 x5_1).f0), .int .i64 ((rd_T63 l0 x5_1).f1), .int .i64 ((rd_T63 l0 x5_1).f2), .int .i64 ((rd_T63 l0 x5_1).f3), .int .i64 ((rd_T63 l0 x5_1).f4.f0), .int .i64 ((rd_T63 l0 x5_1).f4.f1), .int .i64 ((rd_T63 l0 x5_1).f4.f2), .int .i64 ((rd_T63 l0 x5_1).f4.f3), .int .i64 ((rd_T63 l0 x5_1).f4.f4), .int .i64 ((rd_T63 l0 x5_1).f4.f5), .int .i64 ((rd_T63 l0 x5_1).f4.f6), .int .i64 ((rd_T63 l0 x5_1).f5.f0), .int .i64 ((rd_T63 l0 x5_1).f5.f1), .int .i64 ((rd_T63 l0 x5_1).f6.f0), .int .i64 ((rd_T63 l0 x5_1).f6.f1), .int .i64 ((rd_T63 l0 x5_1).f6.f2), .int .i64 ((rd_T63 l0 x5_1).f6.f3), .int .i64 ((rd_T63 l0 x5_1).f6.f4), .bool ((rd_T63 l0 x5_1).f6.f5), .slice A211_19 ((rd_T63 l0 x5_1).f6.f6).length c211_19, .int .i64 ((rd_T63 l0 x5_1).f7), .int .i64 ((rd_T63 l0 x5_1).f8)], .agg #[.int .i64 ((rd_T63 l1 x5_1).f0), .int .i64 ((rd_T63 l1 x5_1).f1), .int .i64 ((rd_T63 l1 x5_1).f2), .int .i64 ((rd_T63 l1 x5_1).f3), .int .i64 ((rd_T63 l1 x5_1).f4.f0), .int .i64 ((rd_T63 l1 x5_1).f4.f1), .int .i64 ((rd_T63 l1 x5_1).f4.f2), .int .i64 ((rd_T63 l1 x5_1).f4.f3), .int .i64 ((rd_T63 l1 x5_1).f4.f4), .int .i64 ((rd_T63 l1 x5_1).f4.f5), .int .i64 ((rd_T63 l1 x5_1).f4.f6), .int .i64 ((rd_T63 l1 x5_1).f5.f0), .int .i64 ((rd_T63 l1 x5_1).f5.f1), .int .i64 ((rd_T63 l1 x5_1).f6.f0), .int .i64 ((rd_T63 l1 x5_1).f6.f1), .int .i64 ((rd_T63 l1 x5_1).f6.f2), .int .i64 ((rd_T63 l1 x5_1).f6.f3), .int .i64 ((rd_T63 l1 x5_1).f6.f4), .bool ((rd_T63 l1 x5_1).f6.f5), .slice A212_19 ((rd_T63 l1 x5_1).f6.f6).length c212_19, .int .i64 ((rd_T63 l1 x5_1).f7), .int .i64 ((rd_T63 l1 x5_1).f8)]] (by rfl) rfl rfl (by (try simp only [List.map_toArray, List.map_cons, List.map_nil]); first | done | rfl | (simp only [List.length_drop, List.length_take]; rfl)) ?_
                with_reducible refine (laws_eqEffect.calls k1 ((rd_T63 l0 x5_1).f0) ((rd_T63 l0 x5_1).f1) ((rd_T63 l0 x5_1).f2) ((rd_T63 l0 x5_1).f3) ((rd_T63 l0 x5_1).f4.f0) ((rd_T63 l0 x5_1).f4.f1) ((rd_T63 l0 x5_1).f4.f2) ((rd_T63 l0 x5_1).f4.f3) ((rd_T63 l0 x5_1).f4.f4) ((rd_T63 l0 x5_1).f4.f5) ((rd_T63 l0 x5_1).f4.f6) ((rd_T63 l0 x5_1).f5.f0) ((rd_T63 l0 x5_1).f5.f1) ((rd_T63 l0 x5_1).f6.f0) ((rd_T63 l0 x5_1).f6.f1) ((rd_T63 l0 x5_1).f6.f2) ((rd_T63 l0 x5_1).f6.f3) ((rd_T63 l0 x5_1).f6.f4) ((rd_T63 l0 x5_1).f6.f5) _ _ ((rd_T63 l0 x5_1).f6.f6) ((rd_T63 l0 x5_1).f7) ((rd_T63 l0 x5_1).f8) ((rd_T63 l1 x5_1).f0) ((rd_T63 l1 x5_1).f1) ((rd_T63 l1 x5_1).f2) ((rd_T63 l1 x5_1).f3) ((rd_T63 l1 x5_1).f4.f0) ((rd_T63 l1 x5_1).f4.f1) ((rd_T63 l1 x5_1).f4.f2) ((rd_T63 l1 x5_1).f4.f3) ((rd_T63 l1 x5_1).f4.f4) ((rd_T63 l1 x5_1).f4.f5) ((rd_T63 l1 x5_1).f4.f6) ((rd_T63 l1 x5_1).f5.f0) ((rd_T63 l1 x5_1).f5.f1) ((rd_T63 l1 x5_1).f6.f0) ((rd_T63 l1 x5_1).f6.f1) ((rd_T63 l1 x5_1).f6.f2) ((rd_T63 l1 x5_1).f6.f3) ((rd_T63 l1 x5_1).f6.f4) ((rd_T63 l1 x5_1).f6.f5) _ _ ((rd_T63 l1 x5_1).f6.f6) ((rd_T63 l1 x5_1).f7) ((rd_T63 l1 x5_1).f8) false _ ?side1 ?side2 ?side3 ?side4 A7.out).mono ?_
                (case side1 => repeat (first | exact (Kd.C_below HR211_19.out HB.out) | (with_reducible refine Kd.C_alloc ?_ _) | (with_reducible refine Kd.C_drewN ?_ _) | (with_reducible refine Kd.C_drew ?_)))
                (case side2 => exact HC211_19.out)
                (case side3 => repeat (first | exact (Kd.C_below HR212_19.out HB.out) | (with_reducible refine Kd.C_alloc ?_ _) | (with_reducible refine Kd.C_drewN ?_ _) | (with_reducible refine Kd.C_drew ?_)))
                (case side4 => exact HC212_19.out)
                rintro e w12 ⟨rfl, hb⟩
                refine ⟨_, rfl, ?_⟩
                have n0_ := Aside0.mk (below_step (by repeat (first | (with_reducible first | exact HB.out | apply below_alloc | apply pw_below_drewN | apply below_drew1) | exact HB.out)) hb)
                clear HB
                have HB := n0_
                clear n0_
                (try clear hb)
                (try clear hb2)
                (try clear hk)
                (try clear hi)
                refine hK.out _ _ ⟨(up_at HB.out E211.out), (up_at HB.out E212.out)⟩ (fun hHeld => ?_)
                clear hK K
                refine norm_ (a' := ?_) ?_ ?_
                rotate_left
                · show Act.put _ (some 25) _ = _
                  simp only [Act.put, List.setIfInBounds_toArray, List.set_cons_zero, List.set_cons_succ, i64_w, i32_w]
                  rfl
                refine pure_ (i := 9) (N := some 26) (v := ?_) (a' := ?_) #[true, true, true, true, true, true, true, true, true, true] rfl rfl (any_of HT_.out (by kernel_rfl)) (fun _ _ _ h => h) (Or.inl ⟨by rfl, ?_⟩) ?_ ?_
                rotate_left
                · intro w'
                  go_simp
                  with_reducible rfl
                rotate_left
                · simp only [Act.put, List.setIfInBounds_toArray, List.set_cons_zero, List.set_cons_succ, i64_w, i32_w]
                  rfl
                refine done_ (done_of HT_.out (by kernel_rfl)) ?_
                try go_wp2_with (first | ((with_reducible refine gate_load (t := 63) rfl ?_); refine load_at rfl 63 _ rfl _ rfl _ _ Try.underlying63 rfl (by kernel_rfl) (ee_22 hx211_0 hx211_1 hx211_2 hx211_3 hx211_4 hx211_5 hx211_6 hx211_7 hx211_8 hx211_9 hx211_10 hx211_11 hx211_12 hx211_13 hx211_14 hx211_15 hx211_16 hx211_17 hx211_18 hx211_19 hx211_20 hx211_21) ?_) | ((with_reducible refine gate_load (t := 63) rfl ?_); refine load_at rfl 63 _ rfl _ rfl _ _ Try.underlying63 rfl (by kernel_rfl) (ee_22 hx212_0 hx212_1 hx212_2 hx212_3 hx212_4 hx212_5 hx212_6 hx212_7 hx212_8 hx212_9 hx212_10 hx212_11 hx212_12 hx212_13 hx212_14 hx212_15 hx212_16 hx212_17 hx212_18 hx212_19 hx212_20 hx212_21) ?_))
                go_ret
                exact ⟨by first | rfl | (simp [errW_none, errW_some] <;> rfl) | (simp [*, errW_none, errW_some] <;> rfl), by repeat (first | (with_reducible first | exact HB.out | apply below_alloc | apply pw_below_drewN | apply below_drew1) | exact HB.out)⟩
            · rw [if_neg c6] at H
              exact absurd H (by simp)
          · rw [if_neg c5] at H
            exact absurd H (by simp)
        · rw [if_neg c4] at H
          have c4b0 : decide (x5_1 < (l0.length : Int)) = false := decide_eq_false c4
          clear c4
          obtain rfl := Option.some.inj H
          go_wp2
          go_ret
          exact ⟨by first | rfl | (simp [errW_none, errW_some] <;> rfl) | (simp [*, errW_none, errW_some] <;> rfl), by repeat (first | (with_reducible first | exact HB.out | apply below_alloc | apply pw_below_drewN | apply below_drew1) | exact HB.out)⟩
  · rw [if_neg c3] at H
    have c3b0 : ((l0.length : Int) == (l1.length : Int)) = false := beq_eq_false_iff_ne.mpr c3
    have c3b1 : ((l0.length : Int) != (l1.length : Int)) = true := bne_iff_ne.mpr c3
    have c3b2 : (l0.length == l1.length) = false := by first | simpa using c3 | (simp at c3 ⊢; omega)
    obtain rfl := Option.some.inj H
    go_enter Try.func36, Try.ntmps36
    go_wp2
    go_ret
    exact ⟨by first | rfl | (simp [errW_none, errW_some] <;> rfl) | (simp [*, errW_none, errW_some] <;> rfl), by repeat (first | (with_reducible first | exact HB.out | apply below_alloc | apply pw_below_drewN | apply below_drew1) | exact HB.out)⟩

/-! ### laws_FnExactMostLeft: function 6 -/
def laws_FnExactMostLeft.f (k : Nat) (l0 : List (S54)) : Option (Bool) := (laws_szEffectS.f k l0 1048576).bind fun t214 => (if t214 < 0 then (some true) else ((laws_toEffectS.f k l0).bind fun t215 => ((spec_MostLeft.f k t215).bind fun t218 => ((laws_toEffectS.f k l0).bind fun t219 => ((impl_MostLeft.f k t219).bind fun t222 => (if t222 = t218 then ((laws_toEffectS.f k l0).bind fun t223 => ((laws_eqEffectS.f k t219 t223).bind fun t226 => (if t226 = true then (some true) else (some false)))) else (some false)))))))
theorem laws_FnExactMostLeft.mono : ∀ a0 k, LeO (laws_FnExactMostLeft.f k a0) (laws_FnExactMostLeft.f (k + 1) a0) := by
  intro a0 k
  unfold laws_FnExactMostLeft.f
  repeat' first
      | (with_reducible exact impl_MostLeft.mono _ _)
      | (with_reducible exact laws_eqEffectS.mono _ _ _)
      | (with_reducible exact laws_szEffectS.mono _ _ _)
      | (with_reducible exact laws_toEffectS.mono _ _)
      | (with_reducible exact spec_MostLeft.mono _ _)
      | (with_reducible exact LeO.refl _)
      | (with_reducible exact LeO.none _)
      | (with_reducible refine LeO.ite ?_ ?_)
      | (with_reducible refine LeO.bind ?_ (fun _ => ?_))
      | exact impl_MostLeft.mono _ _
      | exact laws_eqEffectS.mono _ _ _
      | exact laws_szEffectS.mono _ _ _
      | exact laws_toEffectS.mono _ _
      | exact spec_MostLeft.mono _ _
      | exact LeO.none _
      | refine LeO.ite ?_ ?_
      | refine LeO.bind ?_ (fun _ => ?_)
set_option maxHeartbeats 8000000 in
set_option maxRecDepth 100000 in
theorem laws_FnExactMostLeft.calls (k : Nat) (A0 : Option Addr) (c0 : Nat) (l0 : List (S54)) (r : Bool) (w : World) (hr0 : Kd.C k54 w A0 l0.length l0) (hc0 : l0.length ≤ c0) (h : laws_FnExactMostLeft.f k l0 = some r) :
    Calls Try.prog 6 #[.slice A0 l0.length c0] w fun e w' => e = .returned (.bool r) ∧ Below w.heap.size w w' := by
  have HR0 := Aside0.mk hr0
  have HC0 := Aside0.mk hc0
  clear hr0 hc0
  have HB := Aside0.mk (Below.refl w.heap.size w)
  have H : ((laws_szEffectS.f k l0 1048576).bind fun t214 => (if t214 < 0 then (some true) else ((laws_toEffectS.f k l0).bind fun t215 => ((spec_MostLeft.f k t215).bind fun t218 => ((laws_toEffectS.f k l0).bind fun t219 => ((impl_MostLeft.f k t219).bind fun t222 => (if t222 = t218 then ((laws_toEffectS.f k l0).bind fun t223 => ((laws_eqEffectS.f k t219 t223).bind fun t226 => (if t226 = true then (some true) else (some false)))) else (some false)))))))) = some r := h
  clear h
  replace H := Option.bind_eq_some_iff.mp H
  obtain ⟨t214, A20, H⟩ := H
  replace H : (if t214 < 0 then (some true) else ((laws_toEffectS.f k l0).bind fun t215 => ((spec_MostLeft.f k t215).bind fun t218 => ((laws_toEffectS.f k l0).bind fun t219 => ((impl_MostLeft.f k t219).bind fun t222 => (if t222 = t218 then ((laws_toEffectS.f k l0).bind fun t223 => ((laws_eqEffectS.f k t219 t223).bind fun t226 => (if t226 = true then (some true) else (some false)))) else (some false))))))) = some r := H
  have A2 := Aside0.mk A20
  clear A20
  by_cases c3 : t214 < 0
  · rw [if_pos c3] at H
    have c3b0 : decide (t214 < 0) = true := decide_eq_true c3
    clear c3
    obtain rfl := Option.some.inj H
    go_enter Try.func6, Try.ntmps6
    go_wp2_with (first | ((with_reducible refine gate_callee (f := 32) rfl ?_); refine goesL_ (some 9) rfl rfl Try.func32 (by kernel_rfl) rfl #[.slice A0 l0.length c0, .int .i64 1048576] rfl (by (try simp only [List.map_toArray, List.map_cons, List.map_nil]); first | done | rfl | (simp only [List.length_drop, List.length_take]; rfl)) ?_; (with_reducible refine (laws_szEffectS.calls k _ _ l0 1048576 t214 _ ?side1 ?side2 A2.out).mono ?_); (case side1 => repeat (first | exact HR0.out | (with_reducible refine Kd.C_alloc ?_ _) | (with_reducible refine Kd.C_drewN ?_ _) | (with_reducible refine Kd.C_drew ?_))); (case side2 => exact HC0.out); rintro e w4 ⟨rfl, hb⟩; refine ⟨_, rfl, ?_⟩; have n0_ := Aside0.mk (below_step (by repeat (first | (with_reducible first | exact HB.out | apply below_alloc | apply pw_below_drewN | apply below_drew1) | exact HB.out)) hb); clear HB; have HB := n0_; clear n0_; (try clear hb); (try clear hb2); (try clear hk); (try clear hi)))
    go_ret
    exact ⟨by first | rfl | (simp [errW_none, errW_some] <;> rfl) | (simp [*, errW_none, errW_some] <;> rfl), by repeat (first | (with_reducible first | exact HB.out | apply below_alloc | apply pw_below_drewN | apply below_drew1) | exact HB.out)⟩
  · rw [if_neg c3] at H
    have c3b0 : decide (t214 < 0) = false := decide_eq_false c3
    clear c3
    replace H := Option.bind_eq_some_iff.mp H
    obtain ⟨t215, A50, H⟩ := H
    replace H : ((spec_MostLeft.f k t215).bind fun t218 => ((laws_toEffectS.f k l0).bind fun t219 => ((impl_MostLeft.f k t219).bind fun t222 => (if t222 = t218 then ((laws_toEffectS.f k l0).bind fun t223 => ((laws_eqEffectS.f k t219 t223).bind fun t226 => (if t226 = true then (some true) else (some false)))) else (some false))))) = some r := H
    have A5 := Aside0.mk A50
    clear A50
    replace H := Option.bind_eq_some_iff.mp H
    obtain ⟨t218, A60, H⟩ := H
    replace H : ((laws_toEffectS.f k l0).bind fun t219 => ((impl_MostLeft.f k t219).bind fun t222 => (if t222 = t218 then ((laws_toEffectS.f k l0).bind fun t223 => ((laws_eqEffectS.f k t219 t223).bind fun t226 => (if t226 = true then (some true) else (some false)))) else (some false)))) = some r := H
    have A6 := Aside0.mk A60
    clear A60
    replace H := Option.bind_eq_some_iff.mp H
    obtain ⟨t219, A70, H⟩ := H
    replace H : ((impl_MostLeft.f k t219).bind fun t222 => (if t222 = t218 then ((laws_toEffectS.f k l0).bind fun t223 => ((laws_eqEffectS.f k t219 t223).bind fun t226 => (if t226 = true then (some true) else (some false)))) else (some false))) = some r := H
    have A7 := Aside0.mk A70
    clear A70
    replace H := Option.bind_eq_some_iff.mp H
    obtain ⟨t222, A80, H⟩ := H
    replace H : (if t222 = t218 then ((laws_toEffectS.f k l0).bind fun t223 => ((laws_eqEffectS.f k t219 t223).bind fun t226 => (if t226 = true then (some true) else (some false)))) else (some false)) = some r := H
    have A8 := Aside0.mk A80
    clear A80
    by_cases c9 : t222 = t218
    · rw [if_pos c9] at H
      have c9b0 : (t222 == t218) = true := beq_iff_eq.mpr c9
      have c9b1 : (t222 != t218) = false := bne_eq_false_iff_eq.mpr c9
      clear c9
      replace H := Option.bind_eq_some_iff.mp H
      obtain ⟨t223, A100, H⟩ := H
      replace H : ((laws_eqEffectS.f k t219 t223).bind fun t226 => (if t226 = true then (some true) else (some false))) = some r := H
      have A10 := Aside0.mk A100
      clear A100
      replace H := Option.bind_eq_some_iff.mp H
      obtain ⟨t226, A110, H⟩ := H
      replace H : (if t226 = true then (some true) else (some false)) = some r := H
      have A11 := Aside0.mk A110
      clear A110
      by_cases c12 : t226 = true
      · subst c12
        have H1 : (some true) = some r := by rw [if_pos rfl] at H; exact H
        clear H
        have H := H1
        clear H1
        obtain rfl := Option.some.inj H
        go_enter Try.func6, Try.ntmps6
        go_wp2_with (first | ((with_reducible refine gate_callee (f := 32) rfl ?_); refine goesL_ (some 9) rfl rfl Try.func32 (by kernel_rfl) rfl #[.slice A0 l0.length c0, .int .i64 1048576] rfl (by (try simp only [List.map_toArray, List.map_cons, List.map_nil]); first | done | rfl | (simp only [List.length_drop, List.length_take]; rfl)) ?_; (with_reducible refine (laws_szEffectS.calls k _ _ l0 1048576 t214 _ ?side1 ?side2 A2.out).mono ?_); (case side1 => repeat (first | exact HR0.out | (with_reducible refine Kd.C_alloc ?_ _) | (with_reducible refine Kd.C_drewN ?_ _) | (with_reducible refine Kd.C_drew ?_))); (case side2 => exact HC0.out); rintro e w13 ⟨rfl, hb⟩; refine ⟨_, rfl, ?_⟩; have n0_ := Aside0.mk (below_step (by repeat (first | (with_reducible first | exact HB.out | apply below_alloc | apply pw_below_drewN | apply below_drew1) | exact HB.out)) hb); clear HB; have HB := n0_; clear n0_; (try clear hb); (try clear hb2); (try clear hk); (try clear hi)) | ((with_reducible refine gate_callee (f := 34) rfl ?_); refine goesL_ (some 13) rfl rfl Try.func34 (by kernel_rfl) rfl #[.slice A0 l0.length c0] rfl (by (try simp only [List.map_toArray, List.map_cons, List.map_nil]); first | done | rfl | (simp only [List.length_drop, List.length_take]; rfl)) ?_; (with_reducible refine (laws_toEffectS.calls k _ _ l0 t215 _ ?side1 ?side2 A5.out).mono ?_); (case side1 => repeat (first | exact (Kd.C_below HR0.out HB.out) | (with_reducible refine Kd.C_alloc ?_ _) | (with_reducible refine Kd.C_drewN ?_ _) | (with_reducible refine Kd.C_drew ?_))); (case side2 => exact HC0.out); rintro e w14 ⟨v216, rfl, ho0, hb⟩; refine ⟨_, rfl, ?_⟩; have n0_ := Aside0.mk (Kd.S_lower ho0 (below_size (by repeat (first | (with_reducible first | exact HB.out | apply below_alloc | apply pw_below_drewN | apply below_drew1) | exact HB.out)))); have n1_ := Aside0.mk (below_step (by repeat (first | (with_reducible first | exact HB.out | apply below_alloc | apply pw_below_drewN | apply below_drew1) | exact HB.out)) hb); clear HB; have HO217 := n0_; have HB := n1_; clear n0_ n1_; (try clear hb); (try clear hb2); (try clear hk); (try clear hi); (try clear ho0); obtain ⟨Ao15, co15, eo15⟩ := Kd.S_slice HO217.out; subst eo15) | ((with_reducible refine gate_callee (f := 33) rfl ?_); refine goesL_ (some 14) rfl rfl Try.func33 (by kernel_rfl) rfl #[.slice Ao15 t215.length co15] rfl (by (try simp only [List.map_toArray, List.map_cons, List.map_nil]); first | done | rfl | (simp only [List.length_drop, List.length_take]; rfl)) ?_; (with_reducible refine (spec_MostLeft.calls k _ _ t215 t218 _ ?side1 ?side2 A6.out).mono ?_); (case side1 => repeat (first | exact (Kd.S_reads' HO217.out).2.2 | (with_reducible refine Kd.C_alloc ?_ _) | (with_reducible refine Kd.C_drewN ?_ _) | (with_reducible refine Kd.C_drew ?_))); (case side2 => exact (Kd.S_reads' HO217.out).2.1); rintro e w' ⟨rfl, ⟨nd, rfl⟩⟩; refine ⟨_, rfl, ?_⟩) | ((with_reducible refine gate_callee (f := 34) rfl ?_); refine goesL_ (some 16) rfl rfl Try.func34 (by kernel_rfl) rfl #[.slice A0 l0.length c0] rfl (by (try simp only [List.map_toArray, List.map_cons, List.map_nil]); first | done | rfl | (simp only [List.length_drop, List.length_take]; rfl)) ?_; (with_reducible refine (laws_toEffectS.calls k _ _ l0 t219 _ ?side1 ?side2 A7.out).mono ?_); (case side1 => repeat (first | exact (Kd.C_below HR0.out (by repeat (first | (with_reducible first | exact HB.out | apply below_alloc | apply pw_below_drewN | apply below_drew1) | exact HB.out))) | (with_reducible refine Kd.C_alloc ?_ _) | (with_reducible refine Kd.C_drewN ?_ _) | (with_reducible refine Kd.C_drew ?_))); (case side2 => exact HC0.out); rintro e w16 ⟨v220, rfl, ho0, hb⟩; refine ⟨_, rfl, ?_⟩; have n0_ := Aside0.mk (Kd.S_elder' (by (with_reducible repeat (first | apply Kd.S_alloc | apply Kd.S_drewN | apply Kd.S_drew)); exact HO217.out) (Kd.S_base ho0) hb); have n1_ := Aside0.mk (Kd.S_lower (Kd.S_new' ho0 (Kd.S_lt (by (with_reducible repeat (first | apply Kd.S_alloc | apply Kd.S_drewN | apply Kd.S_drew)); exact HO217.out))) (below_size (by repeat (first | (with_reducible first | exact HB.out | apply below_alloc | apply pw_below_drewN | apply below_drew1) | exact HB.out)))); have n2_ := Aside0.mk (below_step (by repeat (first | (with_reducible first | exact HB.out | apply below_alloc | apply pw_below_drewN | apply below_drew1) | exact HB.out)) hb); clear HO217; clear HB; have HO217 := n0_; have HO221 := n1_; have HB := n2_; clear n0_ n1_ n2_; (try clear hb); (try clear hb2); (try clear hk); (try clear hi); (try clear ho0); obtain ⟨Ao17, co17, eo17⟩ := Kd.S_slice HO221.out; subst eo17) | ((with_reducible refine gate_callee (f := 35) rfl ?_); refine goesL_ (some 18) rfl rfl Try.func35 (by kernel_rfl) rfl #[.slice Ao17 t219.length co17] rfl (by (try simp only [List.map_toArray, List.map_cons, List.map_nil]); first | done | rfl | (simp only [List.length_drop, List.length_take]; rfl)) ?_; (with_reducible refine (impl_MostLeft.calls k _ _ t219 t222 _ ?side1 ?side2 A8.out).mono ?_); (case side1 => repeat (first | exact (Kd.S_reads' HO221.out).2.2 | (with_reducible refine Kd.C_alloc ?_ _) | (with_reducible refine Kd.C_drewN ?_ _) | (with_reducible refine Kd.C_drew ?_))); (case side2 => exact (Kd.S_reads' HO221.out).2.1); rintro e w18 ⟨rfl, hb⟩; refine ⟨_, rfl, ?_⟩; have n0_ := Aside0.mk (Kd.S_below (by (with_reducible repeat (first | apply Kd.S_alloc | apply Kd.S_drewN | apply Kd.S_drew)); exact HO217.out) hb); have n1_ := Aside0.mk (Kd.S_below (by (with_reducible repeat (first | apply Kd.S_alloc | apply Kd.S_drewN | apply Kd.S_drew)); exact HO221.out) hb); have n2_ := Aside0.mk (below_step (by repeat (first | (with_reducible first | exact HB.out | apply below_alloc | apply pw_below_drewN | apply below_drew1) | exact HB.out)) hb); clear HO217; clear HO221; clear HB; have HO217 := n0_; have HO221 := n1_; have HB := n2_; clear n0_ n1_ n2_; (try clear hb); (try clear hb2); (try clear hk); (try clear hi)) | ((with_reducible refine gate_callee (f := 34) rfl ?_); refine goesL_ (some 24) rfl rfl Try.func34 (by kernel_rfl) rfl #[.slice A0 l0.length c0] rfl (by (try simp only [List.map_toArray, List.map_cons, List.map_nil]); first | done | rfl | (simp only [List.length_drop, List.length_take]; rfl)) ?_; (with_reducible refine (laws_toEffectS.calls k _ _ l0 t223 _ ?side1 ?side2 A10.out).mono ?_); (case side1 => repeat (first | exact (Kd.C_below HR0.out HB.out) | (with_reducible refine Kd.C_alloc ?_ _) | (with_reducible refine Kd.C_drewN ?_ _) | (with_reducible refine Kd.C_drew ?_))); (case side2 => exact HC0.out); rintro e w19 ⟨v224, rfl, ho0, hb⟩; refine ⟨_, rfl, ?_⟩; have n0_ := Aside0.mk (Kd.S_elder' (by (with_reducible repeat (first | apply Kd.S_alloc | apply Kd.S_drewN | apply Kd.S_drew)); exact HO217.out) (Kd.S_base ho0) hb); have n1_ := Aside0.mk (Kd.S_elder' (by (with_reducible repeat (first | apply Kd.S_alloc | apply Kd.S_drewN | apply Kd.S_drew)); exact HO221.out) (Kd.S_base ho0) hb); have n2_ := Aside0.mk (Kd.S_lower (Kd.S_new' (Kd.S_new' ho0 (Kd.S_lt (by (with_reducible repeat (first | apply Kd.S_alloc | apply Kd.S_drewN | apply Kd.S_drew)); exact HO217.out))) (Kd.S_lt (by (with_reducible repeat (first | apply Kd.S_alloc | apply Kd.S_drewN | apply Kd.S_drew)); exact HO221.out))) (below_size (by repeat (first | (with_reducible first | exact HB.out | apply below_alloc | apply pw_below_drewN | apply below_drew1) | exact HB.out)))); have n3_ := Aside0.mk (below_step (by repeat (first | (with_reducible first | exact HB.out | apply below_alloc | apply pw_below_drewN | apply below_drew1) | exact HB.out)) hb); clear HO217; clear HO221; clear HB; have HO217 := n0_; have HO221 := n1_; have HO225 := n2_; have HB := n3_; clear n0_ n1_ n2_ n3_; (try clear hb); (try clear hb2); (try clear hk); (try clear hi); (try clear ho0); obtain ⟨Ao20, co20, eo20⟩ := Kd.S_slice HO225.out; subst eo20) | ((with_reducible refine gate_callee (f := 36) rfl ?_); refine goesL_ (some 25) rfl rfl Try.func36 (by kernel_rfl) rfl #[.slice Ao17 t219.length co17, .slice Ao20 t223.length co20] rfl (by (try simp only [List.map_toArray, List.map_cons, List.map_nil]); first | done | rfl | (simp only [List.length_drop, List.length_take]; rfl)) ?_; (with_reducible refine (laws_eqEffectS.calls k _ _ t219 _ _ t223 true _ ?side1 ?side2 ?side3 ?side4 A11.out).mono ?_); (case side1 => repeat (first | exact (Kd.S_reads' HO221.out).2.2 | (with_reducible refine Kd.C_alloc ?_ _) | (with_reducible refine Kd.C_drewN ?_ _) | (with_reducible refine Kd.C_drew ?_))); (case side2 => exact (Kd.S_reads' HO221.out).2.1); (case side3 => repeat (first | exact (Kd.S_reads' HO225.out).2.2 | (with_reducible refine Kd.C_alloc ?_ _) | (with_reducible refine Kd.C_drewN ?_ _) | (with_reducible refine Kd.C_drew ?_))); (case side4 => exact (Kd.S_reads' HO225.out).2.1); rintro e w21 ⟨rfl, hb⟩; refine ⟨_, rfl, ?_⟩; have n0_ := Aside0.mk (Kd.S_below (by (with_reducible repeat (first | apply Kd.S_alloc | apply Kd.S_drewN | apply Kd.S_drew)); exact HO217.out) hb); have n1_ := Aside0.mk (Kd.S_below (by (with_reducible repeat (first | apply Kd.S_alloc | apply Kd.S_drewN | apply Kd.S_drew)); exact HO221.out) hb); have n2_ := Aside0.mk (Kd.S_below (by (with_reducible repeat (first | apply Kd.S_alloc | apply Kd.S_drewN | apply Kd.S_drew)); exact HO225.out) hb); have n3_ := Aside0.mk (below_step (by repeat (first | (with_reducible first | exact HB.out | apply below_alloc | apply pw_below_drewN | apply below_drew1) | exact HB.out)) hb); clear HO217; clear HO221; clear HO225; clear HB; have HO217 := n0_; have HO221 := n1_; have HO225 := n2_; have HB := n3_; clear n0_ n1_ n2_ n3_; (try clear hb); (try clear hb2); (try clear hk); (try clear hi)))
        go_ret
        exact ⟨by first | rfl | (simp [errW_none, errW_some] <;> rfl) | (simp [*, errW_none, errW_some] <;> rfl), by repeat (first | (with_reducible first | exact HB.out | apply below_alloc | apply pw_below_drewN | apply below_drew1) | exact HB.out)⟩
      · replace c12 := Bool.eq_false_iff.mpr c12
        subst c12
        have H1 : (some false) = some r := by rw [if_neg (show ¬ (false = true) by decide)] at H; exact H
        clear H
        have H := H1
        clear H1
        obtain rfl := Option.some.inj H
        go_enter Try.func6, Try.ntmps6
        go_wp2_with (first | ((with_reducible refine gate_callee (f := 32) rfl ?_); refine goesL_ (some 9) rfl rfl Try.func32 (by kernel_rfl) rfl #[.slice A0 l0.length c0, .int .i64 1048576] rfl (by (try simp only [List.map_toArray, List.map_cons, List.map_nil]); first | done | rfl | (simp only [List.length_drop, List.length_take]; rfl)) ?_; (with_reducible refine (laws_szEffectS.calls k _ _ l0 1048576 t214 _ ?side1 ?side2 A2.out).mono ?_); (case side1 => repeat (first | exact HR0.out | (with_reducible refine Kd.C_alloc ?_ _) | (with_reducible refine Kd.C_drewN ?_ _) | (with_reducible refine Kd.C_drew ?_))); (case side2 => exact HC0.out); rintro e w22 ⟨rfl, hb⟩; refine ⟨_, rfl, ?_⟩; have n0_ := Aside0.mk (below_step (by repeat (first | (with_reducible first | exact HB.out | apply below_alloc | apply pw_below_drewN | apply below_drew1) | exact HB.out)) hb); clear HB; have HB := n0_; clear n0_; (try clear hb); (try clear hb2); (try clear hk); (try clear hi)) | ((with_reducible refine gate_callee (f := 34) rfl ?_); refine goesL_ (some 13) rfl rfl Try.func34 (by kernel_rfl) rfl #[.slice A0 l0.length c0] rfl (by (try simp only [List.map_toArray, List.map_cons, List.map_nil]); first | done | rfl | (simp only [List.length_drop, List.length_take]; rfl)) ?_; (with_reducible refine (laws_toEffectS.calls k _ _ l0 t215 _ ?side1 ?side2 A5.out).mono ?_); (case side1 => repeat (first | exact (Kd.C_below HR0.out HB.out) | (with_reducible refine Kd.C_alloc ?_ _) | (with_reducible refine Kd.C_drewN ?_ _) | (with_reducible refine Kd.C_drew ?_))); (case side2 => exact HC0.out); rintro e w23 ⟨v216, rfl, ho0, hb⟩; refine ⟨_, rfl, ?_⟩; have n0_ := Aside0.mk (Kd.S_lower ho0 (below_size (by repeat (first | (with_reducible first | exact HB.out | apply below_alloc | apply pw_below_drewN | apply below_drew1) | exact HB.out)))); have n1_ := Aside0.mk (below_step (by repeat (first | (with_reducible first | exact HB.out | apply below_alloc | apply pw_below_drewN | apply below_drew1) | exact HB.out)) hb); clear HB; have HO217 := n0_; have HB := n1_; clear n0_ n1_; (try clear hb); (try clear hb2); (try clear hk); (try clear hi); (try clear ho0); obtain ⟨Ao24, co24, eo24⟩ := Kd.S_slice HO217.out; subst eo24) | ((with_reducible refine gate_callee (f := 33) rfl ?_); refine goesL_ (some 14) rfl rfl Try.func33 (by kernel_rfl) rfl #[.slice Ao24 t215.length co24] rfl (by (try simp only [List.map_toArray, List.map_cons, List.map_nil]); first | done | rfl | (simp only [List.length_drop, List.length_take]; rfl)) ?_; (with_reducible refine (spec_MostLeft.calls k _ _ t215 t218 _ ?side1 ?side2 A6.out).mono ?_); (case side1 => repeat (first | exact (Kd.S_reads' HO217.out).2.2 | (with_reducible refine Kd.C_alloc ?_ _) | (with_reducible refine Kd.C_drewN ?_ _) | (with_reducible refine Kd.C_drew ?_))); (case side2 => exact (Kd.S_reads' HO217.out).2.1); rintro e w' ⟨rfl, ⟨nd, rfl⟩⟩; refine ⟨_, rfl, ?_⟩) | ((with_reducible refine gate_callee (f := 34) rfl ?_); refine goesL_ (some 16) rfl rfl Try.func34 (by kernel_rfl) rfl #[.slice A0 l0.length c0] rfl (by (try simp only [List.map_toArray, List.map_cons, List.map_nil]); first | done | rfl | (simp only [List.length_drop, List.length_take]; rfl)) ?_; (with_reducible refine (laws_toEffectS.calls k _ _ l0 t219 _ ?side1 ?side2 A7.out).mono ?_); (case side1 => repeat (first | exact (Kd.C_below HR0.out (by repeat (first | (with_reducible first | exact HB.out | apply below_alloc | apply pw_below_drewN | apply below_drew1) | exact HB.out))) | (with_reducible refine Kd.C_alloc ?_ _) | (with_reducible refine Kd.C_drewN ?_ _) | (with_reducible refine Kd.C_drew ?_))); (case side2 => exact HC0.out); rintro e w25 ⟨v220, rfl, ho0, hb⟩; refine ⟨_, rfl, ?_⟩; have n0_ := Aside0.mk (Kd.S_elder' (by (with_reducible repeat (first | apply Kd.S_alloc | apply Kd.S_drewN | apply Kd.S_drew)); exact HO217.out) (Kd.S_base ho0) hb); have n1_ := Aside0.mk (Kd.S_lower (Kd.S_new' ho0 (Kd.S_lt (by (with_reducible repeat (first | apply Kd.S_alloc | apply Kd.S_drewN | apply Kd.S_drew)); exact HO217.out))) (below_size (by repeat (first | (with_reducible first | exact HB.out | apply below_alloc | apply pw_below_drewN | apply below_drew1) | exact HB.out)))); have n2_ := Aside0.mk (below_step (by repeat (first | (with_reducible first | exact HB.out | apply below_alloc | apply pw_below_drewN | apply below_drew1) | exact HB.out)) hb); clear HO217; clear HB; have HO217 := n0_; have HO221 := n1_; have HB := n2_; clear n0_ n1_ n2_; (try clear hb); (try clear hb2); (try clear hk); (try clear hi); (try clear ho0); obtain ⟨Ao26, co26, eo26⟩ := Kd.S_slice HO221.out; subst eo26) | ((with_reducible refine gate_callee (f := 35) rfl ?_); refine goesL_ (some 18) rfl rfl Try.func35 (by kernel_rfl) rfl #[.slice Ao26 t219.length co26] rfl (by (try simp only [List.map_toArray, List.map_cons, List.map_nil]); first | done | rfl | (simp only [List.length_drop, List.length_take]; rfl)) ?_; (with_reducible refine (impl_MostLeft.calls k _ _ t219 t222 _ ?side1 ?side2 A8.out).mono ?_); (case side1 => repeat (first | exact (Kd.S_reads' HO221.out).2.2 | (with_reducible refine Kd.C_alloc ?_ _) | (with_reducible refine Kd.C_drewN ?_ _) | (with_reducible refine Kd.C_drew ?_))); (case side2 => exact (Kd.S_reads' HO221.out).2.1); rintro e w27 ⟨rfl, hb⟩; refine ⟨_, rfl, ?_⟩; have n0_ := Aside0.mk (Kd.S_below (by (with_reducible repeat (first | apply Kd.S_alloc | apply Kd.S_drewN | apply Kd.S_drew)); exact HO217.out) hb); have n1_ := Aside0.mk (Kd.S_below (by (with_reducible repeat (first | apply Kd.S_alloc | apply Kd.S_drewN | apply Kd.S_drew)); exact HO221.out) hb); have n2_ := Aside0.mk (below_step (by repeat (first | (with_reducible first | exact HB.out | apply below_alloc | apply pw_below_drewN | apply below_drew1) | exact HB.out)) hb); clear HO217; clear HO221; clear HB; have HO217 := n0_; have HO221 := n1_; have HB := n2_; clear n0_ n1_ n2_; (try clear hb); (try clear hb2); (try clear hk); (try clear hi)) | ((with_reducible refine gate_callee (f := 34) rfl ?_); refine goesL_ (some 24) rfl rfl Try.func34 (by kernel_rfl) rfl #[.slice A0 l0.length c0] rfl (by (try simp only [List.map_toArray, List.map_cons, List.map_nil]); first | done | rfl | (simp only [List.length_drop, List.length_take]; rfl)) ?_; (with_reducible refine (laws_toEffectS.calls k _ _ l0 t223 _ ?side1 ?side2 A10.out).mono ?_); (case side1 => repeat (first | exact (Kd.C_below HR0.out HB.out) | (with_reducible refine Kd.C_alloc ?_ _) | (with_reducible refine Kd.C_drewN ?_ _) | (with_reducible refine Kd.C_drew ?_))); (case side2 => exact HC0.out); rintro e w28 ⟨v224, rfl, ho0, hb⟩; refine ⟨_, rfl, ?_⟩; have n0_ := Aside0.mk (Kd.S_elder' (by (with_reducible repeat (first | apply Kd.S_alloc | apply Kd.S_drewN | apply Kd.S_drew)); exact HO217.out) (Kd.S_base ho0) hb); have n1_ := Aside0.mk (Kd.S_elder' (by (with_reducible repeat (first | apply Kd.S_alloc | apply Kd.S_drewN | apply Kd.S_drew)); exact HO221.out) (Kd.S_base ho0) hb); have n2_ := Aside0.mk (Kd.S_lower (Kd.S_new' (Kd.S_new' ho0 (Kd.S_lt (by (with_reducible repeat (first | apply Kd.S_alloc | apply Kd.S_drewN | apply Kd.S_drew)); exact HO217.out))) (Kd.S_lt (by (with_reducible repeat (first | apply Kd.S_alloc | apply Kd.S_drewN | apply Kd.S_drew)); exact HO221.out))) (below_size (by repeat (first | (with_reducible first | exact HB.out | apply below_alloc | apply pw_below_drewN | apply below_drew1) | exact HB.out)))); have n3_ := Aside0.mk (below_step (by repeat (first | (with_reducible first | exact HB.out | apply below_alloc | apply pw_below_drewN | apply below_drew1) | exact HB.out)) hb); clear HO217; clear HO221; clear HB; have HO217 := n0_; have HO221 := n1_; have HO225 := n2_; have HB := n3_; clear n0_ n1_ n2_ n3_; (try clear hb); (try clear hb2); (try clear hk); (try clear hi); (try clear ho0); obtain ⟨Ao29, co29, eo29⟩ := Kd.S_slice HO225.out; subst eo29) | ((with_reducible refine gate_callee (f := 36) rfl ?_); refine goesL_ (some 25) rfl rfl Try.func36 (by kernel_rfl) rfl #[.slice Ao26 t219.length co26, .slice Ao29 t223.length co29] rfl (by (try simp only [List.map_toArray, List.map_cons, List.map_nil]); first | done | rfl | (simp only [List.length_drop, List.length_take]; rfl)) ?_; (with_reducible refine (laws_eqEffectS.calls k _ _ t219 _ _ t223 false _ ?side1 ?side2 ?side3 ?side4 A11.out).mono ?_); (case side1 => repeat (first | exact (Kd.S_reads' HO221.out).2.2 | (with_reducible refine Kd.C_alloc ?_ _) | (with_reducible refine Kd.C_drewN ?_ _) | (with_reducible refine Kd.C_drew ?_))); (case side2 => exact (Kd.S_reads' HO221.out).2.1); (case side3 => repeat (first | exact (Kd.S_reads' HO225.out).2.2 | (with_reducible refine Kd.C_alloc ?_ _) | (with_reducible refine Kd.C_drewN ?_ _) | (with_reducible refine Kd.C_drew ?_))); (case side4 => exact (Kd.S_reads' HO225.out).2.1); rintro e w30 ⟨rfl, hb⟩; refine ⟨_, rfl, ?_⟩; have n0_ := Aside0.mk (Kd.S_below (by (with_reducible repeat (first | apply Kd.S_alloc | apply Kd.S_drewN | apply Kd.S_drew)); exact HO217.out) hb); have n1_ := Aside0.mk (Kd.S_below (by (with_reducible repeat (first | apply Kd.S_alloc | apply Kd.S_drewN | apply Kd.S_drew)); exact HO221.out) hb); have n2_ := Aside0.mk (Kd.S_below (by (with_reducible repeat (first | apply Kd.S_alloc | apply Kd.S_drewN | apply Kd.S_drew)); exact HO225.out) hb); have n3_ := Aside0.mk (below_step (by repeat (first | (with_reducible first | exact HB.out | apply below_alloc | apply pw_below_drewN | apply below_drew1) | exact HB.out)) hb); clear HO217; clear HO221; clear HO225; clear HB; have HO217 := n0_; have HO221 := n1_; have HO225 := n2_; have HB := n3_; clear n0_ n1_ n2_ n3_; (try clear hb); (try clear hb2); (try clear hk); (try clear hi)))
        go_ret
        exact ⟨by first | rfl | (simp [errW_none, errW_some] <;> rfl) | (simp [*, errW_none, errW_some] <;> rfl), by repeat (first | (with_reducible first | exact HB.out | apply below_alloc | apply pw_below_drewN | apply below_drew1) | exact HB.out)⟩
    · rw [if_neg c9] at H
      have c9b0 : (t222 == t218) = false := beq_eq_false_iff_ne.mpr c9
      have c9b1 : (t222 != t218) = true := bne_iff_ne.mpr c9
      obtain rfl := Option.some.inj H
      go_enter Try.func6, Try.ntmps6
      go_wp2_with (first | ((with_reducible refine gate_callee (f := 32) rfl ?_); refine goesL_ (some 9) rfl rfl Try.func32 (by kernel_rfl) rfl #[.slice A0 l0.length c0, .int .i64 1048576] rfl (by (try simp only [List.map_toArray, List.map_cons, List.map_nil]); first | done | rfl | (simp only [List.length_drop, List.length_take]; rfl)) ?_; (with_reducible refine (laws_szEffectS.calls k _ _ l0 1048576 t214 _ ?side1 ?side2 A2.out).mono ?_); (case side1 => repeat (first | exact HR0.out | (with_reducible refine Kd.C_alloc ?_ _) | (with_reducible refine Kd.C_drewN ?_ _) | (with_reducible refine Kd.C_drew ?_))); (case side2 => exact HC0.out); rintro e w31 ⟨rfl, hb⟩; refine ⟨_, rfl, ?_⟩; have n0_ := Aside0.mk (below_step (by repeat (first | (with_reducible first | exact HB.out | apply below_alloc | apply pw_below_drewN | apply below_drew1) | exact HB.out)) hb); clear HB; have HB := n0_; clear n0_; (try clear hb); (try clear hb2); (try clear hk); (try clear hi)) | ((with_reducible refine gate_callee (f := 34) rfl ?_); refine goesL_ (some 13) rfl rfl Try.func34 (by kernel_rfl) rfl #[.slice A0 l0.length c0] rfl (by (try simp only [List.map_toArray, List.map_cons, List.map_nil]); first | done | rfl | (simp only [List.length_drop, List.length_take]; rfl)) ?_; (with_reducible refine (laws_toEffectS.calls k _ _ l0 t215 _ ?side1 ?side2 A5.out).mono ?_); (case side1 => repeat (first | exact (Kd.C_below HR0.out HB.out) | (with_reducible refine Kd.C_alloc ?_ _) | (with_reducible refine Kd.C_drewN ?_ _) | (with_reducible refine Kd.C_drew ?_))); (case side2 => exact HC0.out); rintro e w32 ⟨v216, rfl, ho0, hb⟩; refine ⟨_, rfl, ?_⟩; have n0_ := Aside0.mk (Kd.S_lower ho0 (below_size (by repeat (first | (with_reducible first | exact HB.out | apply below_alloc | apply pw_below_drewN | apply below_drew1) | exact HB.out)))); have n1_ := Aside0.mk (below_step (by repeat (first | (with_reducible first | exact HB.out | apply below_alloc | apply pw_below_drewN | apply below_drew1) | exact HB.out)) hb); clear HB; have HO217 := n0_; have HB := n1_; clear n0_ n1_; (try clear hb); (try clear hb2); (try clear hk); (try clear hi); (try clear ho0); obtain ⟨Ao33, co33, eo33⟩ := Kd.S_slice HO217.out; subst eo33) | ((with_reducible refine gate_callee (f := 33) rfl ?_); refine goesL_ (some 14) rfl rfl Try.func33 (by kernel_rfl) rfl #[.slice Ao33 t215.length co33] rfl (by (try simp only [List.map_toArray, List.map_cons, List.map_nil]); first | done | rfl | (simp only [List.length_drop, List.length_take]; rfl)) ?_; (with_reducible refine (spec_MostLeft.calls k _ _ t215 t218 _ ?side1 ?side2 A6.out).mono ?_); (case side1 => repeat (first | exact (Kd.S_reads' HO217.out).2.2 | (with_reducible refine Kd.C_alloc ?_ _) | (with_reducible refine Kd.C_drewN ?_ _) | (with_reducible refine Kd.C_drew ?_))); (case side2 => exact (Kd.S_reads' HO217.out).2.1); rintro e w' ⟨rfl, ⟨nd, rfl⟩⟩; refine ⟨_, rfl, ?_⟩) | ((with_reducible refine gate_callee (f := 34) rfl ?_); refine goesL_ (some 16) rfl rfl Try.func34 (by kernel_rfl) rfl #[.slice A0 l0.length c0] rfl (by (try simp only [List.map_toArray, List.map_cons, List.map_nil]); first | done | rfl | (simp only [List.length_drop, List.length_take]; rfl)) ?_; (with_reducible refine (laws_toEffectS.calls k _ _ l0 t219 _ ?side1 ?side2 A7.out).mono ?_); (case side1 => repeat (first | exact (Kd.C_below HR0.out (by repeat (first | (with_reducible first | exact HB.out | apply below_alloc | apply pw_below_drewN | apply below_drew1) | exact HB.out))) | (with_reducible refine Kd.C_alloc ?_ _) | (with_reducible refine Kd.C_drewN ?_ _) | (with_reducible refine Kd.C_drew ?_))); (case side2 => exact HC0.out); rintro e w34 ⟨v220, rfl, ho0, hb⟩; refine ⟨_, rfl, ?_⟩; have n0_ := Aside0.mk (Kd.S_elder' (by (with_reducible repeat (first | apply Kd.S_alloc | apply Kd.S_drewN | apply Kd.S_drew)); exact HO217.out) (Kd.S_base ho0) hb); have n1_ := Aside0.mk (Kd.S_lower (Kd.S_new' ho0 (Kd.S_lt (by (with_reducible repeat (first | apply Kd.S_alloc | apply Kd.S_drewN | apply Kd.S_drew)); exact HO217.out))) (below_size (by repeat (first | (with_reducible first | exact HB.out | apply below_alloc | apply pw_below_drewN | apply below_drew1) | exact HB.out)))); have n2_ := Aside0.mk (below_step (by repeat (first | (with_reducible first | exact HB.out | apply below_alloc | apply pw_below_drewN | apply below_drew1) | exact HB.out)) hb); clear HO217; clear HB; have HO217 := n0_; have HO221 := n1_; have HB := n2_; clear n0_ n1_ n2_; (try clear hb); (try clear hb2); (try clear hk); (try clear hi); (try clear ho0); obtain ⟨Ao35, co35, eo35⟩ := Kd.S_slice HO221.out; subst eo35) | ((with_reducible refine gate_callee (f := 35) rfl ?_); refine goesL_ (some 18) rfl rfl Try.func35 (by kernel_rfl) rfl #[.slice Ao35 t219.length co35] rfl (by (try simp only [List.map_toArray, List.map_cons, List.map_nil]); first | done | rfl | (simp only [List.length_drop, List.length_take]; rfl)) ?_; (with_reducible refine (impl_MostLeft.calls k _ _ t219 t222 _ ?side1 ?side2 A8.out).mono ?_); (case side1 => repeat (first | exact (Kd.S_reads' HO221.out).2.2 | (with_reducible refine Kd.C_alloc ?_ _) | (with_reducible refine Kd.C_drewN ?_ _) | (with_reducible refine Kd.C_drew ?_))); (case side2 => exact (Kd.S_reads' HO221.out).2.1); rintro e w36 ⟨rfl, hb⟩; refine ⟨_, rfl, ?_⟩; have n0_ := Aside0.mk (Kd.S_below (by (with_reducible repeat (first | apply Kd.S_alloc | apply Kd.S_drewN | apply Kd.S_drew)); exact HO217.out) hb); have n1_ := Aside0.mk (Kd.S_below (by (with_reducible repeat (first | apply Kd.S_alloc | apply Kd.S_drewN | apply Kd.S_drew)); exact HO221.out) hb); have n2_ := Aside0.mk (below_step (by repeat (first | (with_reducible first | exact HB.out | apply below_alloc | apply pw_below_drewN | apply below_drew1) | exact HB.out)) hb); clear HO217; clear HO221; clear HB; have HO217 := n0_; have HO221 := n1_; have HB := n2_; clear n0_ n1_ n2_; (try clear hb); (try clear hb2); (try clear hk); (try clear hi)))
      go_ret
      exact ⟨by first | rfl | (simp [errW_none, errW_some] <;> rfl) | (simp [*, errW_none, errW_some] <;> rfl), by repeat (first | (with_reducible first | exact HB.out | apply below_alloc | apply pw_below_drewN | apply below_drew1) | exact HB.out)⟩

end Go.Proofs.Ytnbmifoebaoemaa.PFnExactMostLeft
