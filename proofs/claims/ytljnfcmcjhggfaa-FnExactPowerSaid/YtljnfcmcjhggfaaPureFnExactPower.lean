/- Whatever the base and the exponent, the program's Power and the reference's Power return the same number. Conditions: none. -/
import Derived.Test.YtljnfcmcjhggfaaPFnExactPowerx1
namespace Go.Proofs.Ytljnfcmcjhggfaa.Pure
open Go.RowKit Go.Proofs.Ytljnfcmcjhggfaa.PFnExactPower Go.Proofs.YtljnfcmcjhggfaaW.PrintWords Go.Proofs.YtljnfcmcjhggfaaW.PrintLast

/-! powers and their sums, limited -/
theorem mx_eq (a b : Int) : mx a b = max a b := by unfold mx; omega
theorem mn_eq (a b : Int) : mn a b = min a b := by unfold mn; omega
def upto (a b : Int) : Int := max 0 (min a b)
theorem spec_Upto_f (a b : Int) : spec_Upto.f a b = some (upto a b) := by
  unfold spec_Upto.f upto
  repeat' split
  all_goals (congr 1; omega)
theorem impl_Upto_f (a b : Int) : impl_Upto.f a b = some (upto a b) := by
  unfold impl_Upto.f upto
  rw [mx_eq, mn_eq]
def bnd (a : Int) : Int := max (-2147483647) (min a 2147483647)
theorem spec_Bound_f (a : Int) : spec_Bound.f a = some (bnd a) := by
  unfold spec_Bound.f bnd
  repeat' split
  all_goals (congr 1; omega)
def pw (x : Int) : Nat → Int
  | 0 => 1
  | n + 1 => min (pw x n * x) 2147483647
theorem pw_succ (x : Int) (n : Nat) : pw x (n + 1) = min (pw x n * x) 2147483647 := rfl
theorem pw_range (x : Int) (h0 : 0 ≤ x) (n : Nat) : 0 ≤ pw x n ∧ pw x n ≤ 2147483647 := by
  induction n with
  | zero => simp [pw]
  | succ n ih =>
    have : 0 ≤ pw x n * x := Int.mul_nonneg ih.1 h0
    rw [pw_succ]
    omega
theorem mul_small {a x : Int} (h0 : 0 ≤ a) (h1 : a ≤ 2147483647) (h2 : 0 ≤ x) (h3 : x ≤ 2147483647) : 0 ≤ a * x ∧ a * x ≤ 4611686014132420609 := by
  constructor
  · exact Int.mul_nonneg h0 h2
  · calc a * x ≤ 2147483647 * 2147483647 := Int.mul_le_mul h1 h3 h2 (by omega)
      _ = 4611686014132420609 := by decide
theorem wrap_small {a : Int} (h0 : -9223372036854775808 ≤ a) (h1 : a ≤ 9223372036854775807) : wrap64 a = a := by
  unfold wrap64
  omega
theorem pw_one (n : Nat) : pw 1 n = 1 := by
  induction n with
  | zero => rfl
  | succ n ih => rw [pw_succ, ih]; decide
theorem pw_zero (n : Nat) : pw 0 (n + 1) = 0 := by
  rw [pw_succ, Int.mul_zero]
  decide
theorem pw_top (x : Int) (h : 1 ≤ x) (n j : Nat) (e : pw x n = 2147483647) : pw x (n + j) = 2147483647 := by
  induction j with
  | zero => exact e
  | succ j ih =>
    show min (pw x (n + j) * x) 2147483647 = _
    rw [ih]
    omega
theorem pw_lower (x : Int) (h : 2 ≤ x) (n : Nat) : min (2 ^ n) 2147483647 ≤ pw x n := by
  induction n with
  | zero => simp [pw]; omega
  | succ n ih =>
    have h1 := pw_range x (by omega) n
    have h2 : pw x n * 2 ≤ pw x n * x := Int.mul_le_mul_of_nonneg_left h h1.1
    rw [pw_succ, Int.pow_succ]
    omega
theorem pw_31 (x : Int) (h : 2 ≤ x) (n : Nat) (hn : 31 ≤ n) : pw x n = 2147483647 := by
  have h1 := pw_lower x h 31
  have h2 := (pw_range x (by omega) 31).2
  have h3 : pw x 31 = 2147483647 := by
    have : (2 : Int) ^ 31 = 2147483648 := by decide
    omega
  have := pw_top x (by omega) 31 (n - 31) h3
  rwa [show 31 + (n - 31) = n by omega] at this
theorem spec_Power_l0 (n x : Int) (hx0 : 0 ≤ x) (hx : x ≤ 2147483647) (hn : n ≤ 9223372036854775807) (d : Nat) : ∀ (j : Nat), j + d = (min n 64).toNat →
    Ev (fun k => spec_Power.l0 k n x (pw x j) j) (pw x (min n 64).toNat) := by
  induction d with
  | zero =>
    intro j hj
    refine Ev.step (f := fun _ => some (pw x j)) (fun k => ?_) ?_
    · simp only [spec_Power.l0]
      by_cases h : (j : Int) < n
      · rw [if_pos h, if_neg (by omega)]
      · rw [if_neg h]
    · rw [show (min n 64).toNat = j by omega]
      exact Ev.now _
  | succ d ih =>
    intro j hj
    have hp := pw_range x hx0 j
    have hm := mul_small hp.1 hp.2 hx0 hx
    refine Ev.step (f := fun k => spec_Power.l0 k n x (pw x (j + 1)) ((j + 1 : Nat) : Int)) (fun k => ?_) (ih (j + 1) (by omega))
    simp only [spec_Power.l0]
    rw [if_pos (by omega), if_pos (by omega), spec_Bound_f, wrap_small (by omega) (by omega), wrap_small (by omega) (by omega)]
    simp only [Option.bind_some]
    rw [show bnd (pw x j * x) = pw x (j + 1) by rw [pw_succ]; unfold bnd; omega]
    rfl
def powr (k n : Int) : Int := pw (upto k 2147483647) (min n 64).toNat
theorem upto_max (k : Int) : 0 ≤ upto k 2147483647 ∧ upto k 2147483647 ≤ 2147483647 := by unfold upto; omega
theorem spec_Power_f (a n : Int) (hn : n ≤ 9223372036854775807) : Ev (fun k => spec_Power.f k a n) (powr a n) := by
  unfold spec_Power.f
  refine Ev.bind (g := fun _ => spec_Upto.f a 2147483647) (a := upto a 2147483647) ?_ ?_
  · rw [spec_Upto_f]; exact Ev.now _
  · have h := spec_Power_l0 n (upto a 2147483647) (upto_max a).1 (upto_max a).2 hn (min n 64).toNat 0 (by omega)
    exact h
theorem impl_Power_l0 (x : Int) (hx0 : 2 ≤ x) (hx : x ≤ 2147483647) (m : Nat) : ∀ (j : Nat), (m : Int) ≤ 9223372036854775807 →
    Ev (fun k => impl_Power.l0 k x m (pw x j)) (pw x (j + m)) := by
  induction m with
  | zero =>
    intro j _
    refine Ev.step (f := fun _ => some (pw x j)) (fun k => ?_) (Ev.now _)
    simp only [impl_Power.l0]
    rw [if_neg (by omega)]
  | succ m ih =>
    intro j hm
    have hp := pw_range x (by omega) j
    by_cases h : pw x j < 2147483647
    · have hml := mul_small hp.1 hp.2 (by omega : 0 ≤ x) hx
      rw [show j + (m + 1) = (j + 1) + m by omega]
      refine Ev.step (f := fun k => impl_Power.l0 k x m (pw x (j + 1))) (fun k => ?_) (ih (j + 1) (by omega))
      simp only [impl_Power.l0]
      rw [if_pos (by omega), if_pos h, wrap_small (by omega) (by omega), wrap_small (by omega) (by omega), mn_eq]
      rw [show ((m + 1 : Nat) : Int) - 1 = m by omega]
      rfl
    · have e : pw x j = 2147483647 := by omega
      rw [pw_top x (by omega) j (m + 1) e]
      refine Ev.step (f := fun _ => some 2147483647) (fun k => ?_) (Ev.now _)
      simp only [impl_Power.l0]
      rw [if_pos (by omega), if_neg h, e]
theorem impl_Power_f (a n : Int) (hn : n ≤ 9223372036854775807) : Ev (fun k => impl_Power.f k a n) (powr a n) := by
  unfold impl_Power.f
  refine Ev.bind (g := fun _ => impl_Upto.f a 2147483647) (a := upto a 2147483647) ?_ ?_
  · rw [impl_Upto_f]; exact Ev.now _
  · have hu := upto_max a
    unfold powr
    generalize upto a 2147483647 = x at *
    by_cases h2 : x < 2
    · by_cases hn0 : n > 0
      · refine Ev.congr (f := fun _ => some x) (fun k => by rw [if_pos h2, if_pos hn0]) ?_
        obtain ⟨q, hq⟩ : ∃ q, (min n 64).toNat = q + 1 := ⟨(min n 64).toNat - 1, by omega⟩
        rw [hq]
        by_cases h0 : x = 0
        · subst h0; rw [pw_zero]; exact Ev.now _
        · obtain rfl : x = 1 := by omega
          rw [pw_one]; exact Ev.now _
      · refine Ev.congr (f := fun _ => some 1) (fun k => by rw [if_pos h2, if_neg hn0]) ?_
        rw [show (min n 64).toNat = 0 by omega]
        exact Ev.now _
    · refine Ev.congr (f := fun k => impl_Power.l0 k x n 1) (fun k => by rw [if_neg h2]) ?_
      by_cases hn0 : 0 ≤ n
      · have h := impl_Power_l0 x (by omega) hu.2 n.toNat 0 (by omega)
        rw [show ((n.toNat : Nat) : Int) = n by omega, Nat.zero_add] at h
        have e : pw x n.toNat = pw x (min n 64).toNat := by
          by_cases h64 : n ≤ 64
          · rw [show (min n 64).toNat = n.toNat by omega]
          · rw [pw_31 x (by omega) n.toNat (by omega), pw_31 x (by omega) (min n 64).toNat (by omega)]
        rw [← e]
        exact h
      · rw [show (min n 64).toNat = 0 by omega]
        refine Ev.step (f := fun _ => some 1) (fun k => ?_) (Ev.now _)
        simp only [impl_Power.l0]
        rw [if_neg (by omega)]
theorem int_of_wf {a : Int} (h : (Lit.int .i64 a).wf = true) : -9223372036854775808 ≤ a ∧ a ≤ 9223372036854775807 := by
  simp [Lit.wf, IntKind.min, IntKind.max, IntKind.signed, IntKind.bits] at h
  omega

theorem FnExactPower : laws_FnExactPower.Pure := by
  intro a n _ hn
  have h1 := spec_Power_f a n (int_of_wf hn).2
  have h2 := impl_Power_f a n (int_of_wf hn).2
  refine Ev.rounds ?_
  unfold laws_FnExactPower.f
  refine Ev.bind h1 (Ev.bind h2 ?_)
  refine Ev.congr (f := fun _ => some true) (fun k => ?_) (Ev.now _)
  rw [if_pos rfl]

end Go.Proofs.Ytljnfcmcjhggfaa.Pure
