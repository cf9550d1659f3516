/- For every trigger, the program's TriggerText and the reference's TriggerText return the same text. Conditions: none. -/
import Derived.Test.YtljnfcmcjhggfaaRowFnExactTriggerText
set_option linter.unusedVariables false
set_option linter.unusedSimpArgs false
namespace Go.Proofs.Ytljnfcmcjhggfaa.Pure
open Go.RowKit Go.Proofs.Ytljnfcmcjhggfaa Go.Proofs.Ytljnfcmcjhggfaa.PFnExactTriggerText Go.Proofs.YtljnfcmcjhggfaaW.PrintWords Go.Proofs.YtljnfcmcjhggfaaW.PrintLast Go.Proofs.YtljnfcmcjhggfaaW.PrintMore Go.Proofs.Ytljnfcmcjhggfaa.Opening

theorem int_of_wf {a : Int} (h : (Lit.int .i64 a).wf = true) : -9223372036854775808 ≤ a ∧ a ≤ 9223372036854775807 := by
  simp [Lit.wf, IntKind.min, IntKind.max, IntKind.signed, IntKind.bits] at h
  omega

/-! decimal digits -/
def dg (d : Nat) : ByteArray := ⟨#[UInt8.ofNat (48 + d)]⟩
def decN (n : Nat) : ByteArray := if h : n < 10 then dg n else decN (n / 10) ++ dg (n % 10)
termination_by n
def minus : ByteArray := ⟨#[45]⟩
def txt (n : Int) : ByteArray := if n < 0 then minus ++ decN n.natAbs else decN n.natAbs
theorem decN_small (n : Nat) (h : n < 10) : decN n = dg n := by rw [decN, dif_pos h]
theorem decN_step (n : Nat) (h : ¬ n < 10) : decN n = decN (n / 10) ++ dg (n % 10) := by rw [decN, dif_neg h]
theorem dg_size (d : Nat) : (dg d).size = 1 := rfl
theorem decN_size (d : Nat) : ∀ n : Nat, n < 10 ^ (d + 1) → (decN n).size ≤ d + 1 := by
  induction d with
  | zero =>
    intro n h
    rw [decN_small n (by simpa using h), dg_size]
    omega
  | succ d ih =>
    intro n h
    by_cases h10 : n < 10
    · rw [decN_small n h10, dg_size]
      omega
    · rw [decN_step n h10, ByteArray.size_append, dg_size]
      have := ih (n / 10) (by rw [Nat.pow_succ] at h; omega)
      omega
theorem abs_lt {n : Int} (h0 : -9223372036854775808 ≤ n) (h1 : n ≤ 9223372036854775807) : n.natAbs < 10 ^ (19 + 1) := by
  have : (10 : Nat) ^ (19 + 1) = 100000000000000000000 := by decide
  omega
theorem txt_size {n : Int} (h0 : -9223372036854775808 ≤ n) (h1 : n ≤ 9223372036854775807) : (txt n).size ≤ 21 := by
  have h := decN_size 19 _ (abs_lt h0 h1)
  unfold txt
  split
  · rw [ByteArray.size_append]
    have : minus.size = 1 := rfl
    omega
  · omega
theorem enc_digit (d : Nat) (h : d < 10) : Utf8.encode (48 + (d : Int)) = dg d := by
  have e : ∀ m, m < 10 → Utf8.encode (48 + ((m : Nat) : Int)) = dg m := by decide
  exact e d h
theorem nums_digit (d : Nat) (h : d < 10) : strOfNums [(48 + (d : Int)) % 256] = dg d := by
  have e : ∀ m, m < 10 → strOfNums [(48 + ((m : Nat) : Int)) % 256] = dg m := by decide
  exact e d h
theorem w64 {a : Int} (h0 : -9223372036854775808 ≤ a) (h1 : a ≤ 9223372036854775807) : wrap64 a = a := by unfold wrap64; omega
theorem w32 {a : Int} (h0 : -2147483648 ≤ a) (h1 : a ≤ 2147483647) : wrap32 a = a := by unfold wrap32; omega
theorem tmod_neg {x : Int} (h : x < 0) : Int.tmod x 10 = -((x.natAbs % 10 : Nat) : Int) := by
  obtain ⟨m, rfl⟩ : ∃ m : Nat, x = -(m : Int) := ⟨x.natAbs, by omega⟩
  rw [Int.neg_tmod, Int.natAbs_neg, Int.natAbs_natCast]
  rfl
theorem tdiv_neg {x : Int} (h : x < 0) : Int.tdiv x 10 = -((x.natAbs / 10 : Nat) : Int) := by
  obtain ⟨m, rfl⟩ : ∃ m : Nat, x = -(m : Int) := ⟨x.natAbs, by omega⟩
  rw [Int.neg_tdiv, Int.natAbs_neg, Int.natAbs_natCast]
  rfl
theorem tmod_pos {x : Int} (h : 0 ≤ x) : Int.tmod x 10 = ((x.natAbs % 10 : Nat) : Int) := by
  obtain ⟨m, rfl⟩ : ∃ m : Nat, x = (m : Int) := ⟨x.natAbs, by omega⟩
  rfl
theorem tdiv_pos {x : Int} (h : 0 ≤ x) : Int.tdiv x 10 = ((x.natAbs / 10 : Nat) : Int) := by
  obtain ⟨m, rfl⟩ : ∃ m : Nat, x = (m : Int) := ⟨x.natAbs, by omega⟩
  rfl
theorem tdiv_abs (x : Int) : (Int.tdiv x 10).natAbs = x.natAbs / 10 := by
  by_cases h : x < 0
  · rw [tdiv_neg h]; omega
  · rw [tdiv_pos (by omega)]; omega
theorem spec_NumText_l0 (a : Int) (d : Nat) : ∀ (x : Int) (s : ByteArray), x.natAbs < 10 ^ (d + 1) → 0 < x.natAbs → -9223372036854775808 ≤ x → x ≤ 9223372036854775807 → s.size + d ≤ 100 →
    Ev (fun k => spec_NumText.l0 k a s x) (if a < 0 then minus ++ (decN x.natAbs ++ s) else decN x.natAbs ++ s) := by
  induction d with
  | zero =>
    intro x s h hp h0 h1 hs
    have hx : x.natAbs < 10 := by simpa using h
    have hend : Ev (fun k => spec_NumText.l0 k a (dg x.natAbs ++ s) 0) (if a < 0 then minus ++ (decN x.natAbs ++ s) else decN x.natAbs ++ s) := by
      refine Ev.step (f := fun _ => some (if a < 0 then minus ++ (decN x.natAbs ++ s) else decN x.natAbs ++ s)) (fun k => ?_) (Ev.now _)
      rw [decN_small _ hx]
      simp only [spec_NumText.l0]
      rw [if_pos trivial]
      by_cases ha : a < 0
      · rw [if_pos ha, if_pos ha, if_pos (by rw [ByteArray.size_append, dg_size]; omega)]
        rfl
      · rw [if_neg ha, if_neg ha]
    refine Ev.step (f := fun k => spec_NumText.l0 k a (dg x.natAbs ++ s) 0) (fun k => ?_) hend
    simp only [spec_NumText.l0]
    rw [if_neg (by omega)]
    by_cases hneg : x < 0
    · rw [tmod_neg hneg, tdiv_neg hneg, if_pos (by omega)]
      simp only [Option.bind_some]
      rw [Int.neg_neg, w64 (a := ((x.natAbs % 10 : Nat) : Int)) (by omega) (by omega), w64 (by omega) (by omega), nums_digit _ (by omega), Nat.mod_eq_of_lt hx, dg_size, if_pos (by omega), w64 (by omega) (by omega)]
      rw [show -((x.natAbs / 10 : Nat) : Int) = 0 by omega]
    · rw [tmod_pos (by omega), tdiv_pos (by omega), if_neg (by omega)]
      simp only [Option.bind_some]
      rw [w64 (by omega) (by omega), nums_digit _ (by omega), Nat.mod_eq_of_lt hx, dg_size, if_pos (by omega), w64 (by omega) (by omega)]
      rw [show ((x.natAbs / 10 : Nat) : Int) = 0 by omega]
  | succ d ih =>
    intro x s h hp h0 h1 hs
    by_cases hx : x.natAbs < 10
    · have hend : Ev (fun k => spec_NumText.l0 k a (dg x.natAbs ++ s) 0) (if a < 0 then minus ++ (decN x.natAbs ++ s) else decN x.natAbs ++ s) := by
        refine Ev.step (f := fun _ => some (if a < 0 then minus ++ (decN x.natAbs ++ s) else decN x.natAbs ++ s)) (fun k => ?_) (Ev.now _)
        rw [decN_small _ hx]
        simp only [spec_NumText.l0]
        rw [if_pos trivial]
        by_cases ha : a < 0
        · rw [if_pos ha, if_pos ha, if_pos (by rw [ByteArray.size_append, dg_size]; omega)]
          rfl
        · rw [if_neg ha, if_neg ha]
      refine Ev.step (f := fun k => spec_NumText.l0 k a (dg x.natAbs ++ s) 0) (fun k => ?_) hend
      simp only [spec_NumText.l0]
      rw [if_neg (by omega)]
      by_cases hneg : x < 0
      · rw [tmod_neg hneg, tdiv_neg hneg, if_pos (by omega)]
        simp only [Option.bind_some]
        rw [Int.neg_neg, w64 (a := ((x.natAbs % 10 : Nat) : Int)) (by omega) (by omega), w64 (by omega) (by omega), nums_digit _ (by omega), Nat.mod_eq_of_lt hx, dg_size, if_pos (by omega), w64 (by omega) (by omega)]
        rw [show -((x.natAbs / 10 : Nat) : Int) = 0 by omega]
      · rw [tmod_pos (by omega), tdiv_pos (by omega), if_neg (by omega)]
        simp only [Option.bind_some]
        rw [w64 (by omega) (by omega), nums_digit _ (by omega), Nat.mod_eq_of_lt hx, dg_size, if_pos (by omega), w64 (by omega) (by omega)]
        rw [show ((x.natAbs / 10 : Nat) : Int) = 0 by omega]
    · have hq := tdiv_abs x
      have hih := ih (Int.tdiv x 10) (dg (x.natAbs % 10) ++ s) (by rw [hq]; rw [Nat.pow_succ] at h; omega) (by rw [hq]; omega) (by
          by_cases hneg : x < 0
          · rw [tdiv_neg hneg]; omega
          · rw [tdiv_pos (by omega)]; omega) (by
          by_cases hneg : x < 0
          · rw [tdiv_neg hneg]; omega
          · rw [tdiv_pos (by omega)]; omega) (by rw [ByteArray.size_append, dg_size]; omega)
      rw [hq, show decN (x.natAbs / 10) ++ (dg (x.natAbs % 10) ++ s) = decN x.natAbs ++ s by rw [← ByteArray.append_assoc, ← decN_step _ hx]] at hih
      refine Ev.step (f := fun k => spec_NumText.l0 k a (dg (x.natAbs % 10) ++ s) (Int.tdiv x 10)) (fun k => ?_) hih
      simp only [spec_NumText.l0]
      rw [if_neg (by omega)]
      by_cases hneg : x < 0
      · rw [tmod_neg hneg, tdiv_neg hneg]
        by_cases hz : x.natAbs % 10 = 0
        · rw [if_neg (by omega)]
          simp only [Option.bind_some]
          rw [show -((x.natAbs % 10 : Nat) : Int) = ((x.natAbs % 10 : Nat) : Int) by omega, w64 (by omega) (by omega), nums_digit _ (by omega), dg_size, if_pos (by omega), w64 (by omega) (by omega)]
        · rw [if_pos (by omega)]
          simp only [Option.bind_some]
          rw [Int.neg_neg, w64 (a := ((x.natAbs % 10 : Nat) : Int)) (by omega) (by omega), w64 (by omega) (by omega), nums_digit _ (by omega), dg_size, if_pos (by omega), w64 (by omega) (by omega)]
      · rw [tmod_pos (by omega), tdiv_pos (by omega), if_neg (by omega)]
        simp only [Option.bind_some]
        rw [w64 (by omega) (by omega), nums_digit _ (by omega), dg_size, if_pos (by omega), w64 (by omega) (by omega)]
theorem spec_NumText_f (n : Int) (h0 : -9223372036854775808 ≤ n) (h1 : n ≤ 9223372036854775807) : Ev (fun k => spec_NumText.f k n) (txt n) := by
  unfold spec_NumText.f
  by_cases hz : n = 0
  · subst hz
    refine Ev.congr (f := fun _ => some (txt 0)) (fun k => ?_) (Ev.now _)
    rw [if_pos rfl]
    unfold txt
    rw [if_neg (by omega), decN_small _ (by decide)]
    rfl
  · refine Ev.congr (f := fun k => spec_NumText.l0 k n ⟨#[]⟩ n) (fun k => by rw [if_neg hz]) ?_
    have h := spec_NumText_l0 n 19 n ⟨#[]⟩ (abs_lt h0 h1) (by omega) h0 h1 (by decide)
    rw [show (⟨#[]⟩ : ByteArray) = ByteArray.empty from rfl, ByteArray.append_empty] at h
    exact h
theorem impl_NumText_f (d : Nat) : ∀ n : Int, n.natAbs < 10 ^ (d + 1) → -9223372036854775808 ≤ n → n ≤ 9223372036854775807 → Ev (fun k => impl_NumText.f k n) (txt n) := by
  have one : ∀ n : Int, 0 ≤ n → n < 10 → Ev (fun k => impl_NumText.f k n) (txt n) := by
    intro n h0 h1
    refine Ev.step (f := fun k => impl_NumText.j0 k n false) (fun k => ?_) ?_
    · simp only [impl_NumText.f]
      rw [if_neg (by omega)]
    · refine Ev.step (f := fun _ => some (txt n)) (fun k => ?_) (Ev.now _)
      simp only [impl_NumText.j0]
      rw [if_neg (by simp), if_neg (by omega), if_pos h1]
      unfold txt
      rw [if_neg (by omega), decN_small _ (by omega), w64 (by omega) (by omega), w32 (by omega) (by omega), ← enc_digit _ (by omega)]
      rw [show ((n.natAbs : Nat) : Int) = n by omega]
  have neg1 : ∀ n : Int, n < 0 → -10 < n → Ev (fun k => impl_NumText.f k n) (txt n) := by
    intro n h0 h1
    refine Ev.step (f := fun k => impl_NumText.j0 k n true) (fun k => ?_) ?_
    · simp only [impl_NumText.f]
      rw [if_pos h0, decide_eq_true (by omega)]
    · refine Ev.step (f := fun k => (impl_NumText.f k (wrap64 (-n))).bind fun t132 => (if 1 + t132.size ≤ 9223372036854775807 then (some ((⟨#[45]⟩ : ByteArray) ++ t132)) else (none))) (fun k => ?_) ?_
      · simp only [impl_NumText.j0]
        rw [if_pos trivial]
      · rw [w64 (by omega) (by omega)]
        refine Ev.bind (one (-n) (by omega) (by omega)) ?_
        have hsz := txt_size (n := -n) (by omega) (by omega)
        refine Ev.congr (f := fun _ => some (txt n)) (fun k => ?_) (Ev.now _)
        rw [if_pos (by omega)]
        unfold txt
        rw [if_neg (by omega), if_pos h0, Int.natAbs_neg]
        rfl
  induction d with
  | zero =>
    intro n h h0 h1
    have : n.natAbs < 10 := by simpa using h
    by_cases hn : n < 0
    · exact neg1 n hn (by omega)
    · exact one n (by omega) (by omega)
  | succ d ih =>
    intro n h h0 h1
    by_cases h10 : n.natAbs < 10
    · by_cases hn : n < 0
      · exact neg1 n hn (by omega)
      · exact one n (by omega) (by omega)
    · have hp : n.natAbs / 10 < 10 ^ (d + 1) := by rw [Nat.pow_succ] at h; omega
      by_cases hn : n < 0
      · refine Ev.step (f := fun k => impl_NumText.j0 k n false) (fun k => ?_) ?_
        · simp only [impl_NumText.f]
          rw [if_pos hn, decide_eq_false (by omega)]
        · refine Ev.step (f := fun k => (impl_NumText.f k (wrap64 (Int.tdiv n 10))).bind fun t133 => ((impl_NumText.f k (wrap64 (-(Int.tmod n 10)))).bind fun t134 => (if t133.size + t134.size ≤ 9223372036854775807 then (some (t133 ++ t134)) else (none)))) (fun k => ?_) ?_
          · simp only [impl_NumText.j0]
            rw [if_neg (by simp), if_pos hn]
          · rw [tdiv_neg hn, tmod_neg hn, w64 (by omega) (by omega), Int.neg_neg, w64 (by omega) (by omega)]
            refine Ev.bind (ih _ (by rw [Int.natAbs_neg, Int.natAbs_natCast]; exact hp) (by omega) (by omega)) (Ev.bind (one _ (by omega) (by omega)) ?_)
            have hs1 := txt_size (n := -((n.natAbs / 10 : Nat) : Int)) (by omega) (by omega)
            have hs2 := txt_size (n := ((n.natAbs % 10 : Nat) : Int)) (by omega) (by omega)
            refine Ev.congr (f := fun _ => some (txt n)) (fun k => ?_) (Ev.now _)
            rw [if_pos (by omega)]
            unfold txt
            rw [if_pos (by omega), if_neg (by omega), if_pos hn, Int.natAbs_neg, Int.natAbs_natCast, Int.natAbs_natCast, decN_step _ h10, decN_small (n.natAbs % 10) (by omega), ByteArray.append_assoc]
      · refine Ev.step (f := fun k => impl_NumText.j0 k n false) (fun k => ?_) ?_
        · simp only [impl_NumText.f]
          rw [if_neg hn]
        · refine Ev.step (f := fun k => (impl_NumText.f k (wrap64 (Int.tdiv n 10))).bind fun t135 => (if t135.size + (Utf8.encode (wrap32 (wrap64 (48 + (Int.tmod n 10))))).size ≤ 9223372036854775807 then (some (t135 ++ (Utf8.encode (wrap32 (wrap64 (48 + (Int.tmod n 10))))))) else (none))) (fun k => ?_) ?_
          · simp only [impl_NumText.j0]
            rw [if_neg (by simp), if_neg hn, if_neg (by omega)]
          · rw [tdiv_pos (by omega), tmod_pos (by omega), w64 (by omega) (by omega), w64 (by omega) (by omega), w32 (by omega) (by omega), enc_digit _ (by omega)]
            refine Ev.bind (ih _ (by rw [Int.natAbs_natCast]; exact hp) (by omega) (by omega)) ?_
            have hs1 := txt_size (n := ((n.natAbs / 10 : Nat) : Int)) (by omega) (by omega)
            refine Ev.congr (f := fun _ => some (txt n)) (fun k => ?_) (Ev.now _)
            rw [if_pos (by rw [dg_size]; omega)]
            unfold txt
            rw [if_neg (by omega), if_neg hn, Int.natAbs_natCast, decN_step _ h10]
theorem impl_NumText_ev (n : Int) (h0 : -9223372036854775808 ≤ n) (h1 : n ≤ 9223372036854775807) : Ev (fun k => impl_NumText.f k n) (txt n) := impl_NumText_f 19 n (abs_lt h0 h1) h0 h1

theorem FnExactTriggerText : fnExactTriggerText.Pure := by
  intro a0 a1 a2 a3 a4 a5 a6 a7 a8 a9 a10 a11 a12 a13 a14 a15 w0 w1 w2 w3 w4 w5 w6 w7 w8 w9 w10 w11 w12 w13
  have b1 := int_of_wf w1
  have b2 := int_of_wf w2
  have b3 := int_of_wf w3
  have s1 := spec_NumText_f a1 b1.1 b1.2
  have s2 := spec_NumText_f a2 b2.1 b2.2
  have s3 := spec_NumText_f a3 b3.1 b3.2
  have i1 := impl_NumText_ev a1 b1.1 b1.2
  have i2 := impl_NumText_ev a2 b2.1 b2.2
  have i3 := impl_NumText_ev a3 b3.1 b3.2
  have z1 := txt_size b1.1 b1.2
  have z2 := txt_size b2.1 b2.2
  have z3 := txt_size b3.1 b3.2
  obtain ⟨K1, s1⟩ := s1
  obtain ⟨K2, s2⟩ := s2
  obtain ⟨K3, s3⟩ := s3
  obtain ⟨K4, i1⟩ := i1
  obtain ⟨K5, i2⟩ := i2
  obtain ⟨K6, i3⟩ := i3
  refine ⟨K1 + K2 + K3 + K4 + K5 + K6, ?_⟩
  have e1 := s1 (K1 + K2 + K3 + K4 + K5 + K6) (by omega)
  have e2 := s2 (K1 + K2 + K3 + K4 + K5 + K6) (by omega)
  have e3 := s3 (K1 + K2 + K3 + K4 + K5 + K6) (by omega)
  have e4 := i1 (K1 + K2 + K3 + K4 + K5 + K6) (by omega)
  have e5 := i2 (K1 + K2 + K3 + K4 + K5 + K6) (by omega)
  have e6 := i3 (K1 + K2 + K3 + K4 + K5 + K6) (by omega)
  generalize K1 + K2 + K3 + K4 + K5 + K6 = k at *
  simp only [laws_FnExactTriggerText.f, laws_toTrigger.f, laws_toPiece.f, spec_TriggerText.f, impl_TriggerText.f, Option.bind_some, e1, e2, e3, e4, e5, e6, ByteArray.size_append]
  have l1 : (⟨#[108, 101, 102, 116, 32]⟩ : ByteArray).size = 5 := rfl
  have l2 : (⟨#[104, 117, 114, 116, 32]⟩ : ByteArray).size = 5 := rfl
  have l3 : (⟨#[32]⟩ : ByteArray).size = 1 := rfl
  simp only [l1, l2, l3]
  by_cases c1 : a0 = 1
  · simp only [if_pos c1]
    rw [if_pos (show 5 + (txt a3).size ≤ 9223372036854775807 by omega), if_pos (show 5 + (txt a3).size + 1 ≤ 9223372036854775807 by omega), if_pos (show 5 + (txt a3).size + 1 + (txt a1).size ≤ 9223372036854775807 by omega)]
    simp
  · simp only [if_neg c1]
    by_cases c2 : a0 = 2
    · simp only [if_pos c2]
      rw [if_pos (show 5 + (txt a3).size ≤ 9223372036854775807 by omega), if_pos (show 5 + (txt a3).size + 1 ≤ 9223372036854775807 by omega), if_pos (show 5 + (txt a3).size + 1 + (txt a1).size ≤ 9223372036854775807 by omega), if_pos (show 5 + (txt a3).size + 1 + (txt a1).size + 1 ≤ 9223372036854775807 by omega), if_pos (show 5 + (txt a3).size + 1 + (txt a1).size + 1 + (txt a2).size ≤ 9223372036854775807 by omega)]
      simp
    · simp only [if_neg c2]
      simp

end Go.Proofs.Ytljnfcmcjhggfaa.Pure
