/- For every piece, the program's PieceText and the reference's PieceText return the same text. Conditions: none. -/
import Derived.Test.YtljnfcmcjhggfaaRowFnExactPieceText
set_option linter.unusedVariables false
set_option linter.unusedSimpArgs false
namespace Go.Proofs.Ytljnfcmcjhggfaa.Pure
open Go.RowKit Go.Proofs.Ytljnfcmcjhggfaa Go.Proofs.Ytljnfcmcjhggfaa.PFnExactPieceText Go.Proofs.YtljnfcmcjhggfaaW.PrintWords Go.Proofs.YtljnfcmcjhggfaaW.PrintLast Go.Proofs.YtljnfcmcjhggfaaW.PrintMore Go.Proofs.Ytljnfcmcjhggfaa.Opening

theorem int_of_wf {a : Int} (h : (Lit.int .i64 a).wf = true) : -9223372036854775808 ≤ a ∧ a ≤ 9223372036854775807 := by
  simp [Lit.wf, IntKind.min, IntKind.max, IntKind.signed, IntKind.bits] at h
  omega

/-! decimal digits -/
def dg (d : Nat) : ByteArray := ⟨#[UInt8.ofNat (48 + d)]⟩
def decN (n : Nat) : ByteArray := if h : n < 10 then dg n else decN (n / 10) ++ dg (n % 10)
termination_by n
def minus : ByteArray := ⟨#[45]⟩
def txt (n : Int) : ByteArray := if n < 0 then minus ++ decN n.natAbs else decN n.natAbs
theorem decN_small (n : Nat) (h : n < 10) : decN n = dg n := by rw [decN, dif_pos h]
theorem decN_step (n : Nat) (h : ¬ n < 10) : decN n = decN (n / 10) ++ dg (n % 10) := by rw [decN, dif_neg h]
theorem dg_size (d : Nat) : (dg d).size = 1 := rfl
theorem decN_size (d : Nat) : ∀ n : Nat, n < 10 ^ (d + 1) → (decN n).size ≤ d + 1 := by
  induction d with
  | zero =>
    intro n h
    rw [decN_small n (by simpa using h), dg_size]
    omega
  | succ d ih =>
    intro n h
    by_cases h10 : n < 10
    · rw [decN_small n h10, dg_size]
      omega
    · rw [decN_step n h10, ByteArray.size_append, dg_size]
      have := ih (n / 10) (by rw [Nat.pow_succ] at h; omega)
      omega
theorem abs_lt {n : Int} (h0 : -9223372036854775808 ≤ n) (h1 : n ≤ 9223372036854775807) : n.natAbs < 10 ^ (19 + 1) := by
  have : (10 : Nat) ^ (19 + 1) = 100000000000000000000 := by decide
  omega
theorem txt_size {n : Int} (h0 : -9223372036854775808 ≤ n) (h1 : n ≤ 9223372036854775807) : (txt n).size ≤ 21 := by
  have h := decN_size 19 _ (abs_lt h0 h1)
  unfold txt
  split
  · rw [ByteArray.size_append]
    have : minus.size = 1 := rfl
    omega
  · omega
theorem enc_digit (d : Nat) (h : d < 10) : Utf8.encode (48 + (d : Int)) = dg d := by
  have e : ∀ m, m < 10 → Utf8.encode (48 + ((m : Nat) : Int)) = dg m := by decide
  exact e d h
theorem nums_digit (d : Nat) (h : d < 10) : strOfNums [(48 + (d : Int)) % 256] = dg d := by
  have e : ∀ m, m < 10 → strOfNums [(48 + ((m : Nat) : Int)) % 256] = dg m := by decide
  exact e d h
theorem w64 {a : Int} (h0 : -9223372036854775808 ≤ a) (h1 : a ≤ 9223372036854775807) : wrap64 a = a := by unfold wrap64; omega
theorem w32 {a : Int} (h0 : -2147483648 ≤ a) (h1 : a ≤ 2147483647) : wrap32 a = a := by unfold wrap32; omega
theorem tmod_neg {x : Int} (h : x < 0) : Int.tmod x 10 = -((x.natAbs % 10 : Nat) : Int) := by
  obtain ⟨m, rfl⟩ : ∃ m : Nat, x = -(m : Int) := ⟨x.natAbs, by omega⟩
  rw [Int.neg_tmod, Int.natAbs_neg, Int.natAbs_natCast]
  rfl
theorem tdiv_neg {x : Int} (h : x < 0) : Int.tdiv x 10 = -((x.natAbs / 10 : Nat) : Int) := by
  obtain ⟨m, rfl⟩ : ∃ m : Nat, x = -(m : Int) := ⟨x.natAbs, by omega⟩
  rw [Int.neg_tdiv, Int.natAbs_neg, Int.natAbs_natCast]
  rfl
theorem tmod_pos {x : Int} (h : 0 ≤ x) : Int.tmod x 10 = ((x.natAbs % 10 : Nat) : Int) := by
  obtain ⟨m, rfl⟩ : ∃ m : Nat, x = (m : Int) := ⟨x.natAbs, by omega⟩
  rfl
theorem tdiv_pos {x : Int} (h : 0 ≤ x) : Int.tdiv x 10 = ((x.natAbs / 10 : Nat) : Int) := by
  obtain ⟨m, rfl⟩ : ∃ m : Nat, x = (m : Int) := ⟨x.natAbs, by omega⟩
  rfl
theorem tdiv_abs (x : Int) : (Int.tdiv x 10).natAbs = x.natAbs / 10 := by
  by_cases h : x < 0
  · rw [tdiv_neg h]; omega
  · rw [tdiv_pos (by omega)]; omega
theorem spec_NumText_l0 (a : Int) (d : Nat) : ∀ (x : Int) (s : ByteArray), x.natAbs < 10 ^ (d + 1) → 0 < x.natAbs → -9223372036854775808 ≤ x → x ≤ 9223372036854775807 → s.size + d ≤ 100 →
    Ev (fun k => spec_NumText.l0 k a s x) (if a < 0 then minus ++ (decN x.natAbs ++ s) else decN x.natAbs ++ s) := by
  induction d with
  | zero =>
    intro x s h hp h0 h1 hs
    have hx : x.natAbs < 10 := by simpa using h
    have hend : Ev (fun k => spec_NumText.l0 k a (dg x.natAbs ++ s) 0) (if a < 0 then minus ++ (decN x.natAbs ++ s) else decN x.natAbs ++ s) := by
      refine Ev.step (f := fun _ => some (if a < 0 then minus ++ (decN x.natAbs ++ s) else decN x.natAbs ++ s)) (fun k => ?_) (Ev.now _)
      rw [decN_small _ hx]
      simp only [spec_NumText.l0]
      rw [if_pos trivial]
      by_cases ha : a < 0
      · rw [if_pos ha, if_pos ha, if_pos (by rw [ByteArray.size_append, dg_size]; omega)]
        rfl
      · rw [if_neg ha, if_neg ha]
    refine Ev.step (f := fun k => spec_NumText.l0 k a (dg x.natAbs ++ s) 0) (fun k => ?_) hend
    simp only [spec_NumText.l0]
    rw [if_neg (by omega)]
    by_cases hneg : x < 0
    · rw [tmod_neg hneg, tdiv_neg hneg, if_pos (by omega)]
      simp only [Option.bind_some]
      rw [Int.neg_neg, w64 (a := ((x.natAbs % 10 : Nat) : Int)) (by omega) (by omega), w64 (by omega) (by omega), nums_digit _ (by omega), Nat.mod_eq_of_lt hx, dg_size, if_pos (by omega), w64 (by omega) (by omega)]
      rw [show -((x.natAbs / 10 : Nat) : Int) = 0 by omega]
    · rw [tmod_pos (by omega), tdiv_pos (by omega), if_neg (by omega)]
      simp only [Option.bind_some]
      rw [w64 (by omega) (by omega), nums_digit _ (by omega), Nat.mod_eq_of_lt hx, dg_size, if_pos (by omega), w64 (by omega) (by omega)]
      rw [show ((x.natAbs / 10 : Nat) : Int) = 0 by omega]
  | succ d ih =>
    intro x s h hp h0 h1 hs
    by_cases hx : x.natAbs < 10
    · have hend : Ev (fun k => spec_NumText.l0 k a (dg x.natAbs ++ s) 0) (if a < 0 then minus ++ (decN x.natAbs ++ s) else decN x.natAbs ++ s) := by
        refine Ev.step (f := fun _ => some (if a < 0 then minus ++ (decN x.natAbs ++ s) else decN x.natAbs ++ s)) (fun k => ?_) (Ev.now _)
        rw [decN_small _ hx]
        simp only [spec_NumText.l0]
        rw [if_pos trivial]
        by_cases ha : a < 0
        · rw [if_pos ha, if_pos ha, if_pos (by rw [ByteArray.size_append, dg_size]; omega)]
          rfl
        · rw [if_neg ha, if_neg ha]
      refine Ev.step (f := fun k => spec_NumText.l0 k a (dg x.natAbs ++ s) 0) (fun k => ?_) hend
      simp only [spec_NumText.l0]
      rw [if_neg (by omega)]
      by_cases hneg : x < 0
      · rw [tmod_neg hneg, tdiv_neg hneg, if_pos (by omega)]
        simp only [Option.bind_some]
        rw [Int.neg_neg, w64 (a := ((x.natAbs % 10 : Nat) : Int)) (by omega) (by omega), w64 (by omega) (by omega), nums_digit _ (by omega), Nat.mod_eq_of_lt hx, dg_size, if_pos (by omega), w64 (by omega) (by omega)]
        rw [show -((x.natAbs / 10 : Nat) : Int) = 0 by omega]
      · rw [tmod_pos (by omega), tdiv_pos (by omega), if_neg (by omega)]
        simp only [Option.bind_some]
        rw [w64 (by omega) (by omega), nums_digit _ (by omega), Nat.mod_eq_of_lt hx, dg_size, if_pos (by omega), w64 (by omega) (by omega)]
        rw [show ((x.natAbs / 10 : Nat) : Int) = 0 by omega]
    · have hq := tdiv_abs x
      have hih := ih (Int.tdiv x 10) (dg (x.natAbs % 10) ++ s) (by rw [hq]; rw [Nat.pow_succ] at h; omega) (by rw [hq]; omega) (by
          by_cases hneg : x < 0
          · rw [tdiv_neg hneg]; omega
          · rw [tdiv_pos (by omega)]; omega) (by
          by_cases hneg : x < 0
          · rw [tdiv_neg hneg]; omega
          · rw [tdiv_pos (by omega)]; omega) (by rw [ByteArray.size_append, dg_size]; omega)
      rw [hq, show decN (x.natAbs / 10) ++ (dg (x.natAbs % 10) ++ s) = decN x.natAbs ++ s by rw [← ByteArray.append_assoc, ← decN_step _ hx]] at hih
      refine Ev.step (f := fun k => spec_NumText.l0 k a (dg (x.natAbs % 10) ++ s) (Int.tdiv x 10)) (fun k => ?_) hih
      simp only [spec_NumText.l0]
      rw [if_neg (by omega)]
      by_cases hneg : x < 0
      · rw [tmod_neg hneg, tdiv_neg hneg]
        by_cases hz : x.natAbs % 10 = 0
        · rw [if_neg (by omega)]
          simp only [Option.bind_some]
          rw [show -((x.natAbs % 10 : Nat) : Int) = ((x.natAbs % 10 : Nat) : Int) by omega, w64 (by omega) (by omega), nums_digit _ (by omega), dg_size, if_pos (by omega), w64 (by omega) (by omega)]
        · rw [if_pos (by omega)]
          simp only [Option.bind_some]
          rw [Int.neg_neg, w64 (a := ((x.natAbs % 10 : Nat) : Int)) (by omega) (by omega), w64 (by omega) (by omega), nums_digit _ (by omega), dg_size, if_pos (by omega), w64 (by omega) (by omega)]
      · rw [tmod_pos (by omega), tdiv_pos (by omega), if_neg (by omega)]
        simp only [Option.bind_some]
        rw [w64 (by omega) (by omega), nums_digit _ (by omega), dg_size, if_pos (by omega), w64 (by omega) (by omega)]
theorem spec_NumText_f (n : Int) (h0 : -9223372036854775808 ≤ n) (h1 : n ≤ 9223372036854775807) : Ev (fun k => spec_NumText.f k n) (txt n) := by
  unfold spec_NumText.f
  by_cases hz : n = 0
  · subst hz
    refine Ev.congr (f := fun _ => some (txt 0)) (fun k => ?_) (Ev.now _)
    rw [if_pos rfl]
    unfold txt
    rw [if_neg (by omega), decN_small _ (by decide)]
    rfl
  · refine Ev.congr (f := fun k => spec_NumText.l0 k n ⟨#[]⟩ n) (fun k => by rw [if_neg hz]) ?_
    have h := spec_NumText_l0 n 19 n ⟨#[]⟩ (abs_lt h0 h1) (by omega) h0 h1 (by decide)
    rw [show (⟨#[]⟩ : ByteArray) = ByteArray.empty from rfl, ByteArray.append_empty] at h
    exact h
theorem impl_NumText_f (d : Nat) : ∀ n : Int, n.natAbs < 10 ^ (d + 1) → -9223372036854775808 ≤ n → n ≤ 9223372036854775807 → Ev (fun k => impl_NumText.f k n) (txt n) := by
  have one : ∀ n : Int, 0 ≤ n → n < 10 → Ev (fun k => impl_NumText.f k n) (txt n) := by
    intro n h0 h1
    refine Ev.step (f := fun k => impl_NumText.j0 k n false) (fun k => ?_) ?_
    · simp only [impl_NumText.f]
      rw [if_neg (by omega)]
    · refine Ev.step (f := fun _ => some (txt n)) (fun k => ?_) (Ev.now _)
      simp only [impl_NumText.j0]
      rw [if_neg (by simp), if_neg (by omega), if_pos h1]
      unfold txt
      rw [if_neg (by omega), decN_small _ (by omega), w64 (by omega) (by omega), w32 (by omega) (by omega), ← enc_digit _ (by omega)]
      rw [show ((n.natAbs : Nat) : Int) = n by omega]
  have neg1 : ∀ n : Int, n < 0 → -10 < n → Ev (fun k => impl_NumText.f k n) (txt n) := by
    intro n h0 h1
    refine Ev.step (f := fun k => impl_NumText.j0 k n true) (fun k => ?_) ?_
    · simp only [impl_NumText.f]
      rw [if_pos h0, decide_eq_true (by omega)]
    · refine Ev.step (f := fun k => (impl_NumText.f k (wrap64 (-n))).bind fun t132 => (if 1 + t132.size ≤ 9223372036854775807 then (some ((⟨#[45]⟩ : ByteArray) ++ t132)) else (none))) (fun k => ?_) ?_
      · simp only [impl_NumText.j0]
        rw [if_pos trivial]
      · rw [w64 (by omega) (by omega)]
        refine Ev.bind (one (-n) (by omega) (by omega)) ?_
        have hsz := txt_size (n := -n) (by omega) (by omega)
        refine Ev.congr (f := fun _ => some (txt n)) (fun k => ?_) (Ev.now _)
        rw [if_pos (by omega)]
        unfold txt
        rw [if_neg (by omega), if_pos h0, Int.natAbs_neg]
        rfl
  induction d with
  | zero =>
    intro n h h0 h1
    have : n.natAbs < 10 := by simpa using h
    by_cases hn : n < 0
    · exact neg1 n hn (by omega)
    · exact one n (by omega) (by omega)
  | succ d ih =>
    intro n h h0 h1
    by_cases h10 : n.natAbs < 10
    · by_cases hn : n < 0
      · exact neg1 n hn (by omega)
      · exact one n (by omega) (by omega)
    · have hp : n.natAbs / 10 < 10 ^ (d + 1) := by rw [Nat.pow_succ] at h; omega
      by_cases hn : n < 0
      · refine Ev.step (f := fun k => impl_NumText.j0 k n false) (fun k => ?_) ?_
        · simp only [impl_NumText.f]
          rw [if_pos hn, decide_eq_false (by omega)]
        · refine Ev.step (f := fun k => (impl_NumText.f k (wrap64 (Int.tdiv n 10))).bind fun t133 => ((impl_NumText.f k (wrap64 (-(Int.tmod n 10)))).bind fun t134 => (if t133.size + t134.size ≤ 9223372036854775807 then (some (t133 ++ t134)) else (none)))) (fun k => ?_) ?_
          · simp only [impl_NumText.j0]
            rw [if_neg (by simp), if_pos hn]
          · rw [tdiv_neg hn, tmod_neg hn, w64 (by omega) (by omega), Int.neg_neg, w64 (by omega) (by omega)]
            refine Ev.bind (ih _ (by rw [Int.natAbs_neg, Int.natAbs_natCast]; exact hp) (by omega) (by omega)) (Ev.bind (one _ (by omega) (by omega)) ?_)
            have hs1 := txt_size (n := -((n.natAbs / 10 : Nat) : Int)) (by omega) (by omega)
            have hs2 := txt_size (n := ((n.natAbs % 10 : Nat) : Int)) (by omega) (by omega)
            refine Ev.congr (f := fun _ => some (txt n)) (fun k => ?_) (Ev.now _)
            rw [if_pos (by omega)]
            unfold txt
            rw [if_pos (by omega), if_neg (by omega), if_pos hn, Int.natAbs_neg, Int.natAbs_natCast, Int.natAbs_natCast, decN_step _ h10, decN_small (n.natAbs % 10) (by omega), ByteArray.append_assoc]
      · refine Ev.step (f := fun k => impl_NumText.j0 k n false) (fun k => ?_) ?_
        · simp only [impl_NumText.f]
          rw [if_neg hn]
        · refine Ev.step (f := fun k => (impl_NumText.f k (wrap64 (Int.tdiv n 10))).bind fun t135 => (if t135.size + (Utf8.encode (wrap32 (wrap64 (48 + (Int.tmod n 10))))).size ≤ 9223372036854775807 then (some (t135 ++ (Utf8.encode (wrap32 (wrap64 (48 + (Int.tmod n 10))))))) else (none))) (fun k => ?_) ?_
          · simp only [impl_NumText.j0]
            rw [if_neg (by simp), if_neg hn, if_neg (by omega)]
          · rw [tdiv_pos (by omega), tmod_pos (by omega), w64 (by omega) (by omega), w64 (by omega) (by omega), w32 (by omega) (by omega), enc_digit _ (by omega)]
            refine Ev.bind (ih _ (by rw [Int.natAbs_natCast]; exact hp) (by omega) (by omega)) ?_
            have hs1 := txt_size (n := ((n.natAbs / 10 : Nat) : Int)) (by omega) (by omega)
            refine Ev.congr (f := fun _ => some (txt n)) (fun k => ?_) (Ev.now _)
            rw [if_pos (by rw [dg_size]; omega)]
            unfold txt
            rw [if_neg (by omega), if_neg hn, Int.natAbs_natCast, decN_step _ h10]
theorem impl_NumText_ev (n : Int) (h0 : -9223372036854775808 ≤ n) (h1 : n ≤ 9223372036854775807) : Ev (fun k => impl_NumText.f k n) (txt n) := impl_NumText_f 19 n (abs_lt h0 h1) h0 h1

theorem bsz (a : Array UInt8) : (⟨a⟩ : ByteArray).size = a.size := rfl

/-! saturating sums -/
def bnd (a : Int) : Int := max (-2147483647) (min a 2147483647)
theorem mx_eq' (a b : Int) : mx a b = max a b := by unfold mx; omega
theorem mn_eq' (a b : Int) : mn a b = min a b := by unfold mn; omega
theorem spec_Bound_f (a : Int) : spec_Bound.f a = some (bnd a) := by
  unfold spec_Bound.f bnd
  repeat' split
  all_goals (congr 1; omega)
theorem impl_Bound_f (a : Int) : impl_Bound.f a = some (bnd a) := by
  unfold impl_Bound.f bnd
  rw [mx_eq', mn_eq']
def plus (a b : Int) : Int := bnd (wrap64 (bnd a + bnd b))
def less (a b : Int) : Int := bnd (wrap64 (bnd a - bnd b))
theorem spec_Plus_f (a b : Int) : spec_Plus.f a b = some (plus a b) := by simp only [spec_Plus.f, spec_Bound_f, Option.bind_some, plus]
theorem impl_Plus_f (a b : Int) : impl_Plus.f a b = some (plus a b) := by simp only [impl_Plus.f, impl_Bound_f, Option.bind_some, plus]
theorem spec_Less_f (a b : Int) : spec_Less.f a b = some (less a b) := by simp only [spec_Less.f, spec_Bound_f, Option.bind_some, less]
theorem impl_Less_f (a b : Int) : impl_Less.f a b = some (less a b) := by simp only [impl_Less.f, impl_Bound_f, Option.bind_some, less]
theorem less_range (a b : Int) : -2147483647 ≤ less a b ∧ less a b ≤ 2147483647 := by unfold less bnd; omega

theorem both {n : Int} (h : (Lit.int .i64 n).wf = true) : (∃ K, ∀ k, K ≤ k → spec_NumText.f k n = some (txt n) ∧ impl_NumText.f k n = some (txt n)) ∧ (txt n).size ≤ 21 := by
  have b := int_of_wf h
  obtain ⟨K1, h1⟩ := spec_NumText_f n b.1 b.2
  obtain ⟨K2, h2⟩ := impl_NumText_ev n b.1 b.2
  exact ⟨⟨K1 + K2, fun k hk => ⟨h1 k (by omega), h2 k (by omega)⟩⟩, txt_size b.1 b.2⟩
theorem bothr {n : Int} (h : -2147483647 ≤ n ∧ n ≤ 2147483647) : (∃ K, ∀ k, K ≤ k → spec_NumText.f k n = some (txt n) ∧ impl_NumText.f k n = some (txt n)) ∧ (txt n).size ≤ 21 := by
  obtain ⟨K1, h1⟩ := spec_NumText_f n (by omega) (by omega)
  obtain ⟨K2, h2⟩ := impl_NumText_ev n (by omega) (by omega)
  exact ⟨⟨K1 + K2, fun k hk => ⟨h1 k (by omega), h2 k (by omega)⟩⟩, txt_size (by omega) (by omega)⟩
set_option maxHeartbeats 2000000 in
theorem FnExactPieceText : fnExactPieceText.Pure := by
  intro a0 a1 a2 a3 a4 a5 a6 a7 a8 a9 a10 a11 a12 w0 w1 w2 w3 w4 w5 w6 w7 w8 w9 w10
  obtain ⟨⟨K0, h0⟩, z0⟩ := both w0
  obtain ⟨⟨K1, h1⟩, z1⟩ := both w1
  obtain ⟨⟨K2, h2⟩, z2⟩ := both w2
  obtain ⟨⟨K3, h3⟩, z3⟩ := both w3
  obtain ⟨⟨K10, h10⟩, z10⟩ := both w10
  obtain ⟨⟨KP, hP⟩, zP⟩ := bothr (less_range (plus a5 a8) a9)
  obtain ⟨⟨KT, hT⟩, zT⟩ := bothr (less_range (plus a6 a8) a9)
  refine ⟨K0 + K1 + K2 + K3 + K10 + KP + KT + 1, ?_⟩
  obtain ⟨e0, f0⟩ := h0 (K0 + K1 + K2 + K3 + K10 + KP + KT + 1) (by omega)
  obtain ⟨e1, f1⟩ := h1 (K0 + K1 + K2 + K3 + K10 + KP + KT + 1) (by omega)
  obtain ⟨e2, f2⟩ := h2 (K0 + K1 + K2 + K3 + K10 + KP + KT + 1) (by omega)
  obtain ⟨e3, f3⟩ := h3 (K0 + K1 + K2 + K3 + K10 + KP + KT + 1) (by omega)
  obtain ⟨e10, f10⟩ := h10 (K0 + K1 + K2 + K3 + K10 + KP + KT + 1) (by omega)
  obtain ⟨eP, fP⟩ := hP (K0 + K1 + K2 + K3 + K10 + KP + KT + 1) (by omega)
  obtain ⟨eT, fT⟩ := hT (K0 + K1 + K2 + K3 + K10 + KP + KT + 1) (by omega)
  clear h0 h1 h2 h3 h10 hP hT
  generalize K0 + K1 + K2 + K3 + K10 + KP + KT = k at *
  simp only [laws_FnExactPieceText.f, laws_toPiece.f, spec_PieceText.f, impl_PieceText.f, spec_PowerOf.f, impl_PowerOf.f, spec_ToughOf.f, impl_ToughOf.f, spec_Plus_f, impl_Plus_f, spec_Less_f, impl_Less_f, Option.bind_some, e0, e1, e2, e3, e10, eP, eT, f0, f1, f2, f3, f10, fP, fT, spec_PieceText.j0, impl_PieceText.j0]
  clear e0 e1 e2 e3 e10 eP eT f0 f1 f2 f3 f10 fP fT
  generalize txt a0 = t0 at *
  generalize txt a1 = t1 at *
  generalize txt a2 = t2 at *
  generalize txt a3 = t3 at *
  generalize txt a10 = t10 at *
  generalize txt (less (plus a5 a8) a9) = tP at *
  generalize txt (less (plus a6 a8) a9) = tT at *
  simp only [ByteArray.size_append, bsz, List.size_toArray, List.length_cons, List.length_nil]
  by_cases c10 : a10 > 0 <;> cases a11 <;> cases a12 <;> simp only [c10, if_true, if_false, Bool.false_eq_true] <;>
    (repeat (first | rw [if_pos (by omega)] | simp only [Option.bind_some, if_true]))
  all_goals simp only [ByteArray.append_assoc, if_true]

end Go.Proofs.Ytljnfcmcjhggfaa.Pure
