/- FnExactTurnText: the program and the reference answer alike. No condition. -/
import Derived.Test.YtnbmifoebaoemaaVmRowFnExactTurnText
import Derived.Test.YtnbmifoebaoemaaVmLibThree
namespace Go.Proofs.Ytnbmifoebaoemaa.Vm
open Go Go.Proofs.Ytnbmifoebaoemaa.Lib
set_option linter.unusedSimpArgs false
set_option linter.unusedVariables false
def SZ (r n : Int) (S : Prop) : Prop := r ≤ n ∧ (0 ≤ r → S)
theorem SZ.neg {n : Int} {S : Prop} (h0 : 0 ≤ n) : SZ (-1) n S := ⟨by omega, fun h => absurd h (by omega)⟩
theorem sz66 (x : List (Ty.T y33)) (ho : Ty.ok (.sl 34 y33) x) (n : Int) (h0 : 0 ≤ n) (h1 : n ≤ 1048576) : SZ (v66 x n) n (Ty.short (.sl 34 y33) x) := by
  have hl := ho.2
  unfold v66
  rw [wrap_in (by omega) (by omega)]
  by_cases h : n - (x.length : Int) < 0
  · rw [decide_eq_true h]; exact .neg h0
  · rw [decide_eq_false h]; exact ⟨show n - (x.length : Int) ≤ n by omega, fun _ => ⟨by omega, fun x _ => by simp [Ty.short]⟩⟩
theorem sz47 (x : Ty.T y93) (ho : Ty.ok y93 x) (n : Int) (h0 : 0 ≤ n) (h1 : n ≤ 1048576) : SZ (v47 x n) n (Ty.short y93 x) := by
  unfold v47
  have y0 := sz66 x.2.2.2.2.2.1 ho.2.2.2.2.2.1 n h0 h1
  have z0 := y0
  by_cases g0 : v66 x.2.2.2.2.2.1 n < 0
  · rw [decide_eq_true g0]; exact .neg h0
  · rw [decide_eq_false g0]
    exact ⟨show v66 x.2.2.2.2.2.1 n ≤ n by have := z0.1; omega, fun _ => ⟨(by simp [Ty.short]), ⟨(by simp [Ty.short]), ⟨(by simp [Ty.short]), ⟨(by simp [Ty.short]), ⟨(by simp [Ty.short]), ⟨(z0.2 (by omega)), (by simp [Ty.short])⟩⟩⟩⟩⟩⟩⟩
theorem to74 (x : Ty.T y33) : v74 x = x := rfl
theorem to68 (xs : List (Ty.T y33)) (hs : Ty.short (.sl 34 y33) xs) : d68 xs = true ∧ v68 xs = xs := by
  have hb := hs.1
  have h : ∀ (n : Nat) (hn : xs.length < n) (out : List (Ty.T y33)) (ho : out.length = xs.length), iter s68_0 n (xs, [], 0, out, ()) = some (0, (xs, [], (xs.length : Int), xs, ())) := fun n hn out ho => by
    have := map_iter (s := s68_0) (mk := fun i o => (xs, [], i, o, ())) (xs := xs) (conv := fun x => x) (fun i out x hx hl => by
      obtain ⟨hi, rfl⟩ := List.getElem?_eq_some_iff.1 hx
      skip
      simp [s68_0, t68_0, optC_some, hi, hl, to74, wrap_nat (n := i) (by omega)]) (fun out hl => by simp [s68_0, t68_0]) xs.length 0 out n (by omega) ho hn
    simpa using this
  have h := h (n68_0 (xs, [], 0, (List.replicate ((xs.length : Int)).toNat (Ty.zero y33)), ())) (by simp [n68_0]; omega) (List.replicate ((xs.length : Int)).toNat (Ty.zero y33)) (by simp)
  have hk : k68_0 xs [] 0 (List.replicate ((xs.length : Int)).toNat (Ty.zero y33)) 0 = true := at_of h 0
  have hw : w68_0 xs [] 0 (List.replicate ((xs.length : Int)).toNat (Ty.zero y33)) = (xs, [], (xs.length : Int), xs, ()) := val_of h
  constructor
  · show (_ && (_ && (cond (k68_0 xs [] 0 (List.replicate ((xs.length : Int)).toNat (Ty.zero y33)) 0) true false))) = true
    rw [hk]
    simp
    omega
  · show cond (k68_0 xs [] 0 (List.replicate ((xs.length : Int)).toNat (Ty.zero y33)) 0) (w68_0 xs [] 0 (List.replicate ((xs.length : Int)).toNat (Ty.zero y33))).2.2.2.1 [] = xs
    rw [hk, hw]
    rfl
theorem to49 (x : Ty.T y93) (hs : Ty.short y93 x) : d49 x = true ∧ v49 x = (x.1, x.2.1, x.2.2.1, x.2.2.2.1, x.2.2.2.2.1.1, x.2.2.2.2.1.2.1, x.2.2.2.2.1.2.2.1, x.2.2.2.2.1.2.2.2.1, x.2.2.2.2.1.2.2.2.2.1, x.2.2.2.2.1.2.2.2.2.2.1, x.2.2.2.2.1.2.2.2.2.2.2, x.2.2.2.2.2.2.1, x.2.2.2.2.2.2.2, x.2.2.2.2.2.1) := by
  have h0 : True ∧ v74 x.2.2.2.2.1 = _ := ⟨trivial, to74 x.2.2.2.2.1⟩
  have h1 := to68 x.2.2.2.2.2.1 hs.2.2.2.2.2.1
  unfold d49 v49
  rw [h0.2, h1.1, h1.2]
  exact ⟨rfl, rfl⟩
theorem eq110 (x : Ty.T y33) : v110 x x = true := by simp [v110]
theorem eq70 (xs : List (Ty.T y33)) (hs : Ty.short (.sl 40 y33) xs) : d70 xs xs = true ∧ v70 xs xs = true := by
  have hb := hs.1
  have h := all_iter (s := s70_0) (mk := fun i => (xs, xs, false, i, ())) (c := 1) (N := xs.length) (fun i hi => by
    skip
    simp [s70_0, t70_0, optC_some, hi, eq110, wrap_nat (n := i) (by omega)]) (by simp [s70_0, t70_0]) xs.length 0 (n70_0 (xs, xs, false, 0, ())) (by omega) (by simp [n70_0]; omega)
  have h0 : k70_0 xs xs false 0 0 = false := at_of h 0
  have h1 : k70_0 xs xs false 0 1 = true := at_of h 1
  unfold d70 v70
  rw [h0, h1]
  simp
theorem eq51 (x : Ty.T y97) (hs : Ty.short y97 x) : d51 x x = true ∧ v51 x x = true := by
  have h1 := eq70 x.2.2.2.2.2.1 hs.2.2.2.2.2.1
  unfold d51 v51
  rw [h1.1, h1.2, eq110]
  simp
/-! decimal digits -/
def dg (d : Nat) : ByteArray := ⟨#[UInt8.ofNat (48 + d)]⟩
def decN (n : Nat) : ByteArray := if h : n < 10 then dg n else decN (n / 10) ++ dg (n % 10)
termination_by n
def minus : ByteArray := ⟨#[45]⟩
def txt (n : Int) : ByteArray := if n < 0 then minus ++ decN n.natAbs else decN n.natAbs
theorem decN_small (n : Nat) (h : n < 10) : decN n = dg n := by rw [decN, dif_pos h]
theorem decN_step (n : Nat) (h : ¬ n < 10) : decN n = decN (n / 10) ++ dg (n % 10) := by rw [decN, dif_neg h]
theorem dg_size (d : Nat) : (dg d).size = 1 := rfl
theorem minus_size : minus.size = 1 := rfl
theorem decN_size (d : Nat) : ∀ n : Nat, n < 10 ^ (d + 1) → (decN n).size ≤ d + 1 := by
  induction d with
  | zero =>
    intro n h
    rw [decN_small n (by simpa using h), dg_size]
    omega
  | succ d ih =>
    intro n h
    by_cases h10 : n < 10
    · rw [decN_small n h10, dg_size]
      omega
    · rw [decN_step n h10, ByteArray.size_append, dg_size]
      have := ih (n / 10) (by rw [Nat.pow_succ] at h; omega)
      omega
def I64 (n : Int) : Prop := -9223372036854775808 ≤ n ∧ n ≤ 9223372036854775807
theorem abs_lt {n : Int} (h : I64 n) : n.natAbs < 10 ^ (19 + 1) := by
  have : (10 : Nat) ^ (19 + 1) = 100000000000000000000 := by decide
  unfold I64 at h
  omega
theorem txt_size {n : Int} (h : I64 n) : (txt n).size ≤ 21 := by
  have h := decN_size 19 _ (abs_lt h)
  unfold txt
  split
  · rw [ByteArray.size_append]
    have : minus.size = 1 := rfl
    omega
  · omega
theorem enc_digit (d : Nat) (h : d < 10) : Utf8.encode (IntKind.wrap .i32 (IntKind.wrap .i64 (48 + (d : Int)))) = dg d := by
  have e : ∀ m, m < 10 → Utf8.encode (IntKind.wrap .i32 (IntKind.wrap .i64 (48 + ((m : Nat) : Int)))) = dg m := by decide
  exact e d h
theorem nums_digit (d : Nat) (h : d < 10) : strOfNums [IntKind.wrap .u8 (IntKind.wrap .i64 (48 + (d : Int)))] = dg d := by
  have e : ∀ m, m < 10 → strOfNums [IntKind.wrap .u8 (IntKind.wrap .i64 (48 + ((m : Nat) : Int)))] = dg m := by decide
  exact e d h
theorem tmod_neg {x : Int} (h : x < 0) : Int.tmod x 10 = -((x.natAbs % 10 : Nat) : Int) := by
  obtain ⟨m, rfl⟩ : ∃ m : Nat, x = -(m : Int) := ⟨x.natAbs, by omega⟩
  rw [Int.neg_tmod, Int.natAbs_neg, Int.natAbs_natCast]
  rfl
theorem tdiv_neg {x : Int} (h : x < 0) : Int.tdiv x 10 = -((x.natAbs / 10 : Nat) : Int) := by
  obtain ⟨m, rfl⟩ : ∃ m : Nat, x = -(m : Int) := ⟨x.natAbs, by omega⟩
  rw [Int.neg_tdiv, Int.natAbs_neg, Int.natAbs_natCast]
  rfl
theorem tmod_pos {x : Int} (h : 0 ≤ x) : Int.tmod x 10 = ((x.natAbs % 10 : Nat) : Int) := by
  obtain ⟨m, rfl⟩ : ∃ m : Nat, x = (m : Int) := ⟨x.natAbs, by omega⟩
  rfl
theorem tdiv_pos {x : Int} (h : 0 ≤ x) : Int.tdiv x 10 = ((x.natAbs / 10 : Nat) : Int) := by
  obtain ⟨m, rfl⟩ : ∃ m : Nat, x = (m : Int) := ⟨x.natAbs, by omega⟩
  rfl
theorem tdiv_abs (x : Int) : (Int.tdiv x 10).natAbs = x.natAbs / 10 := by
  by_cases h : x < 0
  · rw [tdiv_neg h]; omega
  · rw [tdiv_pos (by omega)]; omega
theorem tdiv_in {x : Int} (h : I64 x) : I64 (Int.tdiv x 10) := by
  unfold I64 at h ⊢
  by_cases hn : x < 0
  · rw [tdiv_neg hn]; omega
  · rw [tdiv_pos (by omega)]; omega
theorem stepS (a x : Int) (e s : ByteArray) (hx : x ≠ 0) (hr : I64 x) (hs : s.size ≤ 100) : s72_0 (a, e, s, x, ()) = some (0, (a, e, dg (x.natAbs % 10) ++ s, Int.tdiv x 10, ())) := by
  have hd := tdiv_in hr
  unfold I64 at hr hd
  have hne : (x != 0) = true := by simpa using hx
  have hsz : ∀ d, (dg d).size + s.size ≤ 9223372036854775807 := fun d => by rw [dg_size]; omega
  simp only [s72_0, t72_0, hne, cond_true]
  rw [wrap_in (n := Int.tdiv x 10) hd.1 hd.2]
  by_cases hn : x < 0
  · by_cases hz : x.natAbs % 10 = 0
    · have e1 : Int.tmod x 10 = ((x.natAbs % 10 : Nat) : Int) := by rw [tmod_neg hn, hz]; rfl
      rw [e1, decide_eq_false (by omega), nums_digit _ (by omega)]
      simp only [cond_false, if_pos (hsz _)]
    · rw [tmod_neg hn, decide_eq_true (by omega), show (0 : Int) - -((x.natAbs % 10 : Nat) : Int) = ((x.natAbs % 10 : Nat) : Int) by omega, wrap_in (n := ((x.natAbs % 10 : Nat) : Int)) (by omega) (by omega), nums_digit _ (by omega)]
      simp only [cond_true, if_pos (hsz _)]
  · rw [tmod_pos (by omega), decide_eq_false (by omega), nums_digit _ (by omega)]
    simp only [cond_false, if_pos (hsz _)]
theorem stopS (a : Int) (e s : ByteArray) : s72_0 (a, e, s, 0, ()) = some (1, (a, e, s, 0, ())) := rfl
theorem iterS (a : Int) (e : ByteArray) : ∀ (d : Nat) (x : Int) (s : ByteArray) (n : Nat), x.natAbs < 10 ^ d → d < n → I64 x → s.size + d ≤ 100 →
    iter s72_0 n (a, e, s, x, ()) = some (0, (a, e, (if x = 0 then s else decN x.natAbs ++ s), 0, ())) := by
  have stop : ∀ (s : ByteArray) (n : Nat), 0 < n → iter s72_0 n (a, e, s, 0, ()) = some (0, (a, e, s, 0, ())) := fun s n hn => by
    obtain ⟨n, rfl⟩ : ∃ k, n = k + 1 := ⟨n - 1, by omega⟩
    rfl
  intro d
  induction d with
  | zero =>
    intro x s n h hn hr hs
    have : x = 0 := by omega
    subst this
    rw [stop s n hn]
    rfl
  | succ d ih =>
    intro x s n h hn hr hs
    by_cases hx : x = 0
    · subst hx
      rw [stop s n (by omega)]
      rfl
    · obtain ⟨n, rfl⟩ : ∃ k, n = k + 1 := ⟨n - 1, by omega⟩
      have hq := tdiv_abs x
      have h2 := ih (Int.tdiv x 10) (dg (x.natAbs % 10) ++ s) n (by rw [hq]; rw [Nat.pow_succ] at h; omega) (by omega) (tdiv_in hr) (by rw [ByteArray.size_append, dg_size]; omega)
      simp only [iter, stepS a x e s hx hr (by omega), Option.bind_some, if_neg hx]
      rw [h2, hq]
      by_cases h10 : x.natAbs < 10
      · rw [if_pos (by omega), decN_small _ h10, Nat.mod_eq_of_lt h10]
      · rw [if_neg (by omega), ← ByteArray.append_assoc, ← decN_step _ h10]
theorem numS (n : Int) (hr : I64 n) : d72 n = true ∧ v72 n = txt n := by
  have h := iterS n ByteArray.empty 20 n ByteArray.empty (n72_0 (n, ByteArray.empty, ByteArray.empty, n, ())) (abs_lt hr) (by simp only [n72_0]; omega) hr (by decide)
  have hk : k72_0 n ByteArray.empty ByteArray.empty n 0 = true := at_of h 0
  have hw : w72_0 n ByteArray.empty ByteArray.empty n = _ := val_of h
  have ht := txt_size hr
  unfold d72 v72
  rw [hk, hw]
  by_cases hz : n = 0
  · subst hz
    simp only [beq_self_eq_true, cond_true, true_and]
    unfold txt
    rw [if_neg (by omega), decN_small _ (by decide)]
    rfl
  · have e0 : (n == 0) = false := by simpa using hz
    have ee : decN n.natAbs ++ ByteArray.empty = decN n.natAbs := ByteArray.append_empty
    simp only [e0, cond_false, cond_true, if_neg hz, ee, Bool.and_true]
    unfold txt at ht ⊢
    by_cases hn : n < 0
    · rw [if_pos hn] at ht ⊢
      rw [decide_eq_true hn]
      rw [ByteArray.size_append] at ht
      exact ⟨decide_eq_true (show minus.size + _ ≤ _ by omega), rfl⟩
    · rw [if_neg hn]
      rw [decide_eq_false hn]
      exact ⟨rfl, rfl⟩
theorem oneI (k : Nat) (n : Int) (h0 : 0 ≤ n) (h1 : n < 10) : R76 (k + 1) n = (true, txt n) := by
  have e : Utf8.encode (IntKind.wrap .i32 (IntKind.wrap .i64 (48 + n))) = txt n := by
    have := enc_digit n.natAbs (by omega)
    rw [show ((n.natAbs : Nat) : Int) = n by omega] at this
    rw [this]
    unfold txt
    rw [if_neg (by omega), decN_small _ (by omega)]
  simp only [R76, d76s, v76s, decide_eq_false (show ¬ n < 0 by omega), decide_eq_true h1, cond_true, cond_false, e]
theorem negI (k : Nat) (n : Int) (h0 : n < 0) (h1 : -10 < n) : R76 (k + 2) n = (true, txt n) := by
  have e1 : IntKind.wrap .i64 (0 - n) = -n := by rw [wrap_in (by omega) (by omega)]; omega
  have e2 := oneI k (-n) (by omega) (by omega)
  have hs : (txt (-n)).size ≤ 21 := txt_size (by unfold I64; omega)
  have et : (ByteArray.mk #[45]) ++ txt (-n) = txt n := by
    unfold txt
    rw [if_neg (by omega), if_pos h0, Int.natAbs_neg]
    rfl
  rw [R76]
  simp only [d76s, v76s, decide_eq_true h0, decide_eq_true (show n > -10 by omega), cond_true, e1, e2, et]
  rw [decide_eq_true (show (ByteArray.mk #[45]).size + (txt (-n)).size ≤ 9223372036854775807 from by have : (ByteArray.mk #[45]).size = 1 := rfl; omega)]
  rfl
theorem recI : ∀ (d : Nat) (n : Int), n.natAbs < 10 ^ (d + 1) → I64 n → R76 (d + 2) n = (true, txt n) := by
  intro d
  induction d with
  | zero =>
    intro n h hr
    have : n.natAbs < 10 := by simpa using h
    by_cases hn : n < 0
    · exact negI 0 n hn (by omega)
    · exact oneI 1 n (by omega) (by omega)
  | succ d ih =>
    intro n h hr
    by_cases h10 : n.natAbs < 10
    · by_cases hn : n < 0
      · exact negI _ n hn (by omega)
      · exact oneI _ n (by omega) (by omega)
    · have hq := tdiv_abs n
      have hd := tdiv_in hr
      have h1 := ih (Int.tdiv n 10) (by rw [hq]; rw [Nat.pow_succ] at h; omega) hd
      have hs1 := txt_size hd
      have hd' := hd
      unfold I64 at hd'
      have e1 : IntKind.wrap .i64 (Int.tdiv n 10) = Int.tdiv n 10 := wrap_in hd'.1 hd'.2
      rw [R76]
      by_cases hn : n < 0
      · have e2 : IntKind.wrap .i64 (0 - Int.tmod n 10) = ((n.natAbs % 10 : Nat) : Int) := by
          rw [tmod_neg hn, show (0 : Int) - -((n.natAbs % 10 : Nat) : Int) = ((n.natAbs % 10 : Nat) : Int) by omega, wrap_in (by omega) (by omega)]
        have h2 := oneI (d + 1) ((n.natAbs % 10 : Nat) : Int) (by omega) (by omega)
        have hs2 : (txt ((n.natAbs % 10 : Nat) : Int)).size ≤ 21 := txt_size (by unfold I64; omega)
        have et : txt (Int.tdiv n 10) ++ txt ((n.natAbs % 10 : Nat) : Int) = txt n := by
          unfold txt
          rw [if_pos (show Int.tdiv n 10 < 0 by rw [tdiv_neg hn]; omega), if_neg (by omega), if_pos hn, hq, Int.natAbs_natCast, decN_step _ h10, decN_small (n.natAbs % 10) (by omega), ByteArray.append_assoc]
        simp only [d76s, v76s, decide_eq_true hn, decide_eq_false (show ¬ n > -10 by omega), cond_true, cond_false, e1, e2, h1, h2, et]
        rw [decide_eq_true (show (txt (Int.tdiv n 10)).size + (txt ((n.natAbs % 10 : Nat) : Int)).size ≤ 9223372036854775807 by omega)]
        rfl
      · have e2 : Utf8.encode (IntKind.wrap .i32 (IntKind.wrap .i64 (48 + Int.tmod n 10))) = dg (n.natAbs % 10) := by rw [tmod_pos (by omega), enc_digit _ (by omega)]
        have et : txt (Int.tdiv n 10) ++ dg (n.natAbs % 10) = txt n := by
          unfold txt
          rw [if_neg (show ¬ Int.tdiv n 10 < 0 by rw [tdiv_pos (by omega)]; omega), if_neg hn, hq, decN_step _ h10]
        simp only [d76s, v76s, decide_eq_false hn, decide_eq_false (show ¬ n < 10 by omega), cond_true, cond_false, e1, e2, h1, et]
        rw [decide_eq_true (show (txt (Int.tdiv n 10)).size + (dg (n.natAbs % 10)).size ≤ 9223372036854775807 by rw [dg_size]; omega)]
        rfl
theorem numI (n : Int) (hr : I64 n) : d76 n = true ∧ v76 n = txt n := by
  have h := recI 38 n (Nat.lt_of_lt_of_le (abs_lt hr) (Nat.pow_le_pow_right (by omega) (by omega))) hr
  unfold d76 v76
  rw [h]
  exact ⟨rfl, rfl⟩
theorem lits (a : Array UInt8) : (ByteArray.mk a).size = a.size := rfl
theorem joinB_one (x s : ByteArray) : joinB [x] s = x := by simp [joinB, Go.Lib.join]
theorem joinB_cons (x y : ByteArray) (l : List ByteArray) (s : ByteArray) : joinB (x :: y :: l) s = x ++ (s ++ joinB (y :: l) s) := by
  apply ByteArray.ext
  simp [joinB, Go.Lib.join, List.intercalate]
theorem ok_i64 {n : Int} (h : Ty.ok (.int .i64) n) : -9223372036854775808 ≤ n ∧ n ≤ 9223372036854775807 := by
  simp [Ty.ok, Lit.wf, IntKind.min, IntKind.max, IntKind.signed, IntKind.bits] at h
  omega
theorem okI {n : Int} (h : Ty.ok (.int .i64) n) : I64 n := ok_i64 h
theorem evOk' (a b c d n z : Int) (t : Bool) : v121 ((a, b, c, d, n, z, t) : Ty.T y33) = v120 ((a, b, c, d, n, z, t) : Ty.T y33) := by
  simp only [v121, v120, v134, v144, v135, v136, v137, v145, v138, v139]
  dsimp only [Ty.T]
  have cc : ∀ (p q r : Bool), cond p q r = true ↔ (p = true ∧ q = true) ∨ (p = false ∧ r = true) := by decide
  have cf : ∀ (p q r : Bool), cond p q r = false ↔ (p = true ∧ q = false) ∨ (p = false ∧ r = false) := by decide
  by_cases h1 : a = 1
  · subst h1; rw [Bool.eq_iff_iff]; cases t <;> simp [cc, cf, *] <;> omega
  by_cases h2 : a = 2
  · subst h2; rw [Bool.eq_iff_iff]; cases t <;> simp [cc, cf, *] <;> omega
  by_cases h3 : a = 3
  · subst h3; rw [Bool.eq_iff_iff]; cases t <;> simp [cc, cf, *] <;> omega
  by_cases h4 : a = 4
  · subst h4; rw [Bool.eq_iff_iff]; cases t <;> simp [cc, cf, *] <;> omega
  by_cases h5 : a = 5
  · subst h5; rw [Bool.eq_iff_iff]; cases t <;> simp [cc, cf, *] <;> omega
  by_cases h6 : a = 6
  · subst h6; rw [Bool.eq_iff_iff]; cases t <;> simp [cc, cf, *] <;> omega
  rw [Bool.eq_iff_iff]; cases t <;> simp [cc, cf, *] <;> omega
theorem evOk (e : Ty.T y33) : v121 e = v120 e := by
  obtain ⟨a, b, c, d, n, z, t⟩ := e
  exact evOk' a b c d n z t
theorem lit0 : ByteArray.mk #[104, 117, 114, 116, 32] = (ByteArray.mk #[104, 117, 114, 116]) ++ ByteArray.mk #[32] := by decide
theorem lit1 : ByteArray.mk #[32, 115, 105, 100, 101, 32] = ByteArray.mk #[32] ++ (ByteArray.mk #[115, 105, 100, 101] ++ ByteArray.mk #[32]) := by decide
theorem lit2 : ByteArray.mk #[32, 112, 105, 101, 99, 101, 32] = ByteArray.mk #[32] ++ (ByteArray.mk #[112, 105, 101, 99, 101] ++ ByteArray.mk #[32]) := by decide
theorem lit3 : ByteArray.mk #[109, 111, 118, 101, 32] = (ByteArray.mk #[109, 111, 118, 101]) ++ ByteArray.mk #[32] := by decide
theorem lit4 : ByteArray.mk #[32, 98, 101, 110, 116] = (ByteArray.mk #[32]) ++ ByteArray.mk #[98, 101, 110, 116] := by decide
theorem lit5 : ByteArray.mk #[103, 97, 105, 110, 32] = (ByteArray.mk #[103, 97, 105, 110]) ++ ByteArray.mk #[32] := by decide
theorem lit6 : ByteArray.mk #[108, 111, 115, 101, 32] = (ByteArray.mk #[108, 111, 115, 101]) ++ ByteArray.mk #[32] := by decide
theorem lit7 : ByteArray.mk #[112, 117, 116, 32] = (ByteArray.mk #[112, 117, 116]) ++ ByteArray.mk #[32] := by decide
theorem lit8 : ByteArray.mk #[99, 117, 116, 32] = (ByteArray.mk #[99, 117, 116]) ++ ByteArray.mk #[32] := by decide
theorem evText (e : Ty.T y33) (ho : Ty.ok y33 e) : d73 e = true ∧ d77 e = true ∧ v77 e = v73 e ∧ (v73 e).size ≤ 200 := by
  have r0 : I64 e.2.1 := okI ho.2.1
  have h0 := txt_size r0
  have r1 : I64 e.2.2.1 := okI ho.2.2.1
  have h1 := txt_size r1
  have r2 : I64 e.2.2.2.1 := okI ho.2.2.2.1
  have h2 := txt_size r2
  have r3 : I64 e.2.2.2.2.1 := okI ho.2.2.2.2.1
  have h3 := txt_size r3
  have r4 : I64 e.2.2.2.2.2.1 := okI ho.2.2.2.2.2.1
  have h4 := txt_size r4
  unfold d73 d77 v77 v73
  rw [evOk, (numS _ r0).1, (numS _ r0).2, (numI _ r0).1, (numI _ r0).2, (numS _ r1).1, (numS _ r1).2, (numI _ r1).1, (numI _ r1).2, (numS _ r2).1, (numS _ r2).2, (numI _ r2).1, (numI _ r2).2, (numS _ r3).1, (numS _ r3).2, (numI _ r3).1, (numI _ r3).2, (numS _ r4).1, (numS _ r4).2, (numI _ r4).1, (numI _ r4).2]
  unfold d109 v109
  revert h0 h1 h2 h3 h4
  generalize txt e.2.1 = t0, txt e.2.2.1 = t1, txt e.2.2.2.1 = t2, txt e.2.2.2.2.1 = t3, txt e.2.2.2.2.2.1 = t4
  intro h0 h1 h2 h3 h4
  cases v120 e
  · exact ⟨rfl, rfl, rfl, show ByteArray.empty.size ≤ 200 by decide⟩
  · cases (e.1 == (1 : Int))
    · cases (e.1 == (2 : Int))
      · cases (e.1 == (3 : Int))
        · cases (e.1 == (4 : Int))
          · cases (e.1 == (5 : Int))
            · (simp only [bne, cond_true, cond_false, Bool.not_true, Bool.not_false, Bool.and_true, Bool.true_and, Bool.and_eq_true, decide_eq_true_eq, List.nil_append, List.cons_append, joinB_one, joinB_cons, ByteArray.append_assoc, lit0, lit1, lit2, lit3, lit4, lit5, lit6, lit7, lit8, ByteArray.size_append, lits, List.size_toArray, List.length_cons, List.length_nil, true_and, and_true]; rw [decide_eq_true]; (simp only [cond_true, and_true, true_and]; omega); omega)
            · (simp only [bne, cond_true, cond_false, Bool.not_true, Bool.not_false, Bool.and_true, Bool.true_and, Bool.and_eq_true, decide_eq_true_eq, List.nil_append, List.cons_append, joinB_one, joinB_cons, ByteArray.append_assoc, lit0, lit1, lit2, lit3, lit4, lit5, lit6, lit7, lit8, ByteArray.size_append, lits, List.size_toArray, List.length_cons, List.length_nil, true_and, and_true]; rw [decide_eq_true]; (simp only [cond_true, and_true, true_and]; omega); omega)
          · (simp only [bne, cond_true, cond_false, Bool.not_true, Bool.not_false, Bool.and_true, Bool.true_and, Bool.and_eq_true, decide_eq_true_eq, List.nil_append, List.cons_append, joinB_one, joinB_cons, ByteArray.append_assoc, lit0, lit1, lit2, lit3, lit4, lit5, lit6, lit7, lit8, ByteArray.size_append, lits, List.size_toArray, List.length_cons, List.length_nil, true_and, and_true]; rw [decide_eq_true]; (simp only [cond_true, and_true, true_and]; omega); omega)
        · (simp only [bne, cond_true, cond_false, Bool.not_true, Bool.not_false, Bool.and_true, Bool.true_and, Bool.and_eq_true, decide_eq_true_eq, List.nil_append, List.cons_append, joinB_one, joinB_cons, ByteArray.append_assoc, lit0, lit1, lit2, lit3, lit4, lit5, lit6, lit7, lit8, ByteArray.size_append, lits, List.size_toArray, List.length_cons, List.length_nil, true_and, and_true]; rw [decide_eq_true]; (simp only [cond_true, and_true, true_and]; omega); omega)
      · cases e.2.2.2.2.2.2
        · (simp only [bne, cond_true, cond_false, Bool.not_true, Bool.not_false, Bool.and_true, Bool.true_and, Bool.and_eq_true, decide_eq_true_eq, List.nil_append, List.cons_append, joinB_one, joinB_cons, ByteArray.append_assoc, lit0, lit1, lit2, lit3, lit4, lit5, lit6, lit7, lit8, ByteArray.size_append, lits, List.size_toArray, List.length_cons, List.length_nil, true_and, and_true]; rw [decide_eq_true]; (simp only [cond_true, and_true, true_and]; omega); omega)
        · (simp only [bne, cond_true, cond_false, Bool.not_true, Bool.not_false, Bool.and_true, Bool.true_and, Bool.and_eq_true, decide_eq_true_eq, List.nil_append, List.cons_append, joinB_one, joinB_cons, ByteArray.append_assoc, lit0, lit1, lit2, lit3, lit4, lit5, lit6, lit7, lit8, ByteArray.size_append, lits, List.size_toArray, List.length_cons, List.length_nil, true_and, and_true]; rw [decide_eq_true]; (simp only [cond_true, and_true, true_and]; omega); omega)
    · cases hc : (e.2.2.1 == (0 : Int))
      · (simp only [bne, hc, cond_true, cond_false, Bool.not_true, Bool.not_false, Bool.and_true, Bool.true_and, Bool.and_eq_true, decide_eq_true_eq, List.nil_append, List.cons_append, joinB_one, joinB_cons, ByteArray.append_assoc, lit0, lit1, lit2, lit3, lit4, lit5, lit6, lit7, lit8, ByteArray.size_append, lits, List.size_toArray, List.length_cons, List.length_nil, true_and, and_true]; rw [decide_eq_true]; (simp only [cond_true, and_true, true_and]; omega); omega)
      · (simp only [bne, hc, cond_true, cond_false, Bool.not_true, Bool.not_false, Bool.and_true, Bool.true_and, Bool.and_eq_true, decide_eq_true_eq, List.nil_append, List.cons_append, joinB_one, joinB_cons, ByteArray.append_assoc, lit0, lit1, lit2, lit3, lit4, lit5, lit6, lit7, lit8, ByteArray.size_append, lits, List.size_toArray, List.length_cons, List.length_nil, true_and, and_true]; rw [decide_eq_true]; (simp only [cond_true, and_true, true_and]; omega); omega)
theorem joinB_nil (s : ByteArray) : joinB [] s = ByteArray.empty := by apply ByteArray.ext; simp [joinB, Go.Lib.join]
theorem joinB_snoc (s x y : ByteArray) : ∀ (l : List ByteArray), joinB (y :: l ++ [x]) s = joinB (y :: l) s ++ (s ++ x) := by
  intro l
  induction l generalizing y with
  | nil => rw [List.cons_append, List.nil_append, joinB_cons, joinB_one, joinB_one]
  | cons z l ih =>
    have := ih z
    rw [List.cons_append] at this
    rw [List.cons_append, List.cons_append, joinB_cons, this, joinB_cons, ByteArray.append_assoc, ByteArray.append_assoc]
noncomputable def tx (l : List (Ty.T y33)) : ByteArray := joinB (l.map v73) (ByteArray.mk #[32, 97, 110, 100, 32])
theorem tx_nil : tx [] = ByteArray.empty := joinB_nil _
theorem tx_one (x : Ty.T y33) : tx [x] = v73 x := joinB_one _ _
theorem tx_snoc (y x : Ty.T y33) (l : List (Ty.T y33)) : tx (y :: l ++ [x]) = tx (y :: l) ++ ((ByteArray.mk #[32, 97, 110, 100, 32]) ++ v73 x) := by
  unfold tx
  rw [List.map_append, List.map_cons, List.map_cons, List.map_nil]
  exact joinB_snoc _ _ _ _
theorem loopTS (a : Ty.T y97) (hv : ∀ x ∈ a.2.2.2.2.2.1, Ty.ok y33 x) (hb : a.2.2.2.2.2.1.length ≤ 1048576) (z : ByteArray) (hz : z.size ≤ 1000) : iter s48_0 (n48_0 (ByteArray.empty, z, 0, a, ())) (ByteArray.empty, z, 0, a, ()) = some (0, (ByteArray.empty, (z ++ tx a.2.2.2.2.2.1), (a.2.2.2.2.2.1.length : Int), a, ())) ∧ (tx a.2.2.2.2.2.1).size ≤ 214958080 := by
  have h := march_iter (A := ByteArray) (c := 0) (s := s48_0) (mk := fun k i => (ByteArray.empty, k, i, a, ())) (N := a.2.2.2.2.2.1.length) (Inv := fun i k => k = z ++ tx (a.2.2.2.2.2.1.take i) ∧ (tx (a.2.2.2.2.2.1.take i)).size ≤ 205 * i) (fun i k hi hI => by
    obtain ⟨rfl, hs⟩ := hI
    have hx : a.2.2.2.2.2.1[i]? = some a.2.2.2.2.2.1[i] := List.getElem?_eq_getElem hi
    have hq := evText _ (hv _ (List.getElem_mem hi))
    have hl : (List.take i a.2.2.2.2.2.1).length = i := by rw [List.length_take]; omega
    have ha : (ByteArray.mk #[32, 97, 110, 100, 32]).size = 5 := rfl
    have h3 : (i : Int) < (a.2.2.2.2.2.1.length : Int) := by omega
    have ht : a.2.2.2.2.2.1.take (i + 1) = a.2.2.2.2.2.1.take i ++ [a.2.2.2.2.2.1[i]] := by rw [List.take_add_one, hx]; rfl
    have hzs : (z ++ tx (List.take i a.2.2.2.2.2.1)).size ≤ 1000 + 205 * i := by rw [ByteArray.size_append]; omega
    rw [ht]
    match hm : List.take i a.2.2.2.2.2.1 with
    | [] =>
      rw [hm] at hl hs hzs
      have hl : i = 0 := hl.symm
      subst hl
      refine ⟨(z ++ tx []) ++ v73 a.2.2.2.2.2.1[0], ?_, ?_, ?_⟩
      · have hq2 : (z ++ tx []).size + (v73 a.2.2.2.2.2.1[0]).size ≤ 9223372036854775807 := by have := hq.2.2.2; omega
        simp only [s48_0, t48_0, decide_eq_true h3, cond_true, decide_eq_false (show ¬ ((0 : Nat) : Int) > 0 by omega), cond_false, if_pos (show (0 : Int) ≤ ((0 : Nat) : Int) by omega), Int.toNat_natCast, hx, optC_some, hq.1, if_pos hq2]
        rw [wrap_nat (n := 0) (by omega)]
      · rw [List.nil_append, tx_one, tx_nil, ByteArray.append_empty]
      · rw [List.nil_append, tx_one]
        have := hq.2.2.2
        omega
    | y :: l =>
      rw [hm] at hl hs hzs
      have hl : l.length + 1 = i := hl
      refine ⟨((z ++ tx (y :: l)) ++ (ByteArray.mk #[32, 97, 110, 100, 32])) ++ v73 a.2.2.2.2.2.1[i], ?_, ?_, ?_⟩
      · have hq1 : (z ++ tx (y :: l)).size + (ByteArray.mk #[32, 97, 110, 100, 32]).size ≤ 9223372036854775807 := by omega
        have hq2 : ((z ++ tx (y :: l)) ++ (ByteArray.mk #[32, 97, 110, 100, 32])).size + (v73 a.2.2.2.2.2.1[i]).size ≤ 9223372036854775807 := by rw [ByteArray.size_append]; have := hq.2.2.2; omega
        simp only [s48_0, t48_0, decide_eq_true h3, cond_true, decide_eq_true (show (i : Int) > 0 by omega), if_pos (show (0 : Int) ≤ (i : Int) by omega), Int.toNat_natCast, hx, optC_some, hq.1, if_pos hq1, if_pos hq2]
        rw [wrap_nat (n := i) (by omega)]
      · rw [tx_snoc, ByteArray.append_assoc, ByteArray.append_assoc]
      · rw [tx_snoc, ByteArray.size_append, ByteArray.size_append]
        have := hq.2.2.2
        omega) (fun k hI => by simp [s48_0, t48_0]) a.2.2.2.2.2.1.length 0 z (n48_0 (ByteArray.empty, z, 0, a, ())) (by omega) (by simp only [n48_0]; omega) ⟨by rw [List.take_zero, tx_nil, ByteArray.append_empty], by rw [List.take_zero, tx_nil]; decide⟩
  obtain ⟨k, h1, rfl, h2⟩ := h
  rw [List.take_length] at h1 h2
  exact ⟨h1, by omega⟩
theorem loopTI (a : Ty.T y97) (hv : ∀ x ∈ a.2.2.2.2.2.1, Ty.ok y33 x) (hb : a.2.2.2.2.2.1.length ≤ 1048576) : iter s50_0 (n50_0 (ByteArray.empty, a.2.2.2.2.2.1, ((a.2.2.2.2.2.1).length : Int), 0, [], a, ())) (ByteArray.empty, a.2.2.2.2.2.1, ((a.2.2.2.2.2.1).length : Int), 0, [], a, ()) = some (0, (ByteArray.empty, a.2.2.2.2.2.1, ((a.2.2.2.2.2.1).length : Int), (a.2.2.2.2.2.1.length : Int), (a.2.2.2.2.2.1.map v73), a, ())) := by
  have h := march_iter (A := List ByteArray) (c := 0) (s := s50_0) (mk := fun k i => (ByteArray.empty, a.2.2.2.2.2.1, ((a.2.2.2.2.2.1).length : Int), i, k, a, ())) (N := a.2.2.2.2.2.1.length) (Inv := fun i k => k = (a.2.2.2.2.2.1.take i).map v73) (fun i k hi hI => by
    subst hI
    have hx : a.2.2.2.2.2.1[i]? = some a.2.2.2.2.2.1[i] := List.getElem?_eq_getElem hi
    have hq := evText _ (hv _ (List.getElem_mem hi))
    have hl : ((List.take i a.2.2.2.2.2.1).map v73).length = i := by rw [List.length_map, List.length_take]; omega
    have h3 : (i : Int) < (a.2.2.2.2.2.1.length : Int) := by omega
    have ht : a.2.2.2.2.2.1.take (i + 1) = a.2.2.2.2.2.1.take i ++ [a.2.2.2.2.2.1[i]] := by rw [List.take_add_one, hx]; rfl
    have h4 : ((List.take i a.2.2.2.2.2.1).map v73 ++ [v73 a.2.2.2.2.2.1[i]]).length * 16 ≤ 140737488351232 := by rw [List.length_append, hl]; simp only [List.length_cons, List.length_nil]; omega
    refine ⟨(List.take i a.2.2.2.2.2.1).map v73 ++ [v73 a.2.2.2.2.2.1[i]], ?_, by rw [ht, List.map_append]; rfl⟩
    simp only [s50_0, t50_0, decide_eq_true h3, cond_true, if_pos (show (0 : Int) ≤ (i : Int) by omega), Int.toNat_natCast, hx, optC_some, hq.2.1, hq.2.2.1]
    rw [if_pos h4, wrap_nat (n := i) (by omega)]) (fun k hI => by simp [s50_0, t50_0]) a.2.2.2.2.2.1.length 0 [] (n50_0 (ByteArray.empty, a.2.2.2.2.2.1, ((a.2.2.2.2.2.1).length : Int), 0, [], a, ())) (by omega) (by simp only [n50_0]; omega) rfl
  obtain ⟨k, h1, rfl⟩ := h
  rw [List.take_length] at h1
  exact h1
theorem turnText (a : Ty.T y97) (ho : Ty.ok y97 a) (hb : a.2.2.2.2.2.1.length ≤ 1048576) : d48 a = true ∧ d50 a = true ∧ v50 a = v48 a := by
  have r0 : I64 a.2.1 := okI ho.2.1
  have h0 := txt_size r0
  have r1 : I64 a.1 := okI ho.1
  have h1 := txt_size r1
  have r2 : I64 a.2.2.1 := okI ho.2.2.1
  have h2 := txt_size r2
  have r3 : I64 a.2.2.2.1 := okI ho.2.2.2.1
  have h3 := txt_size r3
  have r4 : I64 a.2.2.2.2.2.2.1 := okI ho.2.2.2.2.2.2.1
  have h4 := txt_size r4
  have q := evText a.2.2.2.2.1 ho.2.2.2.2.1
  have hv : ∀ x ∈ a.2.2.2.2.2.1, Ty.ok y33 x := ho.2.2.2.2.2.1.1
  have li := loopTI a hv hb
  have k2 : k50_0 ByteArray.empty a.2.2.2.2.2.1 ((a.2.2.2.2.2.1).length : Int) 0 [] a 0 = true := at_of li 0
  have w2 : w50_0 ByteArray.empty a.2.2.2.2.2.1 ((a.2.2.2.2.2.1).length : Int) 0 [] a = (ByteArray.empty, a.2.2.2.2.2.1, ((a.2.2.2.2.2.1).length : Int), (a.2.2.2.2.2.1.length : Int), (a.2.2.2.2.2.1.map v73), a, ()) := val_of li
  have k1 : ∀ z : ByteArray, z.size ≤ 1000 → k48_0 ByteArray.empty z 0 a 0 = true := fun z hz => at_of (loopTS a hv hb z hz).1 0
  have w1 : ∀ z : ByteArray, z.size ≤ 1000 → w48_0 ByteArray.empty z 0 a = (ByteArray.empty, (z ++ tx a.2.2.2.2.2.1), (a.2.2.2.2.2.1.length : Int), a, ()) := fun z hz => val_of (loopTS a hv hb z hz).1
  have ht := (loopTS a hv hb ByteArray.empty (by decide)).2
  have hq := q.2.2.2
  unfold d48 d50 v50 v48 d109 v109
  simp only [q.1, q.2.1, q.2.2.1, (numS _ r0).1, (numS _ r0).2, (numI _ r0).1, (numI _ r0).2, (numS _ r1).1, (numS _ r1).2, (numI _ r1).1, (numI _ r1).2, (numS _ r2).1, (numS _ r2).2, (numI _ r2).1, (numI _ r2).2, (numS _ r3).1, (numS _ r3).2, (numI _ r3).1, (numI _ r3).2, (numS _ r4).1, (numS _ r4).2, (numI _ r4).1, (numI _ r4).2, k2, w2, cond_true]
  cases hx : ((a.2.2.2.2.2.1.length : Int) == (0 : Int))
  · have hz : ((((((((((((ByteArray.mk #[98, 121, 32]) ++ (txt a.2.1)) ++ (ByteArray.mk #[32, 101, 102, 102, 101, 99, 116, 32])) ++ (txt a.1)) ++ (ByteArray.mk #[32])) ++ (txt a.2.2.1)) ++ (ByteArray.mk #[47])) ++ (txt a.2.2.2.1)) ++ (ByteArray.mk #[58, 32])) ++ (v73 a.2.2.2.2.1)) ++ (ByteArray.mk #[32, 116, 111, 32]))).size ≤ 1000 := by
      simp only [ByteArray.size_append, lits, List.size_toArray, List.length_cons, List.length_nil]
      omega
    have hP : List.length (α := Ty.T y33) a.2.2.2.2.2.1 ≤ 140737488355328 ∧ (tx a.2.2.2.2.2.1).size ≤ 140737488355328 := ⟨by omega, by omega⟩
    have hj : joinB (a.2.2.2.2.2.1.map v73) (ByteArray.mk #[32, 97, 110, 100, 32]) = tx a.2.2.2.2.2.1 := rfl
    simp only [List.length_map, hx, k1 _ hz, w1 _ hz, decide_eq_true hP, cond_true, cond_false, Bool.and_true, Bool.and_eq_true, decide_eq_true_eq, (numS _ r0).1, (numS _ r0).2, (numI _ r0).1, (numI _ r0).2, (numS _ r1).1, (numS _ r1).2, (numI _ r1).1, (numI _ r1).2, (numS _ r2).1, (numS _ r2).2, (numI _ r2).1, (numI _ r2).2, (numS _ r3).1, (numS _ r3).2, (numI _ r3).1, (numI _ r3).2, (numS _ r4).1, (numS _ r4).2, (numI _ r4).1, (numI _ r4).2, hj]
    cases decide (a.2.2.2.2.2.2.1 > (0 : Int)) <;> simp only [cond_true, cond_false, Bool.and_true, Bool.and_eq_true, decide_eq_true_eq, and_true, true_and, ByteArray.append_assoc, ByteArray.size_append, lits, List.size_toArray, List.length_cons, List.length_nil] <;> omega
  · have hm : a.2.2.2.2.2.1 = [] := List.eq_nil_of_length_eq_zero (by have := beq_iff_eq.1 hx; omega)
    have hz : (((((((((((((ByteArray.mk #[98, 121, 32]) ++ (txt a.2.1)) ++ (ByteArray.mk #[32, 101, 102, 102, 101, 99, 116, 32])) ++ (txt a.1)) ++ (ByteArray.mk #[32])) ++ (txt a.2.2.1)) ++ (ByteArray.mk #[47])) ++ (txt a.2.2.2.1)) ++ (ByteArray.mk #[58, 32])) ++ (v73 a.2.2.2.2.1)) ++ (ByteArray.mk #[32, 116, 111, 32])) ++ (ByteArray.mk #[110, 111, 116, 104, 105, 110, 103]))).size ≤ 1000 := by
      simp only [ByteArray.size_append, lits, List.size_toArray, List.length_cons, List.length_nil]
      omega
    have ht0 : tx a.2.2.2.2.2.1 = ByteArray.empty := by rw [hm]; exact tx_nil
    have hP : List.length (α := ByteArray) [(ByteArray.mk #[110, 111, 116, 104, 105, 110, 103])] ≤ 140737488355328 ∧ ((ByteArray.mk #[110, 111, 116, 104, 105, 110, 103])).size ≤ 140737488355328 := ⟨by decide, by decide⟩
    have hmm : a.2.2.2.2.2.1.map v73 = [] := by rw [hm]; rfl
    have h00 : (((0 : Nat) : Int) == (0 : Int)) = true := rfl
    have hP0 : List.length (α := ByteArray) [(ByteArray.mk #[110, 111, 116, 104, 105, 110, 103])] * 16 ≤ 140737488351232 := by decide
    simp only [List.length_map, hx, k1 _ hz, w1 _ hz, ht0, hmm, List.length_nil, h00, List.nil_append, decide_eq_true hP, decide_eq_true hP0, joinB_one, cond_true, cond_false, Bool.and_true, Bool.true_and, Bool.and_eq_true, decide_eq_true_eq, (numS _ r0).1, (numS _ r0).2, (numI _ r0).1, (numI _ r0).2, (numS _ r1).1, (numS _ r1).2, (numI _ r1).1, (numI _ r1).2, (numS _ r2).1, (numS _ r2).2, (numI _ r2).1, (numI _ r2).2, (numS _ r3).1, (numS _ r3).2, (numI _ r3).1, (numI _ r3).2, (numS _ r4).1, (numS _ r4).2, (numI _ r4).1, (numI _ r4).2, ByteArray.append_empty]
    cases decide (a.2.2.2.2.2.2.1 > (0 : Int)) <;> simp only [cond_true, cond_false, Bool.and_true, Bool.and_eq_true, decide_eq_true_eq, and_true, true_and, ByteArray.append_assoc, ByteArray.size_append, lits, List.size_toArray, List.length_cons, List.length_nil] <;> omega
theorem law (a0 : Ty.T y93) (w0 : Ty.ok y93 a0) : d9 a0 = true ∧ v9 a0 = true := by
  unfold d9 v9
  have y0 := sz47 a0 w0 1048576 (by omega) (by omega)
  have z0 := y0
  by_cases g0 : v47 a0 1048576 < 0
  · rw [decide_eq_true g0]; exact ⟨rfl, rfl⟩
  · rw [decide_eq_false g0]
    have s0 := z0.2 (by omega)
    have t0_49 := to49 a0 s0
    have q0_51 := eq51 a0 s0
    have hb : a0.2.2.2.2.2.1.length ≤ 1048576 := s0.2.2.2.2.2.1.1
    have q := turnText a0 w0 hb
    simp only [t0_49.1, t0_49.2, pair_eta, q0_51.1, q0_51.2, q.1, q.2.1, q.2.2]
    simp
end Go.Proofs.Ytnbmifoebaoemaa.Vm
namespace Go.Proofs.Ytnbmifoebaoemaa.Pure
open Go Go.Proofs.Ytnbmifoebaoemaa.Lib Go.Proofs.Ytnbmifoebaoemaa.Vm
theorem fnExactTurnText : Go.Proofs.Ytnbmifoebaoemaa.fnExactTurnText.Pure := fun a0 w0 => by
  have h := law a0 w0
  show cond (d9 a0) (some (f9 (v9 a0))) none = _
  rw [h.1, h.2]
  rfl
end Go.Proofs.Ytnbmifoebaoemaa.Pure
