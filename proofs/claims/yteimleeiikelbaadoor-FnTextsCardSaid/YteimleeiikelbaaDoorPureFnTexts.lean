/- FnTexts: the law holds of the plain functions that the contracts name. No condition. -/
import Derived.Test.YteimleeiikelbaaDoorVmRowFnTexts
import Derived.Test.YteimleeiikelbaaDoorVmLibThree
namespace Go.Proofs.YteimleeiikelbaaDoor.Vm
open Go Go.Proofs.YteimleeiikelbaaDoor.Lib
set_option maxRecDepth 100000
set_option linter.unusedVariables false
set_option linter.unusedSimpArgs false
/-- The pieces between blanks. -/
def cuts : List UInt8 → List (List UInt8)
  | [] => [[]]
  | b :: l => if b = 32 then [] :: cuts l else (match cuts l with | [] => [[b]] | h :: t => (b :: h) :: t)
def mkB (l : List UInt8) : ByteArray := ⟨l.toArray⟩
theorem mkB_self (s : ByteArray) : mkB s.data.toList = s := by
  apply ByteArray.ext
  simp [mkB]
theorem cuts_ne : ∀ l, cuts l ≠ []
  | [] => by simp [cuts]
  | b :: l => by
    rw [cuts]
    split
    · simp
    · split <;> simp
theorem cuts_len : ∀ l, (cuts l).length ≤ l.length + 1
  | [] => by simp [cuts]
  | b :: l => by
    have ih := cuts_len l
    rw [cuts]
    split
    · simp only [List.length_cons]; omega
    · split
      · simp
      · rename_i h t e
        rw [e] at ih
        simp only [List.length_cons] at ih ⊢
        omega
theorem cuts_miss : ∀ l : List UInt8, (32 : UInt8) ∉ l → cuts l = [l]
  | [], _ => rfl
  | b :: l, h => by
    have h1 : b ≠ 32 := fun e => h (by rw [e]; exact List.mem_cons_self)
    rw [cuts, if_neg h1, cuts_miss l (fun hm => h (List.mem_cons_of_mem _ hm))]
theorem cuts_hit : ∀ (a r : List UInt8), (32 : UInt8) ∉ a → cuts (a ++ 32 :: r) = a :: cuts r
  | [], r, _ => by rw [List.nil_append, cuts, if_pos rfl]
  | b :: a, r, h => by
    have h1 : b ≠ 32 := fun e => h (by rw [e]; exact List.mem_cons_self)
    rw [List.cons_append, cuts, if_neg h1, cuts_hit a r (fun hm => h (List.mem_cons_of_mem _ hm))]
theorem cuts_snoc : ∀ (l : List UInt8) (b : UInt8) (A : List (List UInt8)) (t : List UInt8), cuts l = A ++ [t] → cuts (l ++ [b]) = if b = 32 then A ++ [t] ++ [[]] else A ++ [t ++ [b]]
  | [], b, A, t, h => by
    have : A = [] ∧ t = [] := by
      cases A with
      | nil => exact ⟨rfl, by simpa [cuts] using h.symm⟩
      | cons x A => simp [cuts] at h
    obtain ⟨rfl, rfl⟩ := this
    simp [cuts]
  | x :: l, b, A, t, h => by
    rw [List.cons_append, cuts]
    rw [cuts] at h
    by_cases hx : x = 32
    · rw [if_pos hx] at h ⊢
      cases A with
      | nil =>
        have := cuts_ne l
        simp at h
        exact absurd h.2 this
      | cons y A =>
        simp only [List.cons_append, List.cons.injEq] at h
        obtain ⟨rfl, h⟩ := h
        rw [cuts_snoc l b A t h]
        split <;> rfl
    · rw [if_neg hx] at h ⊢
      cases hc : cuts l with
      | nil => exact absurd hc (cuts_ne l)
      | cons y T =>
        rw [hc] at h
        simp only at h
        cases A with
        | nil =>
          simp only [List.nil_append, List.cons.injEq] at h
          obtain ⟨rfl, rfl⟩ := h
          rw [cuts_snoc l b [] y (by rw [hc]; rfl)]
          by_cases hb : b = 32
          · rw [if_pos hb, if_pos hb]; rfl
          · rw [if_neg hb, if_neg hb]; rfl
        | cons z A =>
          simp only [List.cons_append, List.cons.injEq] at h
          obtain ⟨rfl, rfl⟩ := h
          rw [cuts_snoc l b (y :: A) t (by rw [hc]; rfl)]
          by_cases hb : b = 32
          · rw [if_pos hb, if_pos hb]; rfl
          · rw [if_neg hb, if_neg hb]; rfl
open Go.Lib in
theorem index_hit : ∀ (l : List UInt8) (i : Nat), index l [32] = (i : Int) → ∃ a r, l = a ++ 32 :: r ∧ a.length = i ∧ (32 : UInt8) ∉ a
  | [], i, h => by
    simp [index] at h
  | b :: l, i, h => by
    rw [index] at h
    by_cases hb : b = 32
    · subst hb
      rw [if_pos (by simp [List.isPrefixOf])] at h
      exact ⟨[], l, rfl, by simp only [List.length_nil]; omega, by simp⟩
    · rw [if_neg (by simp [List.isPrefixOf]; exact fun e => hb e.symm)] at h
      split at h
      · omega
      · have hg := index_ge l [32]
        rename_i hne
        have hne : index l [32] ≠ -1 := by simpa using hne
        obtain ⟨a, r, h1, h2, h3⟩ := index_hit l (i - 1) (by omega)
        refine ⟨b :: a, r, by rw [h1]; rfl, ?_, ?_⟩
        · simp only [List.length_cons]
          omega
        · simp only [List.mem_cons, not_or]
          exact ⟨fun e => hb e.symm, h3⟩
open Go.Lib in
theorem index_none : ∀ (l : List UInt8), index l [32] = -1 → (32 : UInt8) ∉ l
  | [], _ => by simp
  | b :: l, h => by
    rw [index] at h
    by_cases hb : b = 32
    · subst hb
      rw [if_pos (by simp [List.isPrefixOf])] at h
      omega
    · rw [if_neg (by simp [List.isPrefixOf]; exact fun e => hb e.symm)] at h
      have hg := index_ge l [32]
      split at h
      · rename_i he
        have he : index l [32] = -1 := by simpa using he
        simp only [List.mem_cons, not_or]
        exact ⟨fun e => hb e.symm, index_none l he⟩
      · omega
open Go.Lib in
theorem split_cuts : ∀ (k : Nat) (s : ByteArray), countB s (ByteArray.mk #[32]) = k → splitB (ByteArray.mk #[32]) 0 k s = (cuts s.data.toList).map mkB
  | 0, s, h => by
    rcases indexB_cases s (ByteArray.mk #[32]) with hix | ⟨i, hix, _⟩
    · have hx : index s.data.toList [32] = -1 := hix
      rw [cuts_miss _ (index_none _ hx)]
      show [s] = [mkB s.data.toList]
      rw [mkB_self]
    · rw [countB_hit s _ i (by decide) hix] at h
      omega
  | k + 1, s, h => by
    rcases indexB_cases s (ByteArray.mk #[32]) with hix | ⟨i, hix, hroom⟩
    · rw [countB_miss s _ hix] at h; omega
    · have hx : index s.data.toList [32] = (i : Int) := hix
      obtain ⟨a, r, h1, h2, h3⟩ := index_hit _ _ hx
      have hc := countB_hit s _ i (by decide) hix
      rw [splitB_hit _ _ k s i hix, split_cuts k _ (by omega), h1, cuts_hit a r h3, List.map_cons]
      have e1 : s.extract 0 (i + 0) = mkB a := by
        apply ByteArray.ext
        apply Array.ext'
        simp only [ByteArray.data_extract, Array.toList_extract, h1, mkB, List.extract, List.drop_zero, Nat.add_zero, Nat.sub_zero]
        rw [← h2, List.take_left]
      have e2 : (s.extract (i + (ByteArray.mk #[32]).size) s.size).data.toList = r := by
        simp only [ByteArray.data_extract, Array.toList_extract, List.extract, h1]
        have hs : s.size = (a ++ 32 :: r).length := by rw [← h1]; rfl
        have hz : (ByteArray.mk #[32]).size = 1 := rfl
        rw [hs, hz, ← h2]
        rw [show (a ++ 32 :: r).drop (a.length + 1) = r by rw [← List.drop_drop, List.drop_left]; rfl]
        rw [List.take_of_length_le]
        simp only [List.length_append, List.length_cons]
        omega
      rw [e1, e2]
theorem ex_of (s : ByteArray) (f i : Nat) : s.extract f i = mkB ((s.data.toList.take i).drop f) := by
  apply ByteArray.ext
  apply Array.ext'
  simp only [ByteArray.data_extract, Array.toList_extract, List.extract, mkB]
  rw [List.drop_take]
theorem get_of (s : ByteArray) (i : Nat) (h : i < s.size) : ∃ b, s[i]? = some b ∧ s.data.toList[i]? = some b := ⟨s[i], getElem?_pos s i h, by
  rw [List.getElem?_eq_getElem (show i < s.data.toList.length from h)]
  rfl⟩
theorem wordsS (s : ByteArray) (hs : s.size ≤ 1048576) : d6 s = true ∧ v6 s = (cuts s.data.toList).map mkB := by
  have hsz : s.data.toList.length = s.size := rfl
  have h := run_sat (s := s6_0) (Q := fun v => v.2.2.2.2.1 = (cuts s.data.toList).map mkB) (fun k v => (∃ (i f : Nat) (A : List (List UInt8)), v = (s, [], (f : Int), (i : Int), A.map mkB, ()) ∧ i + k = s.size + 1 ∧ i ≤ s.size ∧ f ≤ i ∧ cuts (s.data.toList.take i) = A ++ [(s.data.toList.take i).drop f]) ∨ (k = 0 ∧ ∃ f : Int, v = (s, [], f, (s.size : Int) + 1, (cuts s.data.toList).map mkB, ()))) (fun k v hv => by
    rcases hv with ⟨i, f, A, rfl, hk, hi, hf, hA⟩ | ⟨rfl, f, rfl⟩
    · have hw := wrap_nat (n := i) (by omega)
      have hal : A.length ≤ 1048577 := by
        have := cuts_len (s.data.toList.take i)
        rw [hA, List.length_append, List.length_take] at this
        simp only [List.length_cons, List.length_nil] at this
        omega
      have hz : ∀ x : ByteArray, (A.map mkB ++ [x]).length * 16 ≤ 140737488351232 := fun x => by simp only [List.length_append, List.length_map, List.length_cons, List.length_nil]; omega
      have g1 : (0 : Int) ≤ (i : Int) := by omega
      have g2 : (i : Int) ≤ (s.size : Int) := by omega
      have g3 : (0 : Int) ≤ (f : Int) := by omega
      have g4 : (f : Int) ≤ ((i : Nat) : Int) := by omega
      unfold s6_0 t6_0
      dsimp only
      rw [decide_eq_true g2, cond_true]
      simp only [Int.toNat_natCast, if_pos g1, if_pos g2, if_pos g3, if_pos g4, if_pos (hz _), hw]
      by_cases he : i = s.size
      · rw [show ((i : Int) == (s.size : Int)) = true from by rw [he]; exact beq_self_eq_true _, cond_true, Sat_some]
        refine .inr ⟨rfl, k - 1, by omega, .inr ⟨by omega, ((i + 1 : Nat) : Int), ?_⟩⟩
        have ht : s.data.toList.take i = s.data.toList := List.take_of_length_le (by omega)
        rw [ht] at hA
        rw [hA, List.map_append, ex_of, ht, he]
        rfl
      · obtain ⟨b, b1, b2⟩ := get_of s i (by omega)
        rw [show ((i : Int) == (s.size : Int)) = false from beq_eq_false_iff_ne.2 (by omega), cond_false, b1, optC_some]
        have ht : s.data.toList.take (i + 1) = s.data.toList.take i ++ [b] := take_snoc b2
        have hsn := cuts_snoc _ b _ _ hA
        rw [← ht] at hsn
        have hli : (s.data.toList.take i).length = i := by rw [List.length_take]; omega
        by_cases hb : b = 32
        · subst hb
          rw [show (((32 : UInt8).toNat : Int) == (32 : Int)) = true from rfl, cond_true, Sat_some]
          rw [if_pos rfl] at hsn
          refine .inr ⟨rfl, k - 1, by omega, .inl ⟨i + 1, i + 1, A ++ [(s.data.toList.take i).drop f], ?_, by omega, by omega, Nat.le_refl _, ?_⟩⟩
          · rw [List.map_append, ex_of]
            rfl
          · have e : List.drop (i + 1) (List.take (i + 1) s.data.toList) = [] := List.drop_of_length_le (by rw [List.length_take]; omega)
            rw [hsn, e]
        · have hne : ((b.toNat : Int) == (32 : Int)) = false := beq_eq_false_iff_ne.2 (fun e => hb (by
            have : b.toNat = 32 := by omega
            exact UInt8.toNat_inj.1 this))
          rw [hne, cond_false, Sat_some]
          rw [if_neg hb] at hsn
          refine .inr ⟨rfl, k - 1, by omega, .inl ⟨i + 1, f, A, rfl, by omega, by omega, by omega, ?_⟩⟩
          rw [hsn, ht, List.drop_append_of_le_length (by omega)]
    · unfold s6_0 t6_0
      dsimp only
      rw [decide_eq_false (show ¬ ((s.size : Int) + 1 ≤ (s.size : Int)) by omega), cond_false, Sat_some]
      exact .inl ⟨rfl, rfl⟩) (s.size + 1) (s, [], (0 : Int), (0 : Int), [], ()) (n6_0 (s, [], 0, 0, [], ())) (.inl ⟨0, 0, [], rfl, by omega, by omega, Nat.le_refl _, rfl⟩) (by simp only [n6_0]; omega)
  have hk : k6_0 s [] 0 0 [] 0 = true := h.1.1
  have hw : (w6_0 s [] 0 0 []).2.2.2.2.1 = _ := h.2
  unfold d6 v6
  rw [hk, cond_true, cond_true]
  exact ⟨rfl, hw⟩
theorem wordsI (s : ByteArray) (hs : s.size ≤ 1048576) : d7 s = true ∧ v7 s = (cuts s.data.toList).map mkB := by
  have hd : d20 s (ByteArray.mk #[32]) = true := decide_eq_true ⟨by omega, by decide⟩
  unfold d7 v7
  rw [hd, cond_true, cond_true]
  exact ⟨rfl, split_cuts _ s rfl⟩
def dg (d : Nat) : ByteArray := ⟨#[UInt8.ofNat (48 + d)]⟩
def decN (n : Nat) : ByteArray := if h : n < 10 then dg n else decN (n / 10) ++ dg (n % 10)
termination_by n
def minus : ByteArray := ⟨#[45]⟩
def txt (n : Int) : ByteArray := if n < 0 then minus ++ decN n.natAbs else decN n.natAbs
theorem decN_small (n : Nat) (h : n < 10) : decN n = dg n := by rw [decN, dif_pos h]
theorem decN_step (n : Nat) (h : ¬ n < 10) : decN n = decN (n / 10) ++ dg (n % 10) := by rw [decN, dif_neg h]
theorem dg_size (d : Nat) : (dg d).size = 1 := rfl
theorem minus_size : minus.size = 1 := rfl
theorem decN_size (d : Nat) : ∀ n : Nat, n < 10 ^ (d + 1) → (decN n).size ≤ d + 1 := by
  induction d with
  | zero =>
    intro n h
    rw [decN_small n (by simpa using h), dg_size]
    omega
  | succ d ih =>
    intro n h
    by_cases h10 : n < 10
    · rw [decN_small n h10, dg_size]
      omega
    · rw [decN_step n h10, ByteArray.size_append, dg_size]
      have := ih (n / 10) (by rw [Nat.pow_succ] at h; omega)
      omega
def I64 (n : Int) : Prop := -9223372036854775808 ≤ n ∧ n ≤ 9223372036854775807
theorem abs_lt {n : Int} (h : I64 n) : n.natAbs < 10 ^ (19 + 1) := by
  have : (10 : Nat) ^ (19 + 1) = 100000000000000000000 := by decide
  unfold I64 at h
  omega
theorem txt_size {n : Int} (h : I64 n) : (txt n).size ≤ 21 := by
  have h := decN_size 19 _ (abs_lt h)
  unfold txt
  split
  · rw [ByteArray.size_append]
    have : minus.size = 1 := rfl
    omega
  · omega
theorem enc_digit (d : Nat) (h : d < 10) : Utf8.encode (IntKind.wrap .i32 (IntKind.wrap .i64 (48 + (d : Int)))) = dg d := by
  have e : ∀ m, m < 10 → Utf8.encode (IntKind.wrap .i32 (IntKind.wrap .i64 (48 + ((m : Nat) : Int)))) = dg m := by decide
  exact e d h
theorem nums_digit (d : Nat) (h : d < 10) : strOfNums [IntKind.wrap .u8 (IntKind.wrap .i64 (48 + (d : Int)))] = dg d := by
  have e : ∀ m, m < 10 → strOfNums [IntKind.wrap .u8 (IntKind.wrap .i64 (48 + ((m : Nat) : Int)))] = dg m := by decide
  exact e d h
theorem tmod_neg {x : Int} (h : x < 0) : Int.tmod x 10 = -((x.natAbs % 10 : Nat) : Int) := by
  obtain ⟨m, rfl⟩ : ∃ m : Nat, x = -(m : Int) := ⟨x.natAbs, by omega⟩
  rw [Int.neg_tmod, Int.natAbs_neg, Int.natAbs_natCast]
  rfl
theorem tdiv_neg {x : Int} (h : x < 0) : Int.tdiv x 10 = -((x.natAbs / 10 : Nat) : Int) := by
  obtain ⟨m, rfl⟩ : ∃ m : Nat, x = -(m : Int) := ⟨x.natAbs, by omega⟩
  rw [Int.neg_tdiv, Int.natAbs_neg, Int.natAbs_natCast]
  rfl
theorem tmod_pos {x : Int} (h : 0 ≤ x) : Int.tmod x 10 = ((x.natAbs % 10 : Nat) : Int) := by
  obtain ⟨m, rfl⟩ : ∃ m : Nat, x = (m : Int) := ⟨x.natAbs, by omega⟩
  rfl
theorem tdiv_pos {x : Int} (h : 0 ≤ x) : Int.tdiv x 10 = ((x.natAbs / 10 : Nat) : Int) := by
  obtain ⟨m, rfl⟩ : ∃ m : Nat, x = (m : Int) := ⟨x.natAbs, by omega⟩
  rfl
theorem tdiv_abs (x : Int) : (Int.tdiv x 10).natAbs = x.natAbs / 10 := by
  by_cases h : x < 0
  · rw [tdiv_neg h]; omega
  · rw [tdiv_pos (by omega)]; omega
theorem tdiv_in {x : Int} (h : I64 x) : I64 (Int.tdiv x 10) := by
  unfold I64 at h ⊢
  by_cases hn : x < 0
  · rw [tdiv_neg hn]; omega
  · rw [tdiv_pos (by omega)]; omega
theorem stepS (a x : Int) (e s : ByteArray) (hx : x ≠ 0) (hr : I64 x) (hs : s.size ≤ 100) : s40_0 (a, e, s, x, ()) = some (0, (a, e, dg (x.natAbs % 10) ++ s, Int.tdiv x 10, ())) := by
  have hd := tdiv_in hr
  unfold I64 at hr hd
  have hne : (x != 0) = true := by simpa using hx
  have hsz : ∀ d, (dg d).size + s.size ≤ 9223372036854775807 := fun d => by rw [dg_size]; omega
  simp only [s40_0, t40_0, hne, cond_true]
  rw [wrap_in (n := Int.tdiv x 10) hd.1 hd.2]
  by_cases hn : x < 0
  · by_cases hz : x.natAbs % 10 = 0
    · have e1 : Int.tmod x 10 = ((x.natAbs % 10 : Nat) : Int) := by rw [tmod_neg hn, hz]; rfl
      rw [e1, decide_eq_false (by omega), nums_digit _ (by omega)]
      simp only [cond_false, if_pos (hsz _)]
    · rw [tmod_neg hn, decide_eq_true (by omega), show (0 : Int) - -((x.natAbs % 10 : Nat) : Int) = ((x.natAbs % 10 : Nat) : Int) by omega, wrap_in (n := ((x.natAbs % 10 : Nat) : Int)) (by omega) (by omega), nums_digit _ (by omega)]
      simp only [cond_true, if_pos (hsz _)]
  · rw [tmod_pos (by omega), decide_eq_false (by omega), nums_digit _ (by omega)]
    simp only [cond_false, if_pos (hsz _)]
theorem stopS (a : Int) (e s : ByteArray) : s40_0 (a, e, s, 0, ()) = some (1, (a, e, s, 0, ())) := rfl
theorem iterS (a : Int) (e : ByteArray) : ∀ (d : Nat) (x : Int) (s : ByteArray) (n : Nat), x.natAbs < 10 ^ d → d < n → I64 x → s.size + d ≤ 100 →
    iter s40_0 n (a, e, s, x, ()) = some (0, (a, e, (if x = 0 then s else decN x.natAbs ++ s), 0, ())) := by
  have stop : ∀ (s : ByteArray) (n : Nat), 0 < n → iter s40_0 n (a, e, s, 0, ()) = some (0, (a, e, s, 0, ())) := fun s n hn => by
    obtain ⟨n, rfl⟩ : ∃ k, n = k + 1 := ⟨n - 1, by omega⟩
    rfl
  intro d
  induction d with
  | zero =>
    intro x s n h hn hr hs
    have : x = 0 := by omega
    subst this
    rw [stop s n hn]
    rfl
  | succ d ih =>
    intro x s n h hn hr hs
    by_cases hx : x = 0
    · subst hx
      rw [stop s n (by omega)]
      rfl
    · obtain ⟨n, rfl⟩ : ∃ k, n = k + 1 := ⟨n - 1, by omega⟩
      have hq := tdiv_abs x
      have h2 := ih (Int.tdiv x 10) (dg (x.natAbs % 10) ++ s) n (by rw [hq]; rw [Nat.pow_succ] at h; omega) (by omega) (tdiv_in hr) (by rw [ByteArray.size_append, dg_size]; omega)
      simp only [iter, stepS a x e s hx hr (by omega), Option.bind_some, if_neg hx]
      rw [h2, hq]
      by_cases h10 : x.natAbs < 10
      · rw [if_pos (by omega), decN_small _ h10, Nat.mod_eq_of_lt h10]
      · rw [if_neg (by omega), ← ByteArray.append_assoc, ← decN_step _ h10]
theorem numS (n : Int) (hr : I64 n) : d40 n = true ∧ v40 n = txt n := by
  have h := iterS n ByteArray.empty 20 n ByteArray.empty (n40_0 (n, ByteArray.empty, ByteArray.empty, n, ())) (abs_lt hr) (by simp only [n40_0]; omega) hr (by decide)
  have hk : k40_0 n ByteArray.empty ByteArray.empty n 0 = true := at_of h 0
  have hw : w40_0 n ByteArray.empty ByteArray.empty n = _ := val_of h
  have ht := txt_size hr
  unfold d40 v40
  rw [hk, hw]
  by_cases hz : n = 0
  · subst hz
    simp only [beq_self_eq_true, cond_true, true_and]
    unfold txt
    rw [if_neg (by omega), decN_small _ (by decide)]
    rfl
  · have e0 : (n == 0) = false := by simpa using hz
    have ee : decN n.natAbs ++ ByteArray.empty = decN n.natAbs := ByteArray.append_empty
    simp only [e0, cond_false, cond_true, if_neg hz, ee, Bool.and_true]
    unfold txt at ht ⊢
    by_cases hn : n < 0
    · rw [if_pos hn] at ht ⊢
      rw [decide_eq_true hn]
      rw [ByteArray.size_append] at ht
      exact ⟨decide_eq_true (show minus.size + _ ≤ _ by omega), rfl⟩
    · rw [if_neg hn]
      rw [decide_eq_false hn]
      exact ⟨rfl, rfl⟩
theorem oneI (k : Nat) (n : Int) (h0 : 0 ≤ n) (h1 : n < 10) : R28 (k + 1) n = (true, txt n) := by
  have e : Utf8.encode (IntKind.wrap .i32 (IntKind.wrap .i64 (48 + n))) = txt n := by
    have := enc_digit n.natAbs (by omega)
    rw [show ((n.natAbs : Nat) : Int) = n by omega] at this
    rw [this]
    unfold txt
    rw [if_neg (by omega), decN_small _ (by omega)]
  simp only [R28, d28s, v28s, t28, Option.isSome_some, Option.getD_some, decide_eq_false (show ¬ n < 0 by omega), decide_eq_true h1, cond_true, cond_false, e]
theorem negI (k : Nat) (n : Int) (h0 : n < 0) (h1 : -10 < n) : R28 (k + 2) n = (true, txt n) := by
  have e1 : IntKind.wrap .i64 (0 - n) = -n := by rw [wrap_in (by omega) (by omega)]; omega
  have e2 := oneI k (-n) (by omega) (by omega)
  have hs : (txt (-n)).size ≤ 21 := txt_size (by unfold I64; omega)
  have et : (ByteArray.mk #[45]) ++ txt (-n) = txt n := by
    unfold txt
    rw [if_neg (by omega), if_pos h0, Int.natAbs_neg]
    rfl
  rw [R28]
  simp only [d28s, v28s, t28, Option.isSome_some, Option.getD_some, decide_eq_true h0, decide_eq_true (show n > -10 by omega), cond_true, e1, e2, et]
  rw [if_pos (show (ByteArray.mk #[45]).size + (txt (-n)).size ≤ 9223372036854775807 from by have : (ByteArray.mk #[45]).size = 1 := rfl; omega)]
  rfl
theorem recI : ∀ (d : Nat) (n : Int), n.natAbs < 10 ^ (d + 1) → I64 n → R28 (d + 2) n = (true, txt n) := by
  intro d
  induction d with
  | zero =>
    intro n h hr
    have : n.natAbs < 10 := by simpa using h
    by_cases hn : n < 0
    · exact negI 0 n hn (by omega)
    · exact oneI 1 n (by omega) (by omega)
  | succ d ih =>
    intro n h hr
    by_cases h10 : n.natAbs < 10
    · by_cases hn : n < 0
      · exact negI _ n hn (by omega)
      · exact oneI _ n (by omega) (by omega)
    · have hq := tdiv_abs n
      have hd := tdiv_in hr
      have h1 := ih (Int.tdiv n 10) (by rw [hq]; rw [Nat.pow_succ] at h; omega) hd
      have hs1 := txt_size hd
      have hd' := hd
      unfold I64 at hd'
      have e1 : IntKind.wrap .i64 (Int.tdiv n 10) = Int.tdiv n 10 := wrap_in hd'.1 hd'.2
      rw [R28]
      by_cases hn : n < 0
      · have e2 : IntKind.wrap .i64 (0 - Int.tmod n 10) = ((n.natAbs % 10 : Nat) : Int) := by
          rw [tmod_neg hn, show (0 : Int) - -((n.natAbs % 10 : Nat) : Int) = ((n.natAbs % 10 : Nat) : Int) by omega, wrap_in (by omega) (by omega)]
        have h2 := oneI (d + 1) ((n.natAbs % 10 : Nat) : Int) (by omega) (by omega)
        have hs2 : (txt ((n.natAbs % 10 : Nat) : Int)).size ≤ 21 := txt_size (by unfold I64; omega)
        have et : txt (Int.tdiv n 10) ++ txt ((n.natAbs % 10 : Nat) : Int) = txt n := by
          unfold txt
          rw [if_pos (show Int.tdiv n 10 < 0 by rw [tdiv_neg hn]; omega), if_neg (by omega), if_pos hn, hq, Int.natAbs_natCast, decN_step _ h10, decN_small (n.natAbs % 10) (by omega), ByteArray.append_assoc]
        simp only [d28s, v28s, t28, Option.isSome_some, Option.getD_some, decide_eq_true hn, decide_eq_false (show ¬ n > -10 by omega), cond_true, cond_false, e1, e2, h1, h2, et]
        rw [if_pos (show (txt (Int.tdiv n 10)).size + (txt ((n.natAbs % 10 : Nat) : Int)).size ≤ 9223372036854775807 by omega)]
        rfl
      · have e2 : Utf8.encode (IntKind.wrap .i32 (IntKind.wrap .i64 (48 + Int.tmod n 10))) = dg (n.natAbs % 10) := by rw [tmod_pos (by omega), enc_digit _ (by omega)]
        have et : txt (Int.tdiv n 10) ++ dg (n.natAbs % 10) = txt n := by
          unfold txt
          rw [if_neg (show ¬ Int.tdiv n 10 < 0 by rw [tdiv_pos (by omega)]; omega), if_neg hn, hq, decN_step _ h10]
        simp only [d28s, v28s, t28, Option.isSome_some, Option.getD_some, decide_eq_false hn, decide_eq_false (show ¬ n < 10 by omega), cond_true, cond_false, e1, e2, h1, et]
        rw [if_pos (show (txt (Int.tdiv n 10)).size + (dg (n.natAbs % 10)).size ≤ 9223372036854775807 by rw [dg_size]; omega)]
        rfl
theorem numI (n : Int) (hr : I64 n) : d28 n = true ∧ v28 n = txt n := by
  have h := recI 38 n (Nat.lt_of_lt_of_le (abs_lt hr) (Nat.pow_le_pow_right (by omega) (by omega))) hr
  unfold d28 v28
  rw [h]
  exact ⟨rfl, rfl⟩
theorem lits (a : Array UInt8) : (ByteArray.mk a).size = a.size := rfl
theorem joinB_one (x s : ByteArray) : joinB [x] s = x := by simp [joinB, Go.Lib.join]
theorem joinB_cons (x y : ByteArray) (l : List ByteArray) (s : ByteArray) : joinB (x :: y :: l) s = x ++ (s ++ joinB (y :: l) s) := by
  apply ByteArray.ext
  simp [joinB, Go.Lib.join, List.intercalate]
theorem ok_i64 {n : Int} (h : Ty.ok (.int .i64) n) : -9223372036854775808 ≤ n ∧ n ≤ 9223372036854775807 := by
  simp [Ty.ok, Lit.wf, IntKind.min, IntKind.max, IntKind.signed, IntKind.bits] at h
  omega
theorem okI {n : Int} (h : Ty.ok (.int .i64) n) : I64 n := ok_i64 h
theorem List.reverseRecOn' {α : Type} {motive : List α → Prop} (l : List α) (nil : motive []) (snoc : ∀ l b, motive l → motive (l ++ [b])) : motive l := by
  rw [← List.reverse_reverse l]
  induction l.reverse with
  | nil => exact nil
  | cons a r ih => rw [List.reverse_cons]; exact snoc _ _ ih
theorem toList_loop (b : ByteArray) : ∀ (n i : Nat) (r : List UInt8), b.size - i = n → ByteArray.toList.loop b i r = r.reverse ++ b.data.toList.drop i
  | 0, i, r, hn => by
    rw [ByteArray.toList.loop, if_neg (by omega), List.drop_of_length_le (show b.data.toList.length ≤ i from by have : b.data.toList.length = b.size := rfl; omega), List.append_nil]
  | n + 1, i, r, hn => by
    have hi : i < b.data.toList.length := by have : b.data.toList.length = b.size := rfl; omega
    rw [ByteArray.toList.loop, if_pos (by omega), toList_loop b n (i + 1) _ (by omega), List.drop_eq_getElem_cons hi, List.reverse_cons, List.append_assoc]
    have : b.get! i = b.data.toList[i] := by
      show b.data[i]! = _
      rw [getElem!_pos b.data i hi]
      rfl
    rw [this]
    rfl
theorem toList_data (b : ByteArray) : b.toList = b.data.toList := by
  have := toList_loop b _ 0 [] rfl
  rw [List.reverse_nil, List.nil_append, List.drop_zero] at this
  exact this
theorem beq_toList (a b : ByteArray) : (a.toList == b.toList) = decide (a = b) := by
  rw [toList_data, toList_data]
  by_cases h : a = b
  · rw [h, decide_eq_true rfl, beq_self_eq_true]
  · rw [decide_eq_false h]
    exact beq_eq_false_iff_ne.2 fun e => h (ByteArray.ext (Array.ext' e))
theorem mkB_inj {a b : List UInt8} (h : mkB a = mkB b) : a = b := by
  have := congrArg (fun x : ByteArray => x.data.toList) h
  simpa [mkB] using this
theorem mkB_app (a b : List UInt8) : mkB (a ++ b) = mkB a ++ mkB b := by
  apply ByteArray.ext
  simp [mkB]
def isDg (b : UInt8) : Bool := decide (48 ≤ b.toNat) && decide (b.toNat ≤ 57)
def valN (l : List UInt8) : Nat := l.foldl (fun a b => 10 * a + (b.toNat - 48)) 0
theorem valN_snoc (l : List UInt8) (b : UInt8) : valN (l ++ [b]) = 10 * valN l + (b.toNat - 48) := by simp [valN]
theorem valN_lt : ∀ (l : List UInt8), (∀ b ∈ l, isDg b = true) → valN l < 10 ^ l.length := by
  intro l
  induction l using List.reverseRecOn' with
  | nil => intro _; decide
  | snoc l b ih =>
    intro h
    have h1 := ih fun x hx => h x (List.mem_append_left _ hx)
    have h2 := h b (List.mem_append_right _ (List.mem_singleton.2 rfl))
    simp only [isDg, Bool.and_eq_true, decide_eq_true_eq] at h2
    rw [valN_snoc, List.length_append, List.length_cons, List.length_nil, Nat.pow_succ]
    omega
theorem dg_byte {b : UInt8} (h : isDg b = true) : dg (b.toNat - 48) = mkB [b] := by
  simp only [isDg, Bool.and_eq_true, decide_eq_true_eq] at h
  unfold dg mkB
  have : UInt8.ofNat (48 + (b.toNat - 48)) = b := by
    rw [show 48 + (b.toNat - 48) = b.toNat by omega]
    exact UInt8.ofNat_toNat
  rw [this]
/-- A number's digits, if the first is not 0. -/
theorem decN_val : ∀ (l : List UInt8) (c : UInt8), (∀ b ∈ c :: l, isDg b = true) → c ≠ 48 → 0 < valN (c :: l) ∧ decN (valN (c :: l)) = mkB (c :: l) := by
  intro l
  induction l using List.reverseRecOn' with
  | nil =>
    intro c h hc
    have h1 := h c List.mem_cons_self
    have e := dg_byte h1
    simp only [isDg, Bool.and_eq_true, decide_eq_true_eq] at h1
    have hne : c.toNat ≠ 48 := fun e => hc (UInt8.toNat_inj.1 e)
    have hv : valN [c] = c.toNat - 48 := by simp [valN]
    rw [hv]
    exact ⟨by omega, by rw [decN_small _ (by omega), e]⟩
  | snoc l b ih =>
    intro c h hc
    have hb := h b (List.mem_cons_of_mem _ (List.mem_append_right _ (List.mem_singleton.2 rfl)))
    obtain ⟨h1, h2⟩ := ih c (fun x hx => h x (by rcases List.mem_cons.1 hx with rfl | hx; exact List.mem_cons_self; exact List.mem_cons_of_mem _ (List.mem_append_left _ hx))) hc
    have hv : valN (c :: (l ++ [b])) = 10 * valN (c :: l) + (b.toNat - 48) := valN_snoc (c :: l) b
    have e := dg_byte hb
    simp only [isDg, Bool.and_eq_true, decide_eq_true_eq] at hb
    refine ⟨by omega, ?_⟩
    rw [hv, decN_step _ (by omega), show (10 * valN (c :: l) + (b.toNat - 48)) / 10 = valN (c :: l) by omega, show (10 * valN (c :: l) + (b.toNat - 48)) % 10 = b.toNat - 48 by omega, h2, e, ← mkB_app]
    rfl
/-- No number is written with a 0 ahead of other digits. -/
theorem decN_head : ∀ n : Nat, ∃ c l, decN n = mkB (c :: l) ∧ (c = 48 → l = [] ∧ n = 0) := by
  intro n
  induction n using Nat.strongRecOn with
  | ind n ih =>
    by_cases h : n < 10
    · refine ⟨UInt8.ofNat (48 + n), [], by rw [decN_small n h]; rfl, fun hc => ⟨rfl, ?_⟩⟩
      have := congrArg UInt8.toNat hc
      have e : ∀ d : Nat, d < 10 → (UInt8.ofNat (48 + d)).toNat = 48 + d := by decide
      rw [e n h] at this
      have e2 : (48 : UInt8).toNat = 48 := rfl
      omega
    · obtain ⟨c, l, h1, h2⟩ := ih (n / 10) (by omega)
      refine ⟨c, l ++ [UInt8.ofNat (48 + n % 10)], ?_, fun hc => ?_⟩
      · rw [decN_step n h, h1]
        show mkB (c :: l) ++ mkB [_] = _
        rw [← mkB_app]
        rfl
      · obtain ⟨_, h3⟩ := h2 hc
        omega
theorem decN_zero (c : UInt8) (l : List UInt8) (n : Nat) (h : decN n = mkB (c :: l)) (hc : c = 48) : l = [] ∧ n = 0 := by
  obtain ⟨c', l', h1, h2⟩ := decN_head n
  have e := mkB_inj (h1.symm.trans h)
  simp only [List.cons.injEq] at e
  obtain ⟨rfl, rfl⟩ := e
  exact h2 hc
theorem run_any {V : Type} {s : V → Option (Nat × V)} {Q : Nat → V → Prop} (Inv : Nat → V → Prop) (h : ∀ k v, Inv k v → Sat (s v) fun r => (∃ c, r.1 = c + 1 ∧ Q c r.2) ∨ (r.1 = 0 ∧ ∃ k', k = k' + 1 ∧ Inv k' r.2)) : ∀ (k : Nat) (v : V) (n : Nat), Inv k v → k < n → ∃ c v', iter s n v = some (c, v') ∧ Q c v'
  | k, v, 0, _, hn => by omega
  | k, v, n + 1, hI, hn => by
    obtain ⟨⟨c, v'⟩, h1, h2⟩ := h k v hI
    rcases h2 with ⟨c, rfl, h2⟩ | ⟨rfl, k', rfl, h4⟩
    · exact ⟨c, v', by rw [iter, h1] <;> rfl, h2⟩
    · obtain ⟨c, v2, h5, h6⟩ := run_any Inv h k' v' n h4 (by omega)
      exact ⟨c, v2, by rw [iter, h1]; exact h5, h6⟩
theorem wrap_dg {b : UInt8} (h : isDg b = true) : IntKind.wrap .i64 (IntKind.wrap .u8 ((b.toNat : Int) - (48 : Int))) = ((b.toNat - 48 : Nat) : Int) := by
  simp only [isDg, Bool.and_eq_true, decide_eq_true_eq] at h
  have e : ∀ d : Nat, d < 10 → IntKind.wrap .i64 (IntKind.wrap .u8 (d : Int)) = (d : Int) := by decide
  rw [show (b.toNat : Int) - 48 = ((b.toNat - 48 : Nat) : Int) by omega]
  exact e _ (by omega)
theorem wrap_val {a d : Nat} (h : a ≤ 99999999999) (hd : d < 10) : IntKind.wrap .i64 (IntKind.wrap .i64 ((10 : Int) * (a : Int)) + (d : Int)) = ((10 * a + d : Nat) : Int) := by
  rw [wrap_in (n := (10 : Int) * (a : Int)) (by omega) (by omega), wrap_in (by omega) (by omega)]
  omega
theorem loopNS (s t : ByteArray) (ht : t.size ≤ 10) : (t.data.toList.all isDg = true ∧ k38_0 s 0 false t 0 0 0 = false ∧ k38_0 s 0 false t 0 0 1 = true ∧ w38_0 s 0 false t 0 0 = (s, 0, false, t, (valN t.data.toList : Int), (t.size : Int), ())) ∨ (t.data.toList.all isDg = false ∧ k38_0 s 0 false t 0 0 0 = true ∧ (w38_0 s 0 false t 0 0).2.1 = (0 : Int) ∧ (w38_0 s 0 false t 0 0).2.2.1 = false) := by
  have hsz : t.data.toList.length = t.size := rfl
  obtain ⟨c, v', h1, h2⟩ := run_any (s := s38_0) (Q := fun c v => (c = 0 ∧ t.data.toList.all isDg = false ∧ v.2.1 = (0 : Int) ∧ v.2.2.1 = false) ∨ (c = 1 ∧ t.data.toList.all isDg = true ∧ v = (s, 0, false, t, (valN t.data.toList : Int), (t.size : Int), ()))) (fun k v => ∃ i : Nat, v = (s, 0, false, t, (valN (t.data.toList.take i) : Int), (i : Int), ()) ∧ i + k = t.size ∧ ∀ b ∈ t.data.toList.take i, isDg b = true) (fun k v hv => by
    obtain ⟨i, rfl, hk, hd⟩ := hv
    unfold s38_0 t38_0
    dsimp only
    by_cases hi : i < t.size
    · obtain ⟨b, b1, b2⟩ := get_of t i hi
      have h0 : (0 : Int) ≤ (i : Int) := by omega
      have hw : IntKind.wrap .i64 (b.toNat : Int) = (b.toNat : Int) := wrap_in (by omega) (by have := b.toNat_lt; omega)
      have ht1 : t.data.toList.take (i + 1) = t.data.toList.take i ++ [b] := take_snoc b2
      have e : v58 (b.toNat : Int) 48 57 = isDg b := by
        unfold v58 isDg
        by_cases h1 : 48 ≤ b.toNat
        · rw [decide_eq_true (show (b.toNat : Int) ≥ 48 by omega), cond_true, decide_eq_true h1, Bool.true_and]
          by_cases h2 : b.toNat ≤ 57
          · rw [decide_eq_true (show (b.toNat : Int) ≤ 57 by omega), decide_eq_true h2]
          · rw [decide_eq_false (show ¬ (b.toNat : Int) ≤ 57 by omega), decide_eq_false h2]
        · rw [decide_eq_false (show ¬ (b.toNat : Int) ≥ 48 by omega), cond_false, decide_eq_false h1, Bool.false_and]
      rw [decide_eq_true (show (i : Int) < (t.size : Int) by omega), cond_true, if_pos h0, Int.toNat_natCast, b1, optC_some, hw, e]
      cases hdb : isDg b
      · rw [Bool.not_false, cond_true, Sat_some]
        exact .inl ⟨0, rfl, .inl ⟨rfl, List.all_eq_false.2 ⟨b, List.mem_of_getElem? b2, by rw [hdb]; decide⟩, rfl, rfl⟩⟩
      · have hlt := valN_lt _ hd
        have hpl : (10 : Nat) ^ (t.data.toList.take i).length ≤ 10 ^ 10 := Nat.pow_le_pow_right (by omega) (by rw [List.length_take]; omega)
        have hp : (10 : Nat) ^ 10 = 10000000000 := by decide
        have hb10 : b.toNat - 48 < 10 := by
          have h := hdb
          simp only [isDg, Bool.and_eq_true, decide_eq_true_eq] at h
          omega
        rw [Bool.not_true, cond_false, optC_some, if_pos h0, Sat_some, wrap_dg hdb, wrap_val (by omega) hb10, wrap_nat (n := i) (by omega)]
        exact .inr ⟨rfl, k - 1, by omega, i + 1, by rw [ht1, valN_snoc], by omega, fun x hx => by
          rw [ht1] at hx
          rcases List.mem_append.1 hx with hx | hx
          · exact hd x hx
          · rw [List.mem_singleton.1 hx]; exact hdb⟩
    · have : i = t.size := by omega
      subst this
      rw [decide_eq_false (show ¬ ((t.size : Int) < (t.size : Int)) by omega), cond_false, Sat_some]
      have hall : t.data.toList.take t.size = t.data.toList := List.take_of_length_le (by omega)
      rw [hall] at hd ⊢
      exact .inl ⟨1, rfl, .inr ⟨rfl, List.all_eq_true.2 hd, rfl⟩⟩) t.size (s, (0 : Int), false, t, (0 : Int), (0 : Int), ()) (n38_0 (s, 0, false, t, 0, 0, ())) ⟨0, rfl, by omega, fun x hx => absurd hx (by simp)⟩ (by simp only [n38_0]; omega)
  rcases h2 with ⟨rfl, h3, h4, h5⟩ | ⟨rfl, h3, rfl⟩
  · have hw : w38_0 s 0 false t 0 0 = v' := val_of h1
    exact .inr ⟨h3, at_of h1 0, by rw [hw]; exact h4, by rw [hw]; exact h5⟩
  · exact .inl ⟨h3, at_of h1 0, at_of h1 1, val_of h1⟩
theorem loopNI (s t : ByteArray) (ht : t.size ≤ 10) : (t.data.toList.all isDg = true ∧ k41_3 s 0 false t 0 (t.size : Int) 0 0 = false ∧ k41_3 s 0 false t 0 (t.size : Int) 0 1 = true ∧ w41_3 s 0 false t 0 (t.size : Int) 0 = (s, 0, false, t, (valN t.data.toList : Int), (t.size : Int), (t.size : Int), ())) ∨ (t.data.toList.all isDg = false ∧ k41_3 s 0 false t 0 (t.size : Int) 0 0 = true ∧ (w41_3 s 0 false t 0 (t.size : Int) 0).2.1 = (0 : Int) ∧ (w41_3 s 0 false t 0 (t.size : Int) 0).2.2.1 = false) := by
  have hsz : t.data.toList.length = t.size := rfl
  obtain ⟨c, v', h1, h2⟩ := run_any (s := s41_3) (Q := fun c v => (c = 0 ∧ t.data.toList.all isDg = false ∧ v.2.1 = (0 : Int) ∧ v.2.2.1 = false) ∨ (c = 1 ∧ t.data.toList.all isDg = true ∧ v = (s, 0, false, t, (valN t.data.toList : Int), (t.size : Int), (t.size : Int), ()))) (fun k v => ∃ i : Nat, v = (s, 0, false, t, (valN (t.data.toList.take i) : Int), (t.size : Int), (i : Int), ()) ∧ i + k = t.size ∧ ∀ b ∈ t.data.toList.take i, isDg b = true) (fun k v hv => by
    obtain ⟨i, rfl, hk, hd⟩ := hv
    unfold s41_3 t41_3
    dsimp only
    by_cases hi : i < t.size
    · obtain ⟨b, b1, b2⟩ := get_of t i hi
      have h0 : (0 : Int) ≤ (i : Int) := by omega
      have ht1 : t.data.toList.take (i + 1) = t.data.toList.take i ++ [b] := take_snoc b2
      have e : ∀ x z q b', g41_4 (s, 0, false, t, x, (i : Int), z, q, b', (i : Int), ()) = true ∧ (c41_4 (s, 0, false, t, x, (i : Int), z, q, b', (i : Int), ())).2.2.2 = !isDg b := fun x z q b' => by
        unfold g41_4 c41_4 t41_4
        dsimp only
        rw [if_pos h0, Int.toNat_natCast, b1, optC_some]
        unfold isDg
        by_cases h1 : 48 ≤ b.toNat
        · rw [decide_eq_false (show ¬ ((b.toNat : Int) < 48) by omega), cond_false, if_pos h0, optC_some, decide_eq_true h1, Bool.true_and]
          by_cases h2 : b.toNat ≤ 57
          · rw [decide_eq_false (show ¬ (b.toNat : Int) > 57 by omega), decide_eq_true h2]
            exact ⟨rfl, rfl⟩
          · rw [decide_eq_true (show (b.toNat : Int) > 57 by omega), decide_eq_false h2]
            exact ⟨rfl, rfl⟩
        · rw [decide_eq_true (show (b.toNat : Int) < 48 by omega), cond_true, decide_eq_false h1]
          exact ⟨rfl, rfl⟩
      rw [decide_eq_true (show (i : Int) < (t.size : Int) by omega), cond_true, (e _ _ _ _).1, cond_true, (e _ _ _ _).2]
      cases hdb : isDg b
      · rw [Bool.not_false, cond_true, Sat_some]
        exact .inl ⟨0, rfl, .inl ⟨rfl, List.all_eq_false.2 ⟨b, List.mem_of_getElem? b2, by rw [hdb]; decide⟩, rfl, rfl⟩⟩
      · have hlt := valN_lt _ hd
        have hpl : (10 : Nat) ^ (t.data.toList.take i).length ≤ 10 ^ 10 := Nat.pow_le_pow_right (by omega) (by rw [List.length_take]; omega)
        have hp : (10 : Nat) ^ 10 = 10000000000 := by decide
        have hb10 : b.toNat - 48 < 10 := by
          have h := hdb
          simp only [isDg, Bool.and_eq_true, decide_eq_true_eq] at h
          omega
        rw [Bool.not_true, cond_false, if_pos h0, Int.toNat_natCast, b1, optC_some, Sat_some, wrap_dg hdb, wrap_val (by omega) hb10, wrap_nat (n := i) (by omega)]
        exact .inr ⟨rfl, k - 1, by omega, i + 1, by rw [ht1, valN_snoc], by omega, fun x hx => by
          rw [ht1] at hx
          rcases List.mem_append.1 hx with hx | hx
          · exact hd x hx
          · rw [List.mem_singleton.1 hx]; exact hdb⟩
    · have : i = t.size := by omega
      subst this
      rw [decide_eq_false (show ¬ ((t.size : Int) < (t.size : Int)) by omega), cond_false, Sat_some]
      have hall : t.data.toList.take t.size = t.data.toList := List.take_of_length_le (by omega)
      rw [hall] at hd ⊢
      exact .inl ⟨1, rfl, .inr ⟨rfl, List.all_eq_true.2 hd, rfl⟩⟩) t.size (s, (0 : Int), false, t, (0 : Int), (t.size : Int), (0 : Int), ()) (n41_3 (s, 0, false, t, 0, (t.size : Int), 0, ())) ⟨0, rfl, by omega, fun x hx => absurd hx (by simp)⟩ (by simp only [n41_3]; omega)
  rcases h2 with ⟨rfl, h3, h4, h5⟩ | ⟨rfl, h3, rfl⟩
  · have hw : w41_3 s 0 false t 0 (t.size : Int) 0 = v' := val_of h1
    exact .inr ⟨h3, at_of h1 0, by rw [hw]; exact h4, by rw [hw]; exact h5⟩
  · exact .inl ⟨h3, at_of h1 0, at_of h1 1, val_of h1⟩
theorem mkB_data (s : ByteArray) : s = mkB s.data.toList := (mkB_self s).symm
theorem size_mkB (l : List UInt8) : (mkB l).size = l.length := by simp [mkB, ByteArray.size]
theorem data_mkB (l : List UInt8) : (mkB l).data.toList = l := by simp [mkB]
/-- What is read of s, whose digits are t. -/
def resN (s : ByteArray) (t : List UInt8) : Int × Bool :=
  if t.length = 0 ∨ 10 < t.length then (0, false) else if t.all isDg = false then (0, false) else if t.head? = some 48 ∧ s ≠ mkB [48] then (0, false) else if 2147483647 < valN t then (0, false) else ((if mkB t = s then (valN t : Int) else -(valN t : Int)), true)
theorem txtN (s : ByteArray) (t : List UInt8) (h0 : t ≠ []) (hd : t.all isDg = true) (neg : Bool) (hs : s = cond neg (mkB (45 :: t)) (mkB t)) : decide (txt (cond neg (-(valN t : Int)) (valN t : Int)) = s) = !decide (t.head? = some 48 ∧ s ≠ mkB [48]) := by
  cases t with
  | nil => exact absurd rfl h0
  | cons c l =>
    have hd : ∀ b ∈ c :: l, isDg b = true := List.all_eq_true.1 hd
    have t0 : txt 0 = mkB [48] := by
      unfold txt
      rw [if_neg (by omega), decN_small _ (by decide)]
      rfl
    by_cases hc : c = 48
    · subst hc
      cases neg with
      | false =>
        have hs : s = mkB (48 :: l) := hs
        subst hs
        show decide (txt (valN (48 :: l) : Int) = _) = _
        cases l with
        | nil =>
          have t0' : txt (valN [48] : Int) = mkB [48] := t0
          rw [decide_eq_true t0', decide_eq_false (fun h => h.2 rfl)]
          rfl
        | cons b l =>
          have hne : mkB (48 :: b :: l) ≠ mkB [48] := fun e => by have := mkB_inj e; simp at this
          rw [decide_eq_false, decide_eq_true ⟨rfl, hne⟩]
          · rfl
          · intro e
            unfold txt at e
            rw [if_neg (by omega), Int.natAbs_natCast] at e
            have := (decN_zero _ _ _ e rfl).1
            cases this
      | true =>
        have hs : s = mkB (45 :: 48 :: l) := hs
        subst hs
        have hne : mkB (45 :: 48 :: l) ≠ mkB [48] := fun e => by have := mkB_inj e; simp at this
        show decide (txt (-(valN (48 :: l) : Int)) = _) = _
        rw [decide_eq_false, decide_eq_true ⟨rfl, hne⟩]
        · rfl
        · intro e
          by_cases hv : valN (48 :: l) = 0
          · rw [hv] at e
            have e : txt 0 = mkB (45 :: 48 :: l) := e
            rw [t0] at e
            have := mkB_inj e
            simp at this
          · unfold txt at e
            rw [if_pos (by omega), Int.natAbs_neg, Int.natAbs_natCast] at e
            have e2 : minus ++ decN (valN (48 :: l)) = mkB [45] ++ mkB (48 :: l) := by rw [e, ← mkB_app]; rfl
            have e3 : (minus ++ decN (valN (48 :: l))).data.toList = (mkB [45] ++ mkB (48 :: l)).data.toList := by rw [e2]
            obtain ⟨c', l', h1, h2⟩ := decN_head (valN (48 :: l))
            rw [h1, show minus = mkB [45] from rfl, ← mkB_app, ← mkB_app, data_mkB, data_mkB] at e3
            simp only [List.singleton_append, List.cons_append, List.nil_append, List.cons.injEq] at e3
            obtain ⟨_, rfl, rfl⟩ := e3
            exact hv (h2 rfl).2
    · have hhd : ¬ ((c :: l).head? = some 48 ∧ s ≠ mkB [48]) := fun h => hc (by simpa using h.1)
      obtain ⟨v1, v2⟩ := decN_val l c hd hc
      rw [decide_eq_false hhd, decide_eq_true]
      · rfl
      · cases neg with
        | false =>
          show txt (valN (c :: l) : Int) = s
          unfold txt
          rw [if_neg (by omega), Int.natAbs_natCast, v2]
          exact hs.symm
        | true =>
          show txt (-(valN (c :: l) : Int)) = s
          unfold txt
          rw [if_pos (by omega), Int.natAbs_neg, Int.natAbs_natCast, v2, hs]
          show mkB [45] ++ mkB (c :: l) = mkB (45 :: c :: l)
          rw [← mkB_app]
          rfl
noncomputable def bodyS (s t : ByteArray) : Option (Int × Bool) :=
  cond ((t.size : Int) == (0 : Int)) (some (0, false)) (cond (decide ((t.size : Int) > (10 : Int))) (some (0, false)) (optC (t[0]?) (fun x2 => cond ((x2.toNat : Int) == (48 : Int)) (cond (!(s.toList == (ByteArray.mk #[48]).toList)) (some (0, false)) (cond (k38_0 s 0 false t 0 0 0) (some ((w38_0 s 0 false t 0 0).2.1, (w38_0 s 0 false t 0 0).2.2.1)) (cond (k38_0 s 0 false t 0 0 1) (cond (decide ((w38_0 s 0 false t 0 0).2.2.2.2.1 > (2147483647 : Int))) (some (0, false)) (cond (!((w38_0 s 0 false t 0 0).2.2.2.1.toList == (w38_0 s 0 false t 0 0).1.toList)) (some (IntKind.wrap .i64 ((0 : Int) - (w38_0 s 0 false t 0 0).2.2.2.2.1), true)) (some ((w38_0 s 0 false t 0 0).2.2.2.2.1, true)))) (none)))) (cond (k38_0 s 0 false t 0 0 0) (some ((w38_0 s 0 false t 0 0).2.1, (w38_0 s 0 false t 0 0).2.2.1)) (cond (k38_0 s 0 false t 0 0 1) (cond (decide ((w38_0 s 0 false t 0 0).2.2.2.2.1 > (2147483647 : Int))) (some (0, false)) (cond (!((w38_0 s 0 false t 0 0).2.2.2.1.toList == (w38_0 s 0 false t 0 0).1.toList)) (some (IntKind.wrap .i64 ((0 : Int) - (w38_0 s 0 false t 0 0).2.2.2.2.1), true)) (some ((w38_0 s 0 false t 0 0).2.2.2.2.1, true)))) (none))))))
theorem bodyS_res (s t : ByteArray) : bodyS s t = some (resN s t.data.toList) := by
  have hsz : t.data.toList.length = t.size := rfl
  unfold bodyS resN
  by_cases h0 : t.size = 0
  · rw [show ((t.size : Int) == (0 : Int)) = true from by rw [h0]; rfl, cond_true, if_pos (.inl (by omega))]
  · rw [show ((t.size : Int) == (0 : Int)) = false from beq_eq_false_iff_ne.2 (by omega), cond_false]
    by_cases h1 : t.size > 10
    · rw [decide_eq_true (show (t.size : Int) > 10 by omega), cond_true, if_pos (.inr (by omega))]
    · rw [decide_eq_false (show ¬ ((t.size : Int) > 10) by omega), cond_false, if_neg (by omega)]
      obtain ⟨b, b1, b2⟩ := get_of t 0 (by omega)
      have hhd : t.data.toList.head? = some b := by rw [List.head?_eq_getElem?]; exact b2
      rw [b1, optC_some, hhd, beq_toList s (ByteArray.mk #[48])]
      have key : (cond (k38_0 s 0 false t 0 0 0) (some ((w38_0 s 0 false t 0 0).2.1, (w38_0 s 0 false t 0 0).2.2.1)) (cond (k38_0 s 0 false t 0 0 1) (cond (decide ((w38_0 s 0 false t 0 0).2.2.2.2.1 > (2147483647 : Int))) (some (0, false)) (cond (!((w38_0 s 0 false t 0 0).2.2.2.1.toList == (w38_0 s 0 false t 0 0).1.toList)) (some (IntKind.wrap .i64 ((0 : Int) - (w38_0 s 0 false t 0 0).2.2.2.2.1), true)) (some ((w38_0 s 0 false t 0 0).2.2.2.2.1, true)))) (none))) = some (if t.data.toList.all isDg = false then (0, false) else if 2147483647 < valN t.data.toList then (0, false) else ((if mkB t.data.toList = s then (valN t.data.toList : Int) else -(valN t.data.toList : Int)), true)) := by
        rcases loopNS s t (by omega) with ⟨hd, k0, k1, hw⟩ | ⟨hd, k0, w1, w2⟩
        · rw [k0, k1, hw, cond_false, cond_true, hd, if_neg (by decide)]
          dsimp only
          have hlt := valN_lt _ (List.all_eq_true.1 hd)
          have hpl : (10 : Nat) ^ t.data.toList.length ≤ 10 ^ 10 := Nat.pow_le_pow_right (by omega) (by omega)
          have hp : (10 : Nat) ^ 10 = 10000000000 := by decide
          by_cases hm : 2147483647 < valN t.data.toList
          · rw [decide_eq_true (show (valN t.data.toList : Int) > 2147483647 by omega), cond_true, if_pos hm]
          · rw [decide_eq_false (show ¬ ((valN t.data.toList : Int) > 2147483647) by omega), cond_false, if_neg hm, beq_toList, mkB_self]
            by_cases hst : t = s
            · rw [decide_eq_true hst, if_pos hst]
              rfl
            · rw [decide_eq_false hst, if_neg hst, Bool.not_false, cond_true, wrap_in (by omega) (by omega), Int.zero_sub]
        · rw [k0, cond_true, w1, w2, hd, if_pos rfl]
      rw [key]
      by_cases hb : b = 48
      · subst hb
        rw [show (((48 : UInt8).toNat : Int) == (48 : Int)) = true from rfl, cond_true]
        by_cases hs : s = ByteArray.mk #[48]
        · rw [decide_eq_true hs, Bool.not_true, cond_false]
          congr 1
          rw [if_neg (show ¬ (some (48 : UInt8) = some 48 ∧ s ≠ mkB [48]) from fun h => h.2 hs)]
        · rw [decide_eq_false hs, Bool.not_false, cond_true]
          congr 1
          rw [if_pos (show some (48 : UInt8) = some 48 ∧ s ≠ mkB [48] from ⟨rfl, hs⟩)]
          split <;> rfl
      · have hne : ((b.toNat : Int) == (48 : Int)) = false := beq_eq_false_iff_ne.2 (fun e => hb (by
          have : b.toNat = 48 := by omega
          exact UInt8.toNat_inj.1 this))
        rw [hne, cond_false]
        congr 1
        rw [if_neg (show ¬ (some b = some 48 ∧ s ≠ mkB [48]) from fun h => hb (by simpa using h.1))]
theorem parseI (s t : ByteArray) (neg : Bool) (hs : s = cond neg (mkB (45 :: t.data.toList)) t) (he : e41_0 s = t) (hg : g41_0 (s, 0, false, s, ()) = true ∧ g41_1 (s, 0, false, s, (c41_0 (s, 0, false, s, ())), ()) = true) : t41 s some = some (resN s t.data.toList) := by
  have hsz : t.data.toList.length = t.size := rfl
  have hss : s.size = t.size + cond neg 1 0 := by
    cases neg with
    | false => rw [hs]; rfl
    | true => rw [hs]; show (mkB _).size = _; rw [size_mkB, List.length_cons]; rfl
  have hne : (mkB t.data.toList = s) = (neg = false) := by
    rw [mkB_self]
    apply propext
    constructor
    · intro h
      cases neg with
      | false => rfl
      | true => exfalso; rw [← h] at hss; simp at hss
    · intro h
      subst h
      exact hs.symm
  have c2 : c41_2 (s, 0, false, t, ()) = decide (t.size = 0 ∨ 10 < t.size) := by
    unfold c41_2 t41_2
    dsimp only [id]
    rw [beq_toList]
    by_cases h0 : t.size = 0
    · have : t = ByteArray.empty := by
        rw [mkB_data t, List.eq_nil_of_length_eq_zero (hsz.trans h0)]
        rfl
      rw [decide_eq_true this, cond_true, decide_eq_true (.inl h0)]
    · have : t ≠ ByteArray.empty := fun e => h0 (by rw [e]; rfl)
      rw [decide_eq_false this, cond_false]
      by_cases h1 : 10 < t.size
      · rw [decide_eq_true (show (t.size : Int) > 10 by omega), decide_eq_true (.inr h1)]
      · rw [decide_eq_false (show ¬ ((t.size : Int) > 10) by omega), decide_eq_false (by omega)]
  unfold t41
  rw [hg.1, hg.2, he, c2, cond_true, cond_true]
  unfold resN
  by_cases hl : t.size = 0 ∨ 10 < t.size
  · rw [decide_eq_true hl, cond_true, if_pos (by omega)]
  · rw [decide_eq_false hl, cond_false, if_neg (by omega)]
    rcases loopNI s t (by omega) with ⟨hd, k0, k1, hw⟩ | ⟨hd, k0, w1, w2⟩
    · rw [k0, k1, cond_false, cond_true, hd, if_neg (by decide)]
      have hlt := valN_lt _ (List.all_eq_true.1 hd)
      have hpl : (10 : Nat) ^ t.data.toList.length ≤ 10 ^ 10 := Nat.pow_le_pow_right (by omega) (by omega)
      have hp : (10 : Nat) ^ 10 = 10000000000 := by decide
      have hds : decide ((t.size : Int) < (s.size : Int)) = neg := by
        rw [hss]
        cases neg with
        | false => exact decide_eq_false (by simp)
        | true => exact decide_eq_true (show (t.size : Int) < ((t.size + 1 : Nat) : Int) by omega)
      have e1 : e41_1 s = cond neg (-(valN t.data.toList : Int)) (valN t.data.toList : Int) := by
        unfold e41_1
        rw [he, hw]
        dsimp only
        rw [hds]
        unfold c41_5 t41_5
        dsimp only [id]
        cases neg with
        | false => rfl
        | true =>
          have e0 : IntKind.wrap .i64 ((0 : Int) - (valN t.data.toList : Int)) = -(valN t.data.toList : Int) := by rw [wrap_in (by omega) (by omega), Int.zero_sub]
          exact e0
      have r : I64 (cond neg (-(valN t.data.toList : Int)) (valN t.data.toList : Int)) := by cases neg <;> unfold I64 <;> simp only [cond_true, cond_false] <;> omega
      have tx := txtN s t.data.toList (fun e => by rw [e] at hsz; simp at hsz; omega) hd neg (by rw [hs]; cases neg with | false => exact mkB_data t | true => rfl)
      have c6 : g41_6 (s, 0, false, e41_1 s, ()) = true ∧ c41_6 (s, 0, false, e41_1 s, ()) = (decide (2147483647 < valN t.data.toList) || decide (t.data.toList.head? = some 48 ∧ s ≠ mkB [48])) := by
        rw [e1]
        unfold g41_6 c41_6 t41_6
        dsimp only
        rw [(numI _ r).1, (numI _ r).2, beq_toList, tx]
        by_cases hm : 2147483647 < valN t.data.toList
        · have hb : (v59 (cond neg (-(valN t.data.toList : Int)) (valN t.data.toList : Int)) != cond neg (-(valN t.data.toList : Int)) (valN t.data.toList : Int)) = true := by
            rw [bne_iff_ne]
            unfold v59
            cases neg <;> simp only [cond_true, cond_false] <;> split <;> split <;> omega
          rw [hb, cond_true, decide_eq_true hm, Bool.true_or]
          exact ⟨rfl, rfl⟩
        · have hb : (v59 (cond neg (-(valN t.data.toList : Int)) (valN t.data.toList : Int)) != cond neg (-(valN t.data.toList : Int)) (valN t.data.toList : Int)) = false := by
            have : v59 (cond neg (-(valN t.data.toList : Int)) (valN t.data.toList : Int)) = cond neg (-(valN t.data.toList : Int)) (valN t.data.toList : Int) := by
              unfold v59
              cases neg <;> simp only [cond_true, cond_false] <;> split <;> split <;> omega
            rw [this, bne_self_eq_false]
          rw [hb, cond_false, cond_true, decide_eq_false hm, Bool.false_or, Bool.not_not]
          exact ⟨rfl, rfl⟩
      rw [hw]
      dsimp only
      rw [c6.1, c6.2, cond_true]
      by_cases hm : 2147483647 < valN t.data.toList
      · rw [decide_eq_true hm, Bool.true_or, cond_true]
        congr 1
        split <;> first | rfl | rw [if_pos hm]
      · rw [decide_eq_false hm, Bool.false_or]
        by_cases hz : t.data.toList.head? = some 48 ∧ s ≠ mkB [48]
        · rw [decide_eq_true hz, cond_true, if_pos hz]
        · rw [decide_eq_false hz, cond_false, if_neg hz, if_neg hm, e1]
          congr 2
          cases neg with
          | false => rw [if_pos (hne.symm ▸ rfl)]; rfl
          | true => rw [if_neg (by rw [hne]; decide)]; rfl
    · rw [k0, cond_true, w1, w2, hd, if_pos rfl]
theorem parseNum (s : ByteArray) (hs : s.size ≤ 1048576) : d38 s = true ∧ d41 s = true ∧ v41 s = v38 s := by
  have key : ∃ r, t38 s some = some r ∧ t41 s some = some r := by
    have hl : s.data.toList.length = s.size := rfl
    have eS : t38 s some = cond (decide ((s.size : Int) > (0 : Int))) (optC (s[0]?) (fun x1 => cond ((x1.toNat : Int) == (45 : Int)) (if (1 : Int) ≤ (s.size : Int) then bodyS s (s.extract 1 s.size) else none) (bodyS s s))) (bodyS s s) := rfl
    by_cases h0 : s.size = 0
    · refine ⟨_, by rw [eS, decide_eq_false (show ¬ ((s.size : Int) > 0) by omega), cond_false, bodyS_res], ?_⟩
      have hemp : s = ByteArray.empty := by
        rw [mkB_data s, List.eq_nil_of_length_eq_zero (hl.trans h0)]
        rfl
      have g0 : g41_0 (s, 0, false, s, ()) = true ∧ c41_0 (s, 0, false, s, ()) = false := by
        unfold g41_0 c41_0 t41_0
        dsimp only
        rw [beq_toList, decide_eq_true hemp]
        exact ⟨rfl, rfl⟩
      have g1 : g41_1 (s, 0, false, s, (c41_0 (s, 0, false, s, ())), ()) = true ∧ e41_0 s = s := by
        unfold e41_0
        rw [g0.2]
        exact ⟨rfl, rfl⟩
      exact parseI s s false rfl g1.2 ⟨g0.1, g1.1⟩
    · obtain ⟨b, b1, b2⟩ := get_of s 0 (by omega)
      have hne : s ≠ ByteArray.empty := fun e => h0 (by rw [e]; rfl)
      have g0 : g41_0 (s, 0, false, s, ()) = true ∧ c41_0 (s, 0, false, s, ()) = ((b.toNat : Int) == (45 : Int)) := by
        unfold g41_0 c41_0 t41_0
        dsimp only
        rw [beq_toList, decide_eq_false hne, Bool.not_false, cond_true, b1, optC_some]
        exact ⟨rfl, rfl⟩
      have h1 : (1 : Int) ≤ (s.size : Int) := by omega
      rw [eS, decide_eq_true (show (s.size : Int) > 0 by omega), cond_true, b1, optC_some]
      cases hb : ((b.toNat : Int) == (45 : Int))
      · rw [cond_false, bodyS_res]
        have g1 : g41_1 (s, 0, false, s, (c41_0 (s, 0, false, s, ())), ()) = true ∧ e41_0 s = s := by
          unfold e41_0
          rw [g0.2, hb]
          exact ⟨rfl, rfl⟩
        exact ⟨_, rfl, parseI s s false rfl g1.2 ⟨g0.1, g1.1⟩⟩
      · rw [cond_true, if_pos h1, bodyS_res]
        have hb45 : b = 45 := by
          have := beq_iff_eq.1 hb
          have : b.toNat = 45 := by omega
          exact UInt8.toNat_inj.1 this
        have g1 : g41_1 (s, 0, false, s, (c41_0 (s, 0, false, s, ())), ()) = true ∧ e41_0 s = s.extract 1 s.size := by
          unfold e41_0 g41_1 c41_1 t41_1
          rw [g0.2, hb]
          dsimp only
          rw [cond_true, if_pos h1]
          exact ⟨rfl, rfl⟩
        refine ⟨_, rfl, parseI s _ true ?_ g1.2 ⟨g0.1, g1.1⟩⟩
        show s = mkB (45 :: (s.extract 1 s.size).data.toList)
        have e2 : (s.extract 1 s.size).data.toList = s.data.toList.drop 1 := by
          rw [ex_of, data_mkB, List.take_of_length_le (by omega)]
        rw [e2, ← hb45]
        have e3 : s.data.toList = b :: s.data.toList.drop 1 := by
          cases hq : s.data.toList with
          | nil => rw [hq] at b2; cases b2
          | cons x l =>
            rw [hq] at b2
            simp only [List.getElem?_cons_zero, Option.some.injEq] at b2
            rw [b2]
            rfl
        rw [← e3]
        exact mkB_data s
  obtain ⟨r, k1, k2⟩ := key
  unfold d38 d41 v41 v38
  rw [k1, k2]
  exact ⟨rfl, rfl, rfl⟩
def inR (n a b : Int) : Prop := a ≤ n ∧ n ≤ b
theorem evIn' (a b c d n z : Int) (t : Bool) (h : v39 ((a, b, c, d, n, z, t) : Ty.T y27) = true) : inR b 0 99 ∧ inR c 0 99 ∧ inR d (-1) 2 ∧ inR n 0 2147483647 ∧ inR z 0 4 := by
  have cc : ∀ (p q r : Bool), cond p q r = true ↔ (p = true ∧ q = true) ∨ (p = false ∧ r = true) := by decide
  have cf : ∀ (p q r : Bool), cond p q r = false ↔ (p = true ∧ q = false) ∨ (p = false ∧ r = false) := by decide
  unfold v39 at h
  try unfold t39 at h
  simp only [v58] at h
  dsimp only [Ty.T] at h
  unfold inR
  cases t <;> simp [cc, cf] at h <;> omega
theorem evIn (e : Ty.T y27) (h : v39 e = true) : inR e.2.1 0 99 ∧ inR e.2.2.1 0 99 ∧ inR e.2.2.2.1 (-1) 2 ∧ inR e.2.2.2.2.1 0 2147483647 ∧ inR e.2.2.2.2.2.1 0 4 := by
  obtain ⟨a, b, c, d, n, z, t⟩ := e
  exact evIn' a b c d n z t h
theorem evOk' (a b c d n z : Int) (t : Bool) : v19 ((a, b, c, d, n, z, t) : Ty.T y27) = v39 ((a, b, c, d, n, z, t) : Ty.T y27) := by
  simp only [v19, v39, t39, t19, v58, v53, v32, v33, v34, v54, v35, v36]
  dsimp only [Ty.T]
  have cc : ∀ (p q r : Bool), cond p q r = true ↔ (p = true ∧ q = true) ∨ (p = false ∧ r = true) := by decide
  have cf : ∀ (p q r : Bool), cond p q r = false ↔ (p = true ∧ q = false) ∨ (p = false ∧ r = false) := by decide
  by_cases h1 : a = 1
  · subst h1; rw [Bool.eq_iff_iff]; cases t <;> simp [cc, cf, *] <;> omega
  by_cases h2 : a = 2
  · subst h2; rw [Bool.eq_iff_iff]; cases t <;> simp [cc, cf, *] <;> omega
  by_cases h3 : a = 3
  · subst h3; rw [Bool.eq_iff_iff]; cases t <;> simp [cc, cf, *] <;> omega
  by_cases h4 : a = 4
  · subst h4; rw [Bool.eq_iff_iff]; cases t <;> simp [cc, cf, *] <;> omega
  by_cases h5 : a = 5
  · subst h5; rw [Bool.eq_iff_iff]; cases t <;> simp [cc, cf, *] <;> omega
  by_cases h6 : a = 6
  · subst h6; rw [Bool.eq_iff_iff]; cases t <;> simp [cc, cf, *] <;> omega
  rw [Bool.eq_iff_iff]; cases t <;> simp [cc, cf, *] <;> omega
theorem evOk (e : Ty.T y27) : v19 e = v39 e := by
  obtain ⟨a, b, c, d, n, z, t⟩ := e
  exact evOk' a b c d n z t
theorem lit0 : ByteArray.mk #[104, 117, 114, 116, 32] = (ByteArray.mk #[104, 117, 114, 116]) ++ ByteArray.mk #[32] := by decide
theorem lit1 : ByteArray.mk #[32, 115, 105, 100, 101, 32] = ByteArray.mk #[32] ++ (ByteArray.mk #[115, 105, 100, 101] ++ ByteArray.mk #[32]) := by decide
theorem lit2 : ByteArray.mk #[32, 112, 105, 101, 99, 101, 32] = ByteArray.mk #[32] ++ (ByteArray.mk #[112, 105, 101, 99, 101] ++ ByteArray.mk #[32]) := by decide
theorem lit3 : ByteArray.mk #[109, 111, 118, 101, 32] = (ByteArray.mk #[109, 111, 118, 101]) ++ ByteArray.mk #[32] := by decide
theorem lit4 : ByteArray.mk #[32, 98, 101, 110, 116] = (ByteArray.mk #[32]) ++ ByteArray.mk #[98, 101, 110, 116] := by decide
theorem lit5 : ByteArray.mk #[103, 97, 105, 110, 32] = (ByteArray.mk #[103, 97, 105, 110]) ++ ByteArray.mk #[32] := by decide
theorem lit6 : ByteArray.mk #[108, 111, 115, 101, 32] = (ByteArray.mk #[108, 111, 115, 101]) ++ ByteArray.mk #[32] := by decide
theorem lit7 : ByteArray.mk #[112, 117, 116, 32] = (ByteArray.mk #[112, 117, 116]) ++ ByteArray.mk #[32] := by decide
theorem lit8 : ByteArray.mk #[99, 117, 116, 32] = (ByteArray.mk #[99, 117, 116]) ++ ByteArray.mk #[32] := by decide
theorem evText (e : Ty.T y27) : d23 e = true ∧ d16 e = true ∧ v16 e = v23 e ∧ (v23 e).size ≤ 200 := by
  have key : t16 e some = t23 e some ∧ Sat (t23 e some) fun r => r.size ≤ 200 := by
    unfold t23 t16
    rw [evOk]
    cases ho : v39 e
    · exact ⟨rfl, by rw [Bool.not_false, cond_true, Sat_some]; decide⟩
    · obtain ⟨q0, q1, q2, q3, q4⟩ := evIn e ho
      unfold inR at q0 q1 q2 q3 q4
      have r0 : I64 e.2.1 := by unfold I64; omega
      have h0 := txt_size r0
      have r1 : I64 e.2.2.1 := by unfold I64; omega
      have h1 := txt_size r1
      have r2 : I64 e.2.2.2.1 := by unfold I64; omega
      have h2 := txt_size r2
      have r3 : I64 e.2.2.2.2.1 := by unfold I64; omega
      have h3 := txt_size r3
      have r4 : I64 e.2.2.2.2.2.1 := by unfold I64; omega
      have h4 := txt_size r4
      simp only [Bool.not_true, cond_false, (numS _ r0).1, (numS _ r0).2, (numI _ r0).1, (numI _ r0).2, (numS _ r1).1, (numS _ r1).2, (numI _ r1).1, (numI _ r1).2, (numS _ r2).1, (numS _ r2).2, (numI _ r2).1, (numI _ r2).2, (numS _ r3).1, (numS _ r3).2, (numI _ r3).1, (numI _ r3).2, (numS _ r4).1, (numS _ r4).2, (numI _ r4).1, (numI _ r4).2, cond_true]
      unfold d29 v29
      clear ho q0 q1 q2 q3 q4 r0 r1 r2 r3 r4
      revert h0 h1 h2 h3 h4
      generalize txt e.2.1 = t0, txt e.2.2.1 = t1, txt e.2.2.2.1 = t2, txt e.2.2.2.2.1 = t3, txt e.2.2.2.2.2.1 = t4
      intro h0 h1 h2 h3 h4
      cases (e.1 == (1 : Int))
      · simp only [cond_false]
        cases (e.1 == (2 : Int))
        · simp only [cond_false]
          cases (e.1 == (3 : Int))
          · simp only [cond_false]
            cases (e.1 == (4 : Int))
            · simp only [cond_false]
              cases (e.1 == (5 : Int))
              · simp only [cond_false]
                (repeat rw [if_pos (by simp only [List.nil_append, List.cons_append, List.length_append, joinB_one, joinB_cons, ByteArray.size_append, lits, List.size_toArray, List.length_cons, List.length_nil]; omega)]); (try rw [decide_eq_true (show _ ∧ _ from by simp only [List.nil_append, List.cons_append, List.length_append, joinB_one, joinB_cons, ByteArray.size_append, lits, List.size_toArray, List.length_cons, List.length_nil]; omega)]); rw [cond_true]; refine ⟨?_, ?_⟩; (congr 1; (try simp only [List.nil_append, List.cons_append, joinB_one, joinB_cons, ByteArray.append_assoc, lit0, lit1, lit2, lit3, lit4, lit5, lit6, lit7, lit8])); (rw [Sat_some]; simp only [ByteArray.size_append, lits, List.size_toArray, List.length_cons, List.length_nil]; omega)
              · simp only [cond_true]
                (repeat rw [if_pos (by simp only [List.nil_append, List.cons_append, List.length_append, joinB_one, joinB_cons, ByteArray.size_append, lits, List.size_toArray, List.length_cons, List.length_nil]; omega)]); (try rw [decide_eq_true (show _ ∧ _ from by simp only [List.nil_append, List.cons_append, List.length_append, joinB_one, joinB_cons, ByteArray.size_append, lits, List.size_toArray, List.length_cons, List.length_nil]; omega)]); rw [cond_true]; refine ⟨?_, ?_⟩; (congr 1; (try simp only [List.nil_append, List.cons_append, joinB_one, joinB_cons, ByteArray.append_assoc, lit0, lit1, lit2, lit3, lit4, lit5, lit6, lit7, lit8])); (rw [Sat_some]; simp only [ByteArray.size_append, lits, List.size_toArray, List.length_cons, List.length_nil]; omega)
            · simp only [cond_true]
              (repeat rw [if_pos (by simp only [List.nil_append, List.cons_append, List.length_append, joinB_one, joinB_cons, ByteArray.size_append, lits, List.size_toArray, List.length_cons, List.length_nil]; omega)]); (try rw [decide_eq_true (show _ ∧ _ from by simp only [List.nil_append, List.cons_append, List.length_append, joinB_one, joinB_cons, ByteArray.size_append, lits, List.size_toArray, List.length_cons, List.length_nil]; omega)]); rw [cond_true]; refine ⟨?_, ?_⟩; (congr 1; (try simp only [List.nil_append, List.cons_append, joinB_one, joinB_cons, ByteArray.append_assoc, lit0, lit1, lit2, lit3, lit4, lit5, lit6, lit7, lit8])); (rw [Sat_some]; simp only [ByteArray.size_append, lits, List.size_toArray, List.length_cons, List.length_nil]; omega)
          · simp only [cond_true]
            (repeat rw [if_pos (by simp only [List.nil_append, List.cons_append, List.length_append, joinB_one, joinB_cons, ByteArray.size_append, lits, List.size_toArray, List.length_cons, List.length_nil]; omega)]); (try rw [decide_eq_true (show _ ∧ _ from by simp only [List.nil_append, List.cons_append, List.length_append, joinB_one, joinB_cons, ByteArray.size_append, lits, List.size_toArray, List.length_cons, List.length_nil]; omega)]); rw [cond_true]; refine ⟨?_, ?_⟩; (congr 1; (try simp only [List.nil_append, List.cons_append, joinB_one, joinB_cons, ByteArray.append_assoc, lit0, lit1, lit2, lit3, lit4, lit5, lit6, lit7, lit8])); (rw [Sat_some]; simp only [ByteArray.size_append, lits, List.size_toArray, List.length_cons, List.length_nil]; omega)
        · simp only [cond_true]
          cases e.2.2.2.2.2.2
          · simp only [cond_false]
            (repeat rw [if_pos (by simp only [List.nil_append, List.cons_append, List.length_append, joinB_one, joinB_cons, ByteArray.size_append, lits, List.size_toArray, List.length_cons, List.length_nil]; omega)]); (try rw [decide_eq_true (show _ ∧ _ from by simp only [List.nil_append, List.cons_append, List.length_append, joinB_one, joinB_cons, ByteArray.size_append, lits, List.size_toArray, List.length_cons, List.length_nil]; omega)]); rw [cond_true]; refine ⟨?_, ?_⟩; (congr 1; (try simp only [List.nil_append, List.cons_append, joinB_one, joinB_cons, ByteArray.append_assoc, lit0, lit1, lit2, lit3, lit4, lit5, lit6, lit7, lit8])); (rw [Sat_some]; simp only [ByteArray.size_append, lits, List.size_toArray, List.length_cons, List.length_nil]; omega)
          · simp only [cond_true]
            (repeat rw [if_pos (by simp only [List.nil_append, List.cons_append, List.length_append, joinB_one, joinB_cons, ByteArray.size_append, lits, List.size_toArray, List.length_cons, List.length_nil]; omega)]); (try rw [decide_eq_true (show _ ∧ _ from by simp only [List.nil_append, List.cons_append, List.length_append, joinB_one, joinB_cons, ByteArray.size_append, lits, List.size_toArray, List.length_cons, List.length_nil]; omega)]); rw [cond_true]; refine ⟨?_, ?_⟩; (congr 1; (try simp only [List.nil_append, List.cons_append, joinB_one, joinB_cons, ByteArray.append_assoc, lit0, lit1, lit2, lit3, lit4, lit5, lit6, lit7, lit8])); (rw [Sat_some]; simp only [ByteArray.size_append, lits, List.size_toArray, List.length_cons, List.length_nil]; omega)
      · simp only [cond_true]
        cases hc : (e.2.2.1 == (0 : Int))
        · simp only [bne, hc, Bool.not_false, cond_true, cond_false]
          (repeat rw [if_pos (by simp only [List.nil_append, List.cons_append, List.length_append, joinB_one, joinB_cons, ByteArray.size_append, lits, List.size_toArray, List.length_cons, List.length_nil]; omega)]); (try rw [decide_eq_true (show _ ∧ _ from by simp only [List.nil_append, List.cons_append, List.length_append, joinB_one, joinB_cons, ByteArray.size_append, lits, List.size_toArray, List.length_cons, List.length_nil]; omega)]); rw [cond_true]; refine ⟨?_, ?_⟩; (congr 1; (try simp only [List.nil_append, List.cons_append, joinB_one, joinB_cons, ByteArray.append_assoc, lit0, lit1, lit2, lit3, lit4, lit5, lit6, lit7, lit8])); (rw [Sat_some]; simp only [ByteArray.size_append, lits, List.size_toArray, List.length_cons, List.length_nil]; omega)
        · simp only [bne, hc, Bool.not_true, cond_true, cond_false]
          (repeat rw [if_pos (by simp only [List.nil_append, List.cons_append, List.length_append, joinB_one, joinB_cons, ByteArray.size_append, lits, List.size_toArray, List.length_cons, List.length_nil]; omega)]); (try rw [decide_eq_true (show _ ∧ _ from by simp only [List.nil_append, List.cons_append, List.length_append, joinB_one, joinB_cons, ByteArray.size_append, lits, List.size_toArray, List.length_cons, List.length_nil]; omega)]); rw [cond_true]; refine ⟨?_, ?_⟩; (congr 1; (try simp only [List.nil_append, List.cons_append, joinB_one, joinB_cons, ByteArray.append_assoc, lit0, lit1, lit2, lit3, lit4, lit5, lit6, lit7, lit8])); (rw [Sat_some]; simp only [ByteArray.size_append, lits, List.size_toArray, List.length_cons, List.length_nil]; omega)
  unfold d23 d16 v16 v23
  rw [key.1]
  exact ⟨key.2.d, key.2.d, rfl, key.2.v⟩
def cnt (s : ByteArray) : Nat := s.data.toList.count 32
theorem cnt_app (a b : ByteArray) : cnt (a ++ b) = cnt a + cnt b := by simp [cnt]
theorem cnt_lit (a : Array UInt8) : cnt (ByteArray.mk a) = a.toList.count 32 := rfl
theorem cuts_cnt : ∀ l : List UInt8, (cuts l).length = l.count 32 + 1
  | [] => rfl
  | b :: l => by
    have ih := cuts_cnt l
    rw [cuts]
    by_cases hb : b = 32
    · subst hb
      rw [if_pos rfl, List.length_cons, ih, List.count_cons_self]
    · rw [if_neg hb, List.count_cons_of_ne hb]
      split
      · next h => exact absurd h (cuts_ne l)
      · next h t e => rw [e] at ih; exact ih
theorem cnt_dg : ∀ d, d < 10 → cnt (dg d) = 0 := by decide
theorem cnt_dec (n : Nat) : cnt (decN n) = 0 := by
  induction n using Nat.strongRecOn with
  | _ n ih =>
    by_cases h : n < 10
    · rw [decN_small n h]; exact cnt_dg n h
    · rw [decN_step n h, cnt_app, ih _ (by omega), cnt_dg _ (by omega)]
theorem cnt_txt (n : Int) : cnt (txt n) = 0 := by
  unfold txt
  split
  · rw [cnt_app, cnt_dec]; rfl
  · exact cnt_dec _
theorem evShape (e : Ty.T y27) : (v39 e = true → 0 < (v23 e).size ∧ (e.1 = 2 → (cuts (v23 e).data.toList).length ≤ 5)) ∧ (v39 e = false → v23 e = ByteArray.empty) := by
  have key : Sat (t23 e some) fun r => (v39 e = true → 0 < r.size ∧ (e.1 = 2 → (cuts r.data.toList).length ≤ 5)) ∧ (v39 e = false → r = ByteArray.empty) := by
    unfold t23
    cases ho : v39 e
    · rw [Bool.not_false, cond_true, Sat_some]
      exact ⟨nofun, fun _ => rfl⟩
    · obtain ⟨q0, q1, q2, q3, q4⟩ := evIn e ho
      unfold inR at q0 q1 q2 q3 q4
      have r0 : I64 e.2.1 := by unfold I64; omega
      have h0 := txt_size r0
      have c0 := cnt_txt e.2.1
      have r1 : I64 e.2.2.1 := by unfold I64; omega
      have h1 := txt_size r1
      have c1 := cnt_txt e.2.2.1
      have r2 : I64 e.2.2.2.1 := by unfold I64; omega
      have h2 := txt_size r2
      have c2 := cnt_txt e.2.2.2.1
      have r3 : I64 e.2.2.2.2.1 := by unfold I64; omega
      have h3 := txt_size r3
      have c3 := cnt_txt e.2.2.2.2.1
      have r4 : I64 e.2.2.2.2.2.1 := by unfold I64; omega
      have h4 := txt_size r4
      have c4 := cnt_txt e.2.2.2.2.2.1
      simp only [Bool.not_true, cond_false, (numS _ r0).1, (numS _ r0).2, (numS _ r1).1, (numS _ r1).2, (numS _ r2).1, (numS _ r2).2, (numS _ r3).1, (numS _ r3).2, (numS _ r4).1, (numS _ r4).2, cond_true]
      clear ho q0 q1 q2 q3 q4 r0 r1 r2 r3 r4
      revert h0 h1 h2 h3 h4 c0 c1 c2 c3 c4
      generalize txt e.2.1 = t0, txt e.2.2.1 = t1, txt e.2.2.2.1 = t2, txt e.2.2.2.2.1 = t3, txt e.2.2.2.2.2.1 = t4
      intro h0 c0 h1 c1 h2 c2 h3 c3 h4 c4
      by_cases k : e.1 = 2
      · rw [k]
        simp only [show ((2 : Int) == 1) = false from rfl, show ((2 : Int) == 2) = true from rfl, cond_true, cond_false]
        cases e.2.2.2.2.2.2
        · simp only [cond_false]
          (repeat rw [if_pos (by simp only [List.nil_append, List.cons_append, List.length_append, joinB_one, joinB_cons, ByteArray.size_append, lits, List.size_toArray, List.length_cons, List.length_nil]; omega)]); rw [Sat_some]; refine ⟨fun _ => ⟨by simp only [ByteArray.size_append, lits, List.size_toArray, List.length_cons, List.length_nil]; omega, fun _ => ?_⟩, nofun⟩; rw [cuts_cnt]; show cnt _ + 1 ≤ 5; simp only [cnt_app, cnt_lit, c0, c1, c2, c3, c4]; decide
        · simp only [cond_true]
          (repeat rw [if_pos (by simp only [List.nil_append, List.cons_append, List.length_append, joinB_one, joinB_cons, ByteArray.size_append, lits, List.size_toArray, List.length_cons, List.length_nil]; omega)]); rw [Sat_some]; refine ⟨fun _ => ⟨by simp only [ByteArray.size_append, lits, List.size_toArray, List.length_cons, List.length_nil]; omega, fun _ => ?_⟩, nofun⟩; rw [cuts_cnt]; show cnt _ + 1 ≤ 5; simp only [cnt_app, cnt_lit, c0, c1, c2, c3, c4]; decide
      · rw [show (e.1 == (2 : Int)) = false from beq_eq_false_iff_ne.2 k]
        simp only [cond_false]
        cases (e.1 == (1 : Int))
        · simp only [cond_false]
          cases (e.1 == (3 : Int))
          · simp only [cond_false]
            cases (e.1 == (4 : Int))
            · simp only [cond_false]
              cases (e.1 == (5 : Int))
              · simp only [cond_false]
                (repeat rw [if_pos (by simp only [List.nil_append, List.cons_append, List.length_append, joinB_one, joinB_cons, ByteArray.size_append, lits, List.size_toArray, List.length_cons, List.length_nil]; omega)]); rw [Sat_some]; refine ⟨fun _ => ⟨by simp only [ByteArray.size_append, lits, List.size_toArray, List.length_cons, List.length_nil]; omega, fun hk => absurd hk k⟩, nofun⟩
              · simp only [cond_true]
                (repeat rw [if_pos (by simp only [List.nil_append, List.cons_append, List.length_append, joinB_one, joinB_cons, ByteArray.size_append, lits, List.size_toArray, List.length_cons, List.length_nil]; omega)]); rw [Sat_some]; refine ⟨fun _ => ⟨by simp only [ByteArray.size_append, lits, List.size_toArray, List.length_cons, List.length_nil]; omega, fun hk => absurd hk k⟩, nofun⟩
            · simp only [cond_true]
              (repeat rw [if_pos (by simp only [List.nil_append, List.cons_append, List.length_append, joinB_one, joinB_cons, ByteArray.size_append, lits, List.size_toArray, List.length_cons, List.length_nil]; omega)]); rw [Sat_some]; refine ⟨fun _ => ⟨by simp only [ByteArray.size_append, lits, List.size_toArray, List.length_cons, List.length_nil]; omega, fun hk => absurd hk k⟩, nofun⟩
          · simp only [cond_true]
            (repeat rw [if_pos (by simp only [List.nil_append, List.cons_append, List.length_append, joinB_one, joinB_cons, ByteArray.size_append, lits, List.size_toArray, List.length_cons, List.length_nil]; omega)]); rw [Sat_some]; refine ⟨fun _ => ⟨by simp only [ByteArray.size_append, lits, List.size_toArray, List.length_cons, List.length_nil]; omega, fun hk => absurd hk k⟩, nofun⟩
        · simp only [cond_true]
          cases (e.2.2.1 == (0 : Int))
          · simp only [cond_false]
            (repeat rw [if_pos (by simp only [List.nil_append, List.cons_append, List.length_append, joinB_one, joinB_cons, ByteArray.size_append, lits, List.size_toArray, List.length_cons, List.length_nil]; omega)]); rw [Sat_some]; refine ⟨fun _ => ⟨by simp only [ByteArray.size_append, lits, List.size_toArray, List.length_cons, List.length_nil]; omega, fun hk => absurd hk k⟩, nofun⟩
          · simp only [cond_true]
            (repeat rw [if_pos (by simp only [List.nil_append, List.cons_append, List.length_append, joinB_one, joinB_cons, ByteArray.size_append, lits, List.size_toArray, List.length_cons, List.length_nil]; omega)]); rw [Sat_some]; refine ⟨fun _ => ⟨by simp only [ByteArray.size_append, lits, List.size_toArray, List.length_cons, List.length_nil]; omega, fun hk => absurd hk k⟩, nofun⟩
  unfold v23
  exact key.v
theorem cuts_part : ∀ (l : List UInt8), ∀ t ∈ cuts l, t.length ≤ l.length
  | [], t, ht => by
    rw [cuts] at ht
    simp only [List.mem_singleton] at ht
    rw [ht]
    exact Nat.le_refl _
  | b :: l, t, ht => by
    have ih := cuts_part l
    rw [cuts] at ht
    split at ht
    · rcases List.mem_cons.1 ht with rfl | h
      · exact Nat.zero_le _
      · exact Nat.le_succ_of_le (ih t h)
    · split at ht
      · next e => exact absurd e (cuts_ne l)
      · next h r e =>
        rcases List.mem_cons.1 ht with rfl | h2
        · have := ih h (by rw [e]; exact List.mem_cons_self)
          simp only [List.length_cons]
          omega
        · exact Nat.le_succ_of_le (ih t (by rw [e]; exact List.mem_cons_of_mem _ h2))
noncomputable def numW (l : List ByteArray) : List Int := l.map fun w => (v38 w).1
noncomputable def nth (l : List ByteArray) (k : Nat) : Int := optV (l[k]?) 0 fun w => (v38 w).1
theorem numsL (l : List ByteArray) (hl : l.length ≤ 1048577) (hb : ∀ w ∈ l, w.size ≤ 1048576) : d22 l = true ∧ v22 l = numW l := by
  have h := run_sat (s := s22_0) (Q := fun v => v.2.2.2.1 = numW l) (fun k v => ∃ i : Nat, v = (l, [], (i : Int), numW (l.take i), ()) ∧ i + k = l.length) (fun k v hv => by
    obtain ⟨i, rfl, hk⟩ := hv
    unfold s22_0 t22_0
    dsimp only
    by_cases hi : i < l.length
    · have hx : l[i]? = some l[i] := getElem?_pos l i hi
      have h0 : (0 : Int) ≤ (i : Int) := by omega
      rw [decide_eq_true (show (i : Int) < (l.length : Int) by omega), cond_true, if_pos h0, Int.toNat_natCast, hx, optC_some, (parseNum _ (hb _ (List.getElem_mem hi))).1, cond_true, if_pos (by simp only [numW, List.length_append, List.length_map, List.length_take, List.length_cons, List.length_nil]; omega), Sat_some, wrap_nat (n := i) (by omega)]
      refine .inr ⟨rfl, k - 1, by omega, i + 1, ?_, by omega⟩
      have ht : l.take (i + 1) = l.take i ++ [l[i]] := take_snoc hx
      rw [ht]
      simp only [numW, List.map_append]
      rfl
    · rw [decide_eq_false (show ¬ ((i : Int) < (l.length : Int)) by omega), cond_false, Sat_some]
      refine .inl ⟨rfl, ?_⟩
      show numW (l.take i) = numW l
      rw [List.take_of_length_le (by omega)]) l.length (l, [], (0 : Int), [], ()) (n22_0 (l, [], 0, [], ())) ⟨0, rfl, by omega⟩ (by simp only [n22_0]; omega)
  have hk : k22_0 l [] 0 [] 0 = true := h.1.1
  have hw : (w22_0 l [] 0 []).2.2.2.1 = _ := h.2
  unfold d22 v22
  rw [hk, cond_true, cond_true]
  exact ⟨rfl, hw⟩
theorem nthS (l : List ByteArray) (k : Nat) (hk : k ≤ 4) : (numW l ++ [0, 0, 0, 0, 0] : List Int)[k]? = some (nth l k) := by
  unfold nth
  by_cases h : k < l.length
  · rw [List.getElem?_append_left (by simp only [numW, List.length_map]; exact h), getElem?_pos l k h]
    simp only [numW, List.getElem?_map, getElem?_pos l k h]
    rfl
  · rw [List.getElem?_append_right (by simp only [numW, List.length_map]; omega), List.getElem?_eq_none (Nat.le_of_not_lt h)]
    simp only [numW, List.length_map]
    have : k - l.length = 0 ∨ k - l.length = 1 ∨ k - l.length = 2 ∨ k - l.length = 3 ∨ k - l.length = 4 := by omega
    rcases this with e | e | e | e | e <;> rw [e] <;> rfl
theorem rd1 {Z : Type} (l : List ByteArray) (f : Int → Option Z) : (if (1 : Int) < ((numW l ++ [0, 0, 0, 0, 0] : List Int).length : Int) then optC ((numW l ++ [0, 0, 0, 0, 0] : List Int)[1]?) f else none) = f (nth l 1) := by
  rw [if_pos (by simp only [List.length_append, List.length_cons, List.length_nil]; omega), nthS l 1 (by omega), optC_some]
theorem rd2 {Z : Type} (l : List ByteArray) (f : Int → Option Z) : (if (2 : Int) < ((numW l ++ [0, 0, 0, 0, 0] : List Int).length : Int) then optC ((numW l ++ [0, 0, 0, 0, 0] : List Int)[2]?) f else none) = f (nth l 2) := by
  rw [if_pos (by simp only [List.length_append, List.length_cons, List.length_nil]; omega), nthS l 2 (by omega), optC_some]
theorem rd3 {Z : Type} (l : List ByteArray) (f : Int → Option Z) : (if (3 : Int) < ((numW l ++ [0, 0, 0, 0, 0] : List Int).length : Int) then optC ((numW l ++ [0, 0, 0, 0, 0] : List Int)[3]?) f else none) = f (nth l 3) := by
  rw [if_pos (by simp only [List.length_append, List.length_cons, List.length_nil]; omega), nthS l 3 (by omega), optC_some]
theorem rd4 {Z : Type} (l : List ByteArray) (f : Int → Option Z) : (if (4 : Int) < ((numW l ++ [0, 0, 0, 0, 0] : List Int).length : Int) then optC ((numW l ++ [0, 0, 0, 0, 0] : List Int)[4]?) f else none) = f (nth l 4) := by
  rw [if_pos (by simp only [List.length_append, List.length_cons, List.length_nil]; omega), nthS l 4 (by omega), optC_some]
theorem numA (l : List ByteArray) (k : Nat) (hb : ∀ w ∈ l, w.size ≤ 1048576) : d24 l (k : Int) = true ∧ v24 l (k : Int) = nth l k := by
  unfold d24 v24 nth
  by_cases h : k < l.length
  · have p := parseNum _ (hb _ (List.getElem_mem h))
    rw [decide_eq_false (show ¬ ((k : Int) ≥ (l.length : Int)) by omega), cond_false, cond_false, Int.toNat_natCast, getElem?_pos l k h, decide_eq_true (show (0 : Int) ≤ (k : Int) by omega)]
    simp only [optD, optV, p.2.1, p.2.2, cond_true]
    exact ⟨rfl, trivial⟩
  · rw [decide_eq_true (show (k : Int) ≥ (l.length : Int) by omega), cond_true, cond_true, List.getElem?_eq_none (Nat.le_of_not_lt h)]
    exact ⟨rfl, rfl⟩
noncomputable def outE (s : ByteArray) (e : Ty.T y27) : (Ty.T y27) × Bool := if v39 e = true ∧ v23 e = s then (e, true) else ((0, 0, 0, 0, 0, 0, false), false)
theorem chkS (s : ByteArray) (e : Ty.T y27) : cond (s.toList == ByteArray.empty.toList) (some (((0, 0, 0, 0, 0, 0, false), false) : (Ty.T y27) × Bool)) (cond (d23 e) (cond (!((v23 e).toList == s.toList)) (some ((0, 0, 0, 0, 0, 0, false), false)) (some (e, true))) none) = some (outE s e) := by
  rw [(evText e).1, cond_true, beq_toList, beq_toList]
  unfold outE
  cases ho : v39 e
  · rw [(evShape e).2 ho, if_neg (fun h => by cases h.1)]
    by_cases hs : s = ByteArray.empty
    · rw [decide_eq_true hs, cond_true]
    · rw [decide_eq_false hs, cond_false, decide_eq_false (fun h => hs h.symm), Bool.not_false, cond_true]
  · have hp := ((evShape e).1 ho).1
    by_cases hs : s = ByteArray.empty
    · rw [decide_eq_true hs, cond_true, if_neg]
      intro h
      rw [h.2, hs] at hp
      exact absurd hp (by decide)
    · rw [decide_eq_false hs, cond_false]
      by_cases hv : v23 e = s
      · rw [decide_eq_true hv, Bool.not_true, cond_false, if_pos ⟨rfl, hv⟩]
      · rw [decide_eq_false hv, Bool.not_false, cond_true, if_neg (fun h => hv h.2)]
theorem chkI (s : ByteArray) (e : Ty.T y27) : cond (!(v19 e)) (some (((0, 0, 0, 0, 0, 0, false), false) : (Ty.T y27) × Bool)) (cond (d16 e) (cond (!((v16 e).toList == s.toList)) (some ((0, 0, 0, 0, 0, 0, false), false)) (some (e, true))) none) = some (outE s e) := by
  have q := evText e
  rw [evOk, q.2.1, q.2.2.1, cond_true, beq_toList]
  unfold outE
  cases ho : v39 e
  · rw [Bool.not_false, cond_true, if_neg (fun h => by cases h.1)]
  · rw [Bool.not_true, cond_false]
    by_cases hv : v23 e = s
    · rw [decide_eq_true hv, Bool.not_true, cond_false, if_pos ⟨rfl, hv⟩]
    · rw [decide_eq_false hv, Bool.not_false, cond_true, if_neg (fun h => hv h.2)]
noncomputable def candE (x : ByteArray) (W : List ByteArray) : Ty.T y27 :=
  cond (x.toList == (ByteArray.mk #[104, 117, 114, 116]).toList)
    (cond (decide ((W.length : Int) > (3 : Int)) && (((W[3]?).getD ByteArray.empty).toList == (ByteArray.mk #[115, 105, 100, 101]).toList)) (1, nth W 1, 0, nth W 4, nth W 2, 0, false) (1, nth W 1, nth W 4, (-1), nth W 2, 0, false))
    (cond (x.toList == (ByteArray.mk #[109, 111, 118, 101]).toList) (2, 0, nth W 1, (-1), nth W 3, nth W 2, ((W.length : Int) == (5 : Int)))
    (cond (x.toList == (ByteArray.mk #[103, 97, 105, 110]).toList) (3, 0, 0, nth W 1, nth W 2, 0, false)
    (cond (x.toList == (ByteArray.mk #[108, 111, 115, 101]).toList) (4, 0, 0, nth W 1, nth W 2, 0, false)
    (cond (x.toList == (ByteArray.mk #[112, 117, 116]).toList) (5, 0, nth W 1, (-1), nth W 2, 0, false)
    (cond (x.toList == (ByteArray.mk #[99, 117, 116]).toList) (6, 0, nth W 1, (-1), nth W 2, 0, false) (0, 0, 0, 0, 0, 0, false))))))
theorem parseE (s : ByteArray) (hs : s.size ≤ 1048576) : ∃ x, ((cuts s.data.toList).map mkB)[0]? = some x ∧ t11 s some = some (outE s (candE x ((cuts s.data.toList).map mkB))) ∧ t12 s some = some (outE s (candE x ((cuts s.data.toList).map mkB))) := by
  have hS := wordsS s hs
  have hI := wordsI s hs
  have hlen := cuts_len s.data.toList
  have hsz : s.data.toList.length = s.size := rfl
  have hW : v7 s = v6 s := hI.2.trans hS.2.symm
  have hb : ∀ w ∈ v6 s, w.size ≤ 1048576 := fun w hw => by
    rw [hS.2] at hw
    obtain ⟨t, ht, rfl⟩ := List.mem_map.1 hw
    have := cuts_part _ t ht
    rw [size_mkB]
    omega
  have hl : (v6 s).length = (cuts s.data.toList).length := by rw [hS.2, List.length_map]
  obtain ⟨x, r, hx⟩ : ∃ x r, v6 s = x :: r := by
    cases hc : v6 s with
    | nil =>
      have := congrArg List.length (hc.symm.trans hS.2)
      rw [List.length_map] at this
      exact absurd (List.eq_nil_of_length_eq_zero this.symm) (cuts_ne _)
    | cons x r => exact ⟨x, r, rfl⟩
  have hn := numsL (v6 s) (by omega) hb
  refine ⟨x, by rw [← hS.2, hx]; rfl, ?_⟩
  rw [← hS.2]
  unfold t11 t12 candE
  simp only [e12_0, e12_1, e12_2]
  rw [hS.1, hI.1, hW, hn.1, hn.2, cond_true, cond_true, cond_true, if_pos (by simp only [numW, List.length_append, List.length_map, List.length_cons, List.length_nil]; omega)]
  have g0 : (0 : Int) < ((v6 s).length : Int) := by rw [hx, List.length_cons]; omega
  have x0 : (v6 s)[0]? = some x := by rw [hx]; rfl
  rw [if_pos g0, if_pos g0, x0, optC_some, optC_some]
  clear hn hx x0 g0 hW hI
  generalize v6 s = W at *
  have a1 := numA W 1 hb
  have a2 := numA W 2 hb
  have a3 := numA W 3 hb
  have a4 := numA W 4 hb
  have ad1 : d24 W 1 = true := a1.1
  have ad2 : d24 W 2 = true := a2.1
  have ad3 : d24 W 3 = true := a3.1
  have ad4 : d24 W 4 = true := a4.1
  have av1 : v24 W 1 = nth W 1 := a1.2
  have av2 : v24 W 2 = nth W 2 := a2.2
  have av3 : v24 W 3 = nth W 3 := a3.2
  have av4 : v24 W 4 = nth W 4 := a4.2
  clear a1 a2 a3 a4
  cases x.toList == (ByteArray.mk #[104, 117, 114, 116]).toList
  · simp only [cond_false]
    cases x.toList == (ByteArray.mk #[109, 111, 118, 101]).toList
    · simp only [cond_false]
      cases x.toList == (ByteArray.mk #[103, 97, 105, 110]).toList
      · simp only [cond_false]
        cases x.toList == (ByteArray.mk #[108, 111, 115, 101]).toList
        · simp only [cond_false]
          cases x.toList == (ByteArray.mk #[112, 117, 116]).toList
          · simp only [cond_false]
            cases x.toList == (ByteArray.mk #[99, 117, 116]).toList
            · simp only [cond_false]
              rw [chkS, chkI]
              have z : ∀ e : Ty.T y27, v39 e = false → outE s e = ((0, 0, 0, 0, 0, 0, false), false) := fun e he => by
                unfold outE
                rw [if_neg (fun h => by rw [he] at h; cases h.1)]
              rw [z _ rfl, z _ rfl]
              exact ⟨rfl, rfl⟩
            · simp only [cond_true]
              rw [rd1, rd2]; simp only [ad1, ad2, av1, av2, cond_true]; rw [chkS, chkI]; exact ⟨rfl, rfl⟩
          · simp only [cond_true]
            rw [rd1, rd2]; simp only [ad1, ad2, av1, av2, cond_true]; rw [chkS, chkI]; exact ⟨rfl, rfl⟩
        · simp only [cond_true]
          rw [rd1, rd2]; simp only [ad1, ad2, av1, av2, cond_true]; rw [chkS, chkI]; exact ⟨rfl, rfl⟩
      · simp only [cond_true]
        rw [rd1, rd2]; simp only [ad1, ad2, av1, av2, cond_true]; rw [chkS, chkI]; exact ⟨rfl, rfl⟩
    · simp only [cond_true]
      rw [rd1, rd2, rd3]
      simp only [ad1, ad2, ad3, av1, av2, av3, cond_true]
      rw [chkS, chkI]
      refine ⟨rfl, ?_⟩
      congr 1
      unfold outE
      by_cases h5 : W.length ≤ 5
      · have : decide ((W.length : Int) > (4 : Int)) = ((W.length : Int) == (5 : Int)) := by
          by_cases h4 : W.length = 5
          · rw [h4]; rfl
          · rw [decide_eq_false (by omega), beq_eq_false_iff_ne.2 (by omega)]
        rw [this]
      · have no : ∀ e : Ty.T y27, e.1 = 2 → ¬ (v39 e = true ∧ v23 e = s) := fun e he h => by
          have := ((evShape e).1 h.1).2 he
          rw [h.2] at this
          omega
        rw [if_neg (no _ rfl), if_neg (no _ rfl)]
  · simp only [cond_true]
    rw [rd1, rd2, rd4]
    simp only [ad1, ad2, ad4, av1, av2, av4, cond_true]
    by_cases h3 : 3 < W.length
    · have g3 : (3 : Int) < (W.length : Int) := by omega
      rw [decide_eq_true (show (W.length : Int) > 3 by omega), getElem?_pos W 3 h3]
      simp only [cond_true, Bool.true_and, Option.getD_some]
      rw [if_pos g3, if_pos g3, optC_some, optC_some]
      cases (W[3]).toList == (ByteArray.mk #[115, 105, 100, 101]).toList
      · simp only [cond_false]
        rw [chkS, chkI]; exact ⟨rfl, rfl⟩
      · simp only [cond_true]
        rw [rd4]
        rw [chkS, chkI]; exact ⟨rfl, rfl⟩
    · rw [decide_eq_false (show ¬ ((W.length : Int) > 3) by omega)]
      simp only [cond_false, Bool.false_and]
      rw [chkS, chkI]; exact ⟨rfl, rfl⟩

def cur (c : Ty.T y57) : Prop := (0 : Int) ≤ id (α := Int) c.2.1 ∧ id (α := Int) c.2.1 ≤ (c.1.length : Int) ∧ (c.1.length : Int) ≤ 1099511627776
theorem and255 (x : Int) : 0 ≤ IntKind.wrap .i64 ((BitVec.ofInt (IntKind.bits .i64) x &&& BitVec.ofInt (IntKind.bits .i64) (255 : Int)).toNat : Int) ∧ IntKind.wrap .i64 ((BitVec.ofInt (IntKind.bits .i64) x &&& BitVec.ofInt (IntKind.bits .i64) (255 : Int)).toNat : Int) ≤ 255 := by
  have h : (BitVec.ofInt (IntKind.bits .i64) x &&& BitVec.ofInt (IntKind.bits .i64) (255 : Int)).toNat ≤ 255 := by
    rw [BitVec.toNat_and]
    exact Nat.le_trans Nat.and_le_right (by decide)
  rw [wrap_in (by omega) (by omega)]
  omega
theorem byteC (b : List Int) (i k : Int) (h1 : 0 ≤ i) (h2 : i ≤ (b.length : Int)) (h3 : (b.length : Int) ≤ 1099511627776) : d61g1 (b, i, k) = true ∧ (0 ≤ (v61g1 (b, i, k)).1 ∧ (v61g1 (b, i, k)).1 ≤ 255) ∧ cur (v61g1 (b, i, k)).2 := by
  unfold d61g1 v61g1
  try unfold t61g1
  dsimp only [Ty.T]
  by_cases hl : i < (b.length : Int)
  · have hi : i.toNat < b.length := by omega
    simp only [hl, decide_true, cond_true, h1, Bool.true_and, optD, optV, optC, if_true, Option.isSome_some, Option.getD_some, List.getElem?_eq_getElem hi]
    refine ⟨by trivial, and255 _, ?_⟩
    show (0 : Int) ≤ IntKind.wrap .i64 (i + 1) ∧ IntKind.wrap .i64 (i + 1) ≤ (b.length : Int) ∧ (b.length : Int) ≤ 1099511627776
    rw [wrap_in (by omega) (by omega)]
    omega
  · simp only [hl, decide_false, cond_false, Option.isSome_some, Option.getD_some]
    exact ⟨by trivial, and255 _, h1, h2, h3⟩
theorem byte (c : Ty.T y57) (h : cur c) : d61g1 c = true ∧ (0 ≤ (v61g1 c).1 ∧ (v61g1 c).1 ≤ 255) ∧ cur (v61g1 c).2 := byteC c.1 c.2.1 c.2.2 h.1 h.2.1 h.2.2
theorem below (n : Int) (c : Ty.T y57) (h : cur c) : d43g1 n c = true ∧ (0 < n → 0 ≤ (v43g1 n c).1 ∧ (v43g1 n c).1 < n) ∧ cur (v43g1 n c).2 := by
  have b1 := byte c h
  have b2 := byte _ b1.2.2
  have b3 := byte _ b2.2.2
  unfold d43g1 v43g1
  try unfold t43g1
  by_cases h0 : n ≤ 0
  · simp only [h0, decide_true, cond_true, Option.isSome_some, Option.getD_some]
    exact ⟨by trivial, fun h => by omega, h⟩
  · have hn : ¬ n = 0 := by omega
    simp only [h0, decide_false, cond_false, b1.1, b2.1, b3.1, cond_true, hn, Bool.not_false, Bool.and_true, if_false]
    by_cases h1 : n ≤ 256
    · simp only [h1, decide_true, cond_true, Option.isSome_some, Option.getD_some]
      exact ⟨by trivial, fun _ => ⟨Int.tmod_nonneg _ b1.2.1.1, Int.tmod_lt_of_pos _ (by omega)⟩, b1.2.2⟩
    · simp only [h1, decide_false, cond_false, Option.isSome_some, Option.getD_some]
      refine ⟨by trivial, fun _ => ⟨Int.tmod_nonneg _ ?_, Int.tmod_lt_of_pos _ (by omega)⟩, b3.2.2⟩
      obtain ⟨_, ⟨p1, p2⟩, _⟩ := b1
      obtain ⟨_, ⟨q1, q2⟩, _⟩ := b2
      obtain ⟨_, ⟨r1, r2⟩, _⟩ := b3
      rw [wrap_in (n := (v61g1 c).1 * 65536) (by omega) (by omega), wrap_in (n := (v61g1 (v61g1 c).2).1 * 256) (by omega) (by omega), wrap_in (n := (v61g1 c).1 * 65536 + _) (by omega) (by omega), wrap_in (by omega) (by omega)]
      omega
theorem oneOf (l : List Int) (c : Ty.T y57) (hl : l ≠ []) (h : cur c) : d44g1 l c = true ∧ (v44g1 l c).1 ∈ l ∧ cur (v44g1 l c).2 := by
  have hp : 0 < l.length := List.length_pos_iff.2 hl
  obtain ⟨b1, b2, b3⟩ := below (l.length : Int) c h
  have b2 := b2 (by omega)
  unfold d44g1 v44g1
  have hi : ((v43g1 (l.length : Int) c).1).toNat < l.length := by omega
  have h0 := b2.1
  simp only [b1, cond_true, h0, decide_true, Bool.true_and, optD, optV]
  simp only [List.getElem?_eq_getElem hi]
  exact ⟨trivial, List.getElem_mem hi, b3⟩
theorem once (n : Int) (c : Ty.T y57) (h : cur c) : d51g1 n c = true ∧ cur (v51g1 n c).2 := by
  have b := below n c h
  unfold d51g1 v51g1
  simp only [b.1, cond_true]
  exact ⟨trivial, b.2.2⟩
theorem newStep (b : List Int) (hh i : Int) (h0 : 0 ≤ i) (hb : i ≤ 1099511627776) : (i < (b.length : Int) ∧ ∃ h' : Int, s25_0 (b, hh, i, ()) = some (0, (b, h', i + 1, ()))) ∨ s25_0 (b, hh, i, ()) = some (1, (b, hh, i, ())) := by
  unfold s25_0 t25_0
  dsimp only [Ty.T]
  by_cases hl : i < (b.length : Int)
  · by_cases h4 : i < 4000
    · have hi : i.toNat < b.length := by omega
      have e : IntKind.wrap .i64 (i + 1) = i + 1 := wrap_in (by omega) (by omega)
      refine .inl ⟨hl, ?w, ?h⟩
      case h =>
        simp only [hl, h4, decide_true, cond_true, h0, if_true, optC, List.getElem?_eq_getElem hi, e]
        rfl
    · right
      simp only [hl, h4, decide_true, decide_false, cond_true, cond_false]
  · right
    simp only [hl, decide_false, cond_false]
theorem newC (b : List Int) (hb : (b.length : Int) ≤ 1099511627776) : d25 b = true ∧ cur (v25 b) := by
  have h : ∀ x : Int, _ := fun x => run_iter (s := s25_0) (Q := fun v => v.1 = b) (fun k v => ∃ hh i : Int, v = (b, hh, i, ()) ∧ 0 ≤ i ∧ i + k = b.length) (fun k v hv => by
    obtain ⟨hh, i, rfl, h0, hk⟩ := hv
    rcases newStep b hh i h0 (by omega) with ⟨hl, h', h1⟩ | h1
    · exact .inr ⟨k - 1, _, by omega, h1, h', i + 1, rfl, by omega, by omega⟩
    · exact .inl ⟨_, h1, rfl⟩) b.length (b, x, (0 : Int), ()) (n25_0 (b, x, (0 : Int), ())) ⟨x, 0, rfl, by omega, by omega⟩ (by simp only [n25_0]; omega)
  unfold d25 v25
  obtain ⟨v', h1, h2⟩ := h (IntKind.wrap .i64 ((139871 : Int) + (b.length : Int)))
  have e1 : k25_0 b (IntKind.wrap .i64 ((139871 : Int) + (b.length : Int))) 0 0 = true := at_of h1 0
  have e2 : w25_0 b (IntKind.wrap .i64 ((139871 : Int) + (b.length : Int))) 0 = v' := val_of h1
  simp only [e1, e2, cond_true]
  refine ⟨trivial, ?_⟩
  rw [h2]
  exact ⟨Int.le_refl _, Int.natCast_nonneg _, hb⟩
theorem z43g1 {n : Int} {c : Ty.T y57} (h : cur c) : d43g1 n c = true := (below n c h).1
theorem uq43g1 {n : Int} {c : Ty.T y57} (h : cur c) : cur (v43g1 n c).2 := (below n c h).2.2
theorem z51g1 {n : Int} {c : Ty.T y57} (h : cur c) : d51g1 n c = true := (once n c h).1
theorem uq51g1 {n : Int} {c : Ty.T y57} (h : cur c) : cur (v51g1 n c).2 := (once n c h).2
theorem z44g1 {l : List (Ty.T (.int .i64))} {c : Ty.T y57} (hl : l ≠ []) (h : cur c) : d44g1 l c = true := (oneOf l c hl h).1
theorem uq44g1 {l : List (Ty.T (.int .i64))} {c : Ty.T y57} (hl : l ≠ []) (h : cur c) : cur (v44g1 l c).2 := (oneOf l c hl h).2.2
theorem lp47g1 {n : Int} {c : Ty.T y57} {p q : Ty.T y65} {l : List Int} (h : cur c) (hn : n = l.length) (hb : l.length ≤ 1000) : k47g1_0 n 0 c p q l 0 = true ∧ cur (w47g1_0 n 0 c p q l).2.2.1 := by
  have := run_sat (s := s47g1_0) (Q := fun v => cur v.2.2.1) (fun k v => ∃ (i : Int) (c : Ty.T y57) (q : Ty.T y65), v = (n, i, c, p, q, l, ()) ∧ cur c ∧ 0 ≤ i ∧ i + k = n) (fun k v hv => by
    obtain ⟨i, c, q, rfl, h1, h3, h4⟩ := hv
    unfold s47g1_0 t47g1_0
    dsimp only
    simp (maxDischargeDepth := 99) only [false_and, and_false, Sat_cond, Sat_some, false_and, and_false, Sat_ite, Sat_ifz, Sat_opt, Sat_none, cond_true, cond_false, and_true, true_and, implies_true, and_self, ne_eq, reduceCtorEq, not_false_eq_true, true_or, or_true, false_or, or_false, Nat.zero_ne_one, Nat.one_ne_zero, List.length_cons, List.length_nil, Nat.reduceAdd, Nat.reduceLeDiff, Int.cast_ofNat_Int, few_nil, few_pair, few_int, few_bool, few_str, few_nul, z51g1, uq51g1, h1]
    intro hl
    have hl : i < n := of_decide_eq_true hl
    obtain ⟨b, hb1, _⟩ := getE (l := l) h3 (by omega)
    have e : IntKind.wrap .i64 (i + 1) = i + 1 := wrap_in (by omega) (by omega)
    have hl2 : i < (l.length : Int) := by omega
    refine ⟨h3, hl2, b, hb1, k - 1, by omega, i + 1, _, _, by rw [e], uq51g1 h1, by omega, by omega⟩) l.length (n, 0, c, p, q, l, ()) (n47g1_0 (n, 0, c, p, q, l, ())) ⟨0, c, q, rfl, h, by omega, by omega⟩ (by simp only [n47g1_0]; omega)
  exact ⟨this.1.1, this.2⟩
theorem zl47g1 {c : Ty.T y57} {p q : Ty.T y65} {l : List (Ty.T (.int .i64))} (hl : (6 : Int) = l.length) (h : cur c) : k47g1_0 6 0 c p q l 0 = true := (lp47g1 (l := l) h hl (by omega)).1
theorem ul47g1 {c : Ty.T y57} {p q : Ty.T y65} {l : List (Ty.T (.int .i64))} (hl : (6 : Int) = l.length) (h : cur c) : cur (w47g1_0 6 0 c p q l).2.2.1 := (lp47g1 (l := l) h hl (by omega)).2
theorem ue47g1_0_0 {a1 : Ty.T y57} (h0 : cur a1) : cur (e47g1_0 a1).2 := by
  unfold e47g1_0
  simp (maxDischargeDepth := 99) only [false_and, and_false, Sat_cond, Sat_some, false_and, and_false, Sat_ite, Sat_ifz, Sat_opt, Sat_none, cond_true, cond_false, and_true, true_and, implies_true, and_self, ne_eq, reduceCtorEq, not_false_eq_true, true_or, or_true, false_or, or_false, Nat.zero_ne_one, Nat.one_ne_zero, List.length_cons, List.length_nil, Nat.reduceAdd, Nat.reduceLeDiff, Int.cast_ofNat_Int, z43g1, uq43g1, z44g1, uq44g1, h0]
theorem ue47g1_1_0 {a0 : Int} {a1 : Ty.T y57} (h0 : cur a1) : cur (e47g1_1 a0 a1).2.2.1 := by
  unfold e47g1_1
  simp (maxDischargeDepth := 99) only [false_and, and_false, Sat_cond, Sat_some, false_and, and_false, Sat_ite, Sat_ifz, Sat_opt, Sat_none, cond_true, cond_false, and_true, true_and, implies_true, and_self, ne_eq, reduceCtorEq, not_false_eq_true, true_or, or_true, false_or, or_false, Nat.zero_ne_one, Nat.one_ne_zero, List.length_cons, List.length_nil, Nat.reduceAdd, Nat.reduceLeDiff, Int.cast_ofNat_Int, zl47g1, ul47g1, z43g1, uq43g1, ue47g1_0_0, z44g1, uq44g1, h0]
theorem ue47g1_2_0 {a0 : Int} {a1 : Ty.T y57} (h0 : cur a1) : cur (e47g1_2 a0 a1).2 := by
  unfold e47g1_2
  simp (maxDischargeDepth := 99) only [false_and, and_false, Sat_cond, Sat_some, false_and, and_false, Sat_ite, Sat_ifz, Sat_opt, Sat_none, cond_true, cond_false, and_true, true_and, implies_true, and_self, ne_eq, reduceCtorEq, not_false_eq_true, true_or, or_true, false_or, or_false, Nat.zero_ne_one, Nat.one_ne_zero, List.length_cons, List.length_nil, Nat.reduceAdd, Nat.reduceLeDiff, Int.cast_ofNat_Int, z44g1, uq44g1, z51g1, uq51g1, ue47g1_1_0, h0]
theorem st47g1 {a0 : Int} {a1 : Ty.T y57} (h0 : cur a1) : Sat (t47g1 a0 a1 some) (fun r => cur r.2) := by
  unfold t47g1
  simp (maxDischargeDepth := 99) only [false_and, and_false, Sat_cond, Sat_some, false_and, and_false, Sat_ite, Sat_ifz, Sat_opt, Sat_none, cond_true, cond_false, and_true, true_and, implies_true, and_self, ne_eq, reduceCtorEq, not_false_eq_true, true_or, or_true, false_or, or_false, Nat.zero_ne_one, Nat.one_ne_zero, List.length_cons, List.length_nil, Nat.reduceAdd, Nat.reduceLeDiff, Int.cast_ofNat_Int, few_nil, few_pair, few_int, few_bool, few_str, few_nul, z43g1, uq43g1, z44g1, uq44g1, ue47g1_0_0, zl47g1, ul47g1, ue47g1_1_0, z51g1, uq51g1, ue47g1_2_0, h0]
theorem z47g1 {a0 : Int} {a1 : Ty.T y57} (h0 : cur a1) : d47g1 a0 a1 = true := (st47g1 h0).d
theorem uq47g1_0 {a0 : Int} {a1 : Ty.T y57} (h0 : cur a1) : cur (v47g1 a0 a1).2 := (st47g1 h0).v
theorem st27g1_1 {i j : Int} {b : Bool} {c : Ty.T y57} {s : Ty.T y47} {q : Ty.T (.pair (.int .i64) (.int .i64))} {ps : List (Ty.T y65)} {ss : List (Ty.T y63)} (h : cur c) (h0 : 0 ≤ i) (h1 : i < (ss.length : Int)) : Sat (t27g1_1 (i, j, b, c, s, q, ps, ss, ()) some) fun r => r.length = ss.length := by
  unfold t27g1_1
  dsimp only
  obtain ⟨x, hx, _⟩ := getE (l := ss) h0 h1
  simp (maxDischargeDepth := 99) only [false_and, and_false, Sat_cond, Sat_some, false_and, and_false, Sat_ite, Sat_ifz, Sat_opt, Sat_none, cond_true, cond_false, and_true, true_and, implies_true, and_self, ne_eq, reduceCtorEq, not_false_eq_true, true_or, or_true, false_or, or_false, Nat.zero_ne_one, Nat.one_ne_zero, List.length_cons, List.length_nil, Nat.reduceAdd, Nat.reduceLeDiff, Int.cast_ofNat_Int, few_nil, few_pair, few_int, few_bool, few_str, few_nul, z44g1, uq44g1, h]
  exact ⟨h0, h1, x, hx, List.length_set⟩
theorem st27g1_2 {i j i2 k : Int} {b : Bool} {li : List Int} {c : Ty.T y57} {s : Ty.T y47} {q : Ty.T (.pair (.int .i64) (.int .i64))} {ps : List (Ty.T y65)} {ss : List (Ty.T y63)} (h : cur c) (h0 : 0 ≤ i) (h1 : i < (ss.length : Int)) : Sat (t27g1_2 (i, j, b, i2, li, k, c, s, q, ps, ss, ()) some) fun r => r.length = ss.length := by
  unfold t27g1_2
  dsimp only
  obtain ⟨x, hx, _⟩ := getE (l := ss) h0 h1
  simp (maxDischargeDepth := 99) only [false_and, and_false, Sat_cond, Sat_some, false_and, and_false, Sat_ite, Sat_ifz, Sat_opt, Sat_none, cond_true, cond_false, and_true, true_and, implies_true, and_self, ne_eq, reduceCtorEq, not_false_eq_true, true_or, or_true, false_or, or_false, Nat.zero_ne_one, Nat.one_ne_zero, List.length_cons, List.length_nil, Nat.reduceAdd, Nat.reduceLeDiff, Int.cast_ofNat_Int, few_nil, few_pair, few_int, few_bool, few_str, few_nul, z44g1, uq44g1, h]
  exact ⟨h0, h1, x, hx, List.length_set⟩
theorem lp27g1 {c : Ty.T y57} {s : Ty.T y47} {q : Ty.T (.pair (.int .i64) (.int .i64))} {ps : List (Ty.T y65)} {ss : List (Ty.T y63)} (hs : ss.length = 2) (h : cur c) : k27g1_0 0 c s q ps ss 0 = true ∧ ∃ c' ss', cur c' ∧ List.length ss' = 2 ∧ w27g1_0 0 c s q ps ss = ((2 : Int), c', s, q, ps, ss', ()) := by
  have := run_sat (s := s27g1_0) (Q := fun v => ∃ c' ss', cur c' ∧ List.length ss' = 2 ∧ v = ((2 : Int), c', s, q, ps, ss', ())) (fun k v => ∃ (i : Int) (c : Ty.T y57) (ss : List (Ty.T y63)), v = (i, c, s, q, ps, ss, ()) ∧ cur c ∧ ss.length = 2 ∧ 0 ≤ i ∧ i + k = 2) (fun k v hv => by
    obtain ⟨i, c, ss, rfl, h1, h2, h3, h4⟩ := hv
    unfold s27g1_0 t27g1_0
    dsimp only
    rw [Sat_cond]
    refine ⟨fun hl => ?_, fun hl => ?_⟩
    · have hl : i < 2 := of_decide_eq_true hl
      have e : IntKind.wrap .i64 (i + 1) = i + 1 := wrap_in (by omega) (by omega)
      have s1 := st27g1_1 (i := i) (j := i) (b := decide (i < 2)) (c := c) (s := s) (q := q) (ps := ps) (ss := ss) h1 h3 (by omega)
      have l1 : (c27g1_1 (i, i, decide (i < 2), c, s, q, ps, ss, ())).length = 2 := (s1.v (z := [])).trans h2
      have s2 := st27g1_2 (i := i) (j := i) (i2 := i) (k := (v44g1 [20, 20, 3, 1, 10] c).1) (b := decide (i < 2)) (li := [20, 20, 3, 1, 10]) (c := (v44g1 [20, 20, 3, 1, 10] c).2) (s := s) (q := q) (ps := ps) (ss := c27g1_1 (i, i, decide (i < 2), c, s, q, ps, ss, ())) (uq44g1 (by simp) h1) h3 (by omega)
      have g1 : g27g1_1 (i, i, decide (i < 2), c, s, q, ps, ss, ()) = true := s1.d
      have g2 : g27g1_2 (i, i, decide (i < 2), i, [20, 20, 3, 1, 10], (v44g1 [20, 20, 3, 1, 10] c).1, (v44g1 [20, 20, 3, 1, 10] c).2, s, q, ps, c27g1_1 (i, i, decide (i < 2), c, s, q, ps, ss, ()), ()) = true := s2.d
      rw [g1, g2, cond_true, cond_true, Sat_some]
      refine .inr ⟨rfl, k - 1, by omega, i + 1, _, _, by rw [e] <;> rfl, uq44g1 (l := [0, 0, 8, 1]) (by simp) (uq44g1 (l := [20, 20, 3, 1, 10]) (by simp) h1), (s2.v (z := [])).trans l1, by omega, by omega⟩
    · have hl : ¬ i < 2 := of_decide_eq_false hl
      have : i = 2 := by omega
      subst this
      rw [Sat_some]
      exact .inl ⟨rfl, c, ss, h1, h2, rfl⟩) 2 ((0 : Int), c, s, q, ps, ss, ()) (n27g1_0 ((0 : Int), c, s, q, ps, ss, ())) ⟨0, c, ss, rfl, h, hs, by omega, by omega⟩ (by simp only [n27g1_0]; omega)
  exact ⟨this.1.1, this.2⟩
theorem lq27g1 {id n : Int} {c : Ty.T y57} {s : Ty.T y47} {q : Ty.T (.pair (.int .i64) (.int .i64))} {ps : List (Ty.T y65)} {ss : List (Ty.T y63)} (h0 : 0 ≤ n) (hp : (ps.length : Int) + n ≤ 1000) (h : cur c) :
    k27g1_3 id n c s q ps ss 0 = true ∧ ∃ (id' : Int) (c' : Ty.T y57) (ps' : List (Ty.T y65)), cur c' ∧ (ps'.length : Int) = ps.length + n ∧ w27g1_3 id n c s q ps ss = (id', (0 : Int), c', s, q, ps', ss, ()) := by
  have := run_sat (s := s27g1_3) (Q := fun v => ∃ (id' : Int) (c' : Ty.T y57) (ps' : List (Ty.T y65)), cur c' ∧ (ps'.length : Int) = ps.length + n ∧ v = (id', (0 : Int), c', s, q, ps', ss, ()))
    (fun k v => ∃ (id m : Int) (c : Ty.T y57) (qs : List (Ty.T y65)), v = (id, m, c, s, q, qs, ss, ()) ∧ cur c ∧ m = k ∧ (qs.length : Int) + m = ps.length + n) (fun k v hv => by
    obtain ⟨id, m, c, qs, rfl, hc, hk, hq⟩ := hv
    unfold s27g1_3 t27g1_3
    dsimp only
    rw [Sat_cond]
    refine ⟨fun hl => ?_, fun hl => ?_⟩
    · have hl : m > 0 := of_decide_eq_true hl
      have e : IntKind.wrap .i64 (m - 1) = m - 1 := wrap_in (by omega) (by omega)
      have hz : ∀ p : Ty.T y65, (qs ++ [p]).length * 96 ≤ 140737488351232 := fun p => by simp only [List.length_append, List.length_cons, List.length_nil]; omega
      rw [z43g1 hc, z47g1 (uq43g1 hc), cond_true, cond_true, if_pos (hz _), Sat_some]
      exact .inr ⟨rfl, k - 1, by omega, _, m - 1, _, _, by rw [e], uq47g1_0 (uq43g1 hc), by omega, by simp only [List.length_append, List.length_cons, List.length_nil]; omega⟩
    · have hl : ¬ m > 0 := of_decide_eq_false hl
      have : m = 0 := by omega
      subst this
      rw [Sat_some]
      exact .inl ⟨rfl, id, c, qs, hc, by omega, rfl⟩) n.toNat (id, n, c, s, q, ps, ss, ()) (n27g1_3 (id, n, c, s, q, ps, ss, ())) ⟨id, n, c, ps, rfl, h, by omega, rfl⟩ (by simp only [n27g1_3]; omega)
  exact ⟨this.1.1, this.2⟩
theorem st27g1 {a0 : Ty.T y57} (h : cur a0) : Sat (t27g1 a0 some) fun r => cur r.2.1 ∧ 1 ≤ r.2.2.1.length ∧ r.2.2.1.length ≤ 6 ∧ r.2.2.2.length = 2 := by
  have d0 : d46 2 = true := rfl
  obtain ⟨k1, c1, ss1, hc1, hs1, w1⟩ := lp27g1 (c := (v43g1 2 (v43g1 3 a0).2).2) (s := ([], [], 0, 0)) (q := ((v43g1 2 (v43g1 3 a0).2).1, IntKind.wrap .i64 ((2 : Int) + (v43g1 3 a0).1))) (ps := (v46 2).2.1) (ss := (v46 2).2.2) rfl (uq43g1 (uq43g1 h))
  have hb := (below 5 c1 hc1).2.1 (by omega)
  have e : IntKind.wrap .i64 ((1 : Int) + (v43g1 5 c1).1) = 1 + (v43g1 5 c1).1 := wrap_in (by omega) (by omega)
  obtain ⟨k2, i2, c2, ps2, hc2, hl2, w2⟩ := lq27g1 (id := 0) (n := 1 + (v43g1 5 c1).1) (c := (v43g1 5 c1).2) (s := ([], [], 0, 0)) (q := ((v43g1 2 (v43g1 3 a0).2).1, IntKind.wrap .i64 ((2 : Int) + (v43g1 3 a0).1))) (ps := (v46 2).2.1) (ss := ss1) (by omega) (by show ((([] : List (Ty.T y65)).length : Int)) + _ ≤ 1000; simp; omega) (uq43g1 hc1)
  have hl2 : (ps2.length : Int) = 1 + (v43g1 5 c1).1 := by rw [hl2]; show (0 : Int) + _ = _; omega
  unfold t27g1
  have e0 : e27g1_0 a0 = _ := w1
  have e1 : e27g1_1 a0 = (i2, (0 : Int), c2, ([], [], 0, 0), ((v43g1 2 (v43g1 3 a0).2).1, IntKind.wrap .i64 ((2 : Int) + (v43g1 3 a0).1)), ps2, ss1, ()) := by unfold e27g1_1; rw [e0]; dsimp only; rw [e]; exact w2
  rw [d0, z43g1 h, z43g1 (uq43g1 h), k1, e1, e0]
  dsimp only
  rw [e, z43g1 hc1, k2]
  simp only [cond_true, Sat_some]
  exact ⟨hc2, by omega, by omega, hs1⟩
theorem z27g1 {a0 : Ty.T y57} (h : cur a0) : d27g1 a0 = true := (st27g1 h).d
theorem uq27g1_0 {a0 : Ty.T y57} (h : cur a0) : cur (v27g1 a0).2.1 := (st27g1 h).v.1
theorem st60g1_0 {k : Int} {c : Ty.T y57} {s : Ty.T y47} (h : cur c) (hl : 0 < s.1.length) : Sat (t60g1_0 (k, c, s, ()) some) fun _ => True := by
  have b := (below (s.1.length : Int) c h).2.1 (by omega)
  obtain ⟨x, hx, _⟩ := getE (l := s.1) b.1 b.2
  unfold t60g1_0
  simp (maxDischargeDepth := 99) only [false_and, and_false, Sat_cond, Sat_some, false_and, and_false, Sat_ite, Sat_ifz, Sat_opt, Sat_none, cond_true, cond_false, and_true, true_and, implies_true, and_self, ne_eq, reduceCtorEq, not_false_eq_true, true_or, or_true, false_or, or_false, Nat.zero_ne_one, Nat.one_ne_zero, List.length_cons, List.length_nil, Nat.reduceAdd, Nat.reduceLeDiff, Int.cast_ofNat_Int, few_nil, few_pair, few_int, few_bool, few_str, few_nul, z43g1, uq43g1, z51g1, uq51g1, h]
  exact ⟨b.1, x, hx⟩
theorem st60g1 {a0 : Ty.T y47} {a1 : Ty.T y57} (h : cur a1) : Sat (t60g1 a0 a1 some) fun r => cur r.2 := by
  unfold t60g1
  rw [Sat_cond]
  refine ⟨fun _ => ?_, fun h0 => ?_⟩
  · simp (maxDischargeDepth := 99) only [false_and, and_false, Sat_cond, Sat_some, false_and, and_false, Sat_ite, Sat_ifz, Sat_opt, Sat_none, cond_true, cond_false, and_true, true_and, implies_true, and_self, ne_eq, reduceCtorEq, not_false_eq_true, true_or, or_true, false_or, or_false, Nat.zero_ne_one, Nat.one_ne_zero, List.length_cons, List.length_nil, Nat.reduceAdd, Nat.reduceLeDiff, Int.cast_ofNat_Int, few_nil, few_pair, few_int, few_bool, few_str, few_nul, z43g1, uq43g1, z51g1, uq51g1, h]
  · have hp : 0 < a0.1.length := by simp at h0; exact List.length_pos_iff.2 h0
    have g : g60g1_0 (0, (v51g1 8 a1).2, a0, ()) = true := (st60g1_0 (uq51g1 h) hp).d
    simp (maxDischargeDepth := 99) only [false_and, and_false, Sat_cond, Sat_some, false_and, and_false, Sat_ite, Sat_ifz, Sat_opt, Sat_none, cond_true, cond_false, and_true, true_and, implies_true, and_self, ne_eq, reduceCtorEq, not_false_eq_true, true_or, or_true, false_or, or_false, Nat.zero_ne_one, Nat.one_ne_zero, List.length_cons, List.length_nil, Nat.reduceAdd, Nat.reduceLeDiff, Int.cast_ofNat_Int, few_nil, few_pair, few_int, few_bool, few_str, few_nul, z43g1, uq43g1, z51g1, uq51g1, h, g]
theorem z60g1 {a0 : Ty.T y47} {a1 : Ty.T y57} (h : cur a1) : d60g1 a0 a1 = true := (st60g1 h).d
theorem uq60g1_0 {a0 : Ty.T y47} {a1 : Ty.T y57} (h : cur a1) : cur (v60g1 a0 a1).2 := (st60g1 h).v
theorem ue42g1_0_0 {a1 : Ty.T y57} (h0 : cur a1) : cur (e42g1_0 a1).2 := by
  unfold e42g1_0
  simp (maxDischargeDepth := 99) only [false_and, and_false, Sat_cond, Sat_some, false_and, and_false, Sat_ite, Sat_ifz, Sat_opt, Sat_none, cond_true, cond_false, and_true, true_and, implies_true, and_self, ne_eq, reduceCtorEq, not_false_eq_true, true_or, or_true, false_or, or_false, Nat.zero_ne_one, Nat.one_ne_zero, List.length_cons, List.length_nil, Nat.reduceAdd, Nat.reduceLeDiff, Int.cast_ofNat_Int, z44g1, uq44g1, h0]
theorem ue42g1_1_0 {a0 : Ty.T y47} {a1 : Ty.T y57} (h0 : cur a1) : cur (e42g1_1 a0 a1).2 := by
  unfold e42g1_1
  simp (maxDischargeDepth := 99) only [false_and, and_false, Sat_cond, Sat_some, false_and, and_false, Sat_ite, Sat_ifz, Sat_opt, Sat_none, cond_true, cond_false, and_true, true_and, implies_true, and_self, ne_eq, reduceCtorEq, not_false_eq_true, true_or, or_true, false_or, or_false, Nat.zero_ne_one, Nat.one_ne_zero, List.length_cons, List.length_nil, Nat.reduceAdd, Nat.reduceLeDiff, Int.cast_ofNat_Int, z44g1, uq44g1, z60g1, uq60g1_0, ue42g1_0_0, h0]
theorem st42g1 {a0 : Ty.T y47} {a1 : Ty.T y57} (h0 : cur a1) : Sat (t42g1 a0 a1 some) (fun r => cur r.2) := by
  unfold t42g1
  simp (maxDischargeDepth := 99) only [false_and, and_false, Sat_cond, Sat_some, false_and, and_false, Sat_ite, Sat_ifz, Sat_opt, Sat_none, cond_true, cond_false, and_true, true_and, implies_true, and_self, ne_eq, reduceCtorEq, not_false_eq_true, true_or, or_true, false_or, or_false, Nat.zero_ne_one, Nat.one_ne_zero, List.length_cons, List.length_nil, Nat.reduceAdd, Nat.reduceLeDiff, Int.cast_ofNat_Int, few_nil, few_pair, few_int, few_bool, few_str, few_nul, z44g1, uq44g1, z60g1, uq60g1_0, ue42g1_0_0, z51g1, uq51g1, z43g1, uq43g1, ue42g1_1_0, h0]
theorem z42g1 {a0 : Ty.T y47} {a1 : Ty.T y57} (h0 : cur a1) : d42g1 a0 a1 = true := (st42g1 h0).d
theorem uq42g1_0 {a0 : Ty.T y47} {a1 : Ty.T y57} (h0 : cur a1) : cur (v42g1 a0 a1).2 := (st42g1 h0).v
theorem st62g1 {a0 : Ty.T y57} (h0 : cur a0) : Sat (t62g1 a0 some) (fun r => cur r.2) := by
  unfold t62g1
  simp (maxDischargeDepth := 99) only [false_and, and_false, Sat_cond, Sat_some, false_and, and_false, Sat_ite, Sat_ifz, Sat_opt, Sat_none, cond_true, cond_false, and_true, true_and, implies_true, and_self, ne_eq, reduceCtorEq, not_false_eq_true, true_or, or_true, false_or, or_false, Nat.zero_ne_one, Nat.one_ne_zero, List.length_cons, List.length_nil, Nat.reduceAdd, Nat.reduceLeDiff, Int.cast_ofNat_Int, few_nil, few_pair, few_int, few_bool, few_str, few_nul, z44g1, uq44g1, h0]
theorem z62g1 {a0 : Ty.T y57} (h0 : cur a0) : d62g1 a0 = true := (st62g1 h0).d
theorem uq62g1_0 {a0 : Ty.T y57} (h0 : cur a0) : cur (v62g1 a0).2 := (st62g1 h0).v
theorem st45g1 {a0 : Ty.T y57} (h0 : cur a0) : Sat (t45g1 a0 some) (fun r => cur r.2) := by
  unfold t45g1
  simp (maxDischargeDepth := 99) only [false_and, and_false, Sat_cond, Sat_some, false_and, and_false, Sat_ite, Sat_ifz, Sat_opt, Sat_none, cond_true, cond_false, and_true, true_and, implies_true, and_self, ne_eq, reduceCtorEq, not_false_eq_true, true_or, or_true, false_or, or_false, Nat.zero_ne_one, Nat.one_ne_zero, List.length_cons, List.length_nil, Nat.reduceAdd, Nat.reduceLeDiff, Int.cast_ofNat_Int, few_nil, few_pair, few_int, few_bool, few_str, few_nul, z51g1, uq51g1, z62g1, uq62g1_0, z44g1, uq44g1, h0]
theorem z45g1 {a0 : Ty.T y57} (h0 : cur a0) : d45g1 a0 = true := (st45g1 h0).d
theorem uq45g1_0 {a0 : Ty.T y57} (h0 : cur a0) : cur (v45g1 a0).2 := (st45g1 h0).v
theorem st26g1 {a0 : Ty.T y47} {a1 : Ty.T y57} (h0 : cur a1) : Sat (t26g1 a0 a1 some) (fun r => cur r.2) := by
  unfold t26g1
  simp (maxDischargeDepth := 99) only [false_and, and_false, Sat_cond, Sat_some, false_and, and_false, Sat_ite, Sat_ifz, Sat_opt, Sat_none, cond_true, cond_false, and_true, true_and, implies_true, and_self, ne_eq, reduceCtorEq, not_false_eq_true, true_or, or_true, false_or, or_false, Nat.zero_ne_one, Nat.one_ne_zero, List.length_cons, List.length_nil, Nat.reduceAdd, Nat.reduceLeDiff, Int.cast_ofNat_Int, few_nil, few_pair, few_int, few_bool, few_str, few_nul, z42g1, uq42g1_0, z43g1, uq43g1, z44g1, uq44g1, z45g1, uq45g1_0, h0]
theorem z26g1 {a0 : Ty.T y47} {a1 : Ty.T y57} (h0 : cur a1) : d26g1 a0 a1 = true := (st26g1 h0).d
theorem uq26g1_0 {a0 : Ty.T y47} {a1 : Ty.T y57} (h0 : cur a1) : cur (v26g1 a0 a1).2 := (st26g1 h0).v
theorem dgs (n : Nat) : (decN n).data.toList.all isDg = true ∧ valN (decN n).data.toList = n := by
  have small : ∀ d, d < 10 → ((dg d).data.toList.all isDg = true ∧ (dg d).data.toList = [UInt8.ofNat (48 + d)] ∧ (UInt8.ofNat (48 + d)).toNat - 48 = d ∧ valN (dg d).data.toList = d) := by decide
  induction n using Nat.strongRecOn with
  | _ n ih =>
    by_cases h : n < 10
    · rw [decN_small n h]
      exact ⟨(small n h).1, (small n h).2.2.2⟩
    · obtain ⟨i1, i2⟩ := ih (n / 10) (by omega)
      obtain ⟨s1, s2, s3, _⟩ := small (n % 10) (by omega)
      rw [decN_step n h]
      have e : (decN (n / 10) ++ dg (n % 10)).data.toList = (decN (n / 10)).data.toList ++ (dg (n % 10)).data.toList := by simp
      rw [e]
      refine ⟨by rw [List.all_append, i1, s1]; rfl, ?_⟩
      rw [s2, valN_snoc, i2, s3]
      omega
theorem bodyT (n : Int) (h : -2147483647 ≤ n ∧ n ≤ 2147483647) : resN (txt n) (decN n.natAbs).data.toList = (n, true) := by
  obtain ⟨c, l, e1, e2⟩ := decN_head n.natAbs
  obtain ⟨d1, d2⟩ := dgs n.natAbs
  have hs : (decN n.natAbs).data.toList.length = (decN n.natAbs).size := rfl
  have hz := decN_size 9 n.natAbs (by omega)
  have hne : (decN n.natAbs).data.toList.length ≠ 0 := by rw [e1, data_mkB]; simp
  unfold resN
  rw [if_neg (by omega), if_neg (by rw [d1]; decide), if_neg, if_neg (by rw [d2]; omega), d2, mkB_self]
  · by_cases hn : n < 0
    · rw [if_neg]
      · congr 1; omega
      · intro e
        unfold txt at e
        rw [if_pos hn] at e
        have := congrArg ByteArray.size e
        rw [ByteArray.size_append, minus_size] at this
        omega
    · have ht : txt n = decN n.natAbs := by unfold txt; rw [if_neg hn]
      rw [if_pos ht.symm]
      congr 1; omega
  · rintro ⟨h1, h2⟩
    rw [e1, data_mkB] at h1
    have hc : c = 48 := by simpa using h1
    obtain ⟨rfl, h0⟩ := e2 hc
    subst hc
    apply h2
    have : n = 0 := by omega
    subst this
    exact e1
theorem parseTxt (n : Int) (h : -2147483647 ≤ n ∧ n ≤ 2147483647) : v38 (txt n) = (n, true) := by
  have eS : ∀ s : ByteArray, t38 s some = cond (decide ((s.size : Int) > (0 : Int))) (optC (s[0]?) (fun x1 => cond ((x1.toNat : Int) == (45 : Int)) (if (1 : Int) ≤ (s.size : Int) then bodyS s (s.extract 1 s.size) else none) (bodyS s s))) (bodyS s s) := fun _ => rfl
  have key : t38 (txt n) some = some (n, true) := by
    obtain ⟨c, l, e1, _⟩ := decN_head n.natAbs
    rw [eS, ← bodyT n h]
    by_cases hn : n < 0
    · have ht : txt n = minus ++ decN n.natAbs := by unfold txt; rw [if_pos hn]
      have hsz : (txt n).size = 1 + (decN n.natAbs).size := by rw [ht, ByteArray.size_append, minus_size]
      obtain ⟨b, b1, b2⟩ := get_of (txt n) 0 (by omega)
      have hb : b = 45 := by
        have e : (txt n).data.toList = 45 :: (decN n.natAbs).data.toList := by rw [ht]; simp [minus]
        rw [e] at b2
        simpa using b2.symm
      subst hb
      rw [decide_eq_true (by omega), cond_true, b1, optC_some, show (((45 : UInt8).toNat : Int) == (45 : Int)) = true from rfl, cond_true, if_pos (by omega), bodyS_res]
      have e : (txt n).extract 1 (txt n).size = decN n.natAbs := by
        rw [ex_of, List.take_of_length_le (show (txt n).data.toList.length ≤ (txt n).size from Nat.le_refl _), ht]
        have e2 : (minus ++ decN n.natAbs).data.toList = 45 :: (decN n.natAbs).data.toList := by simp [minus]
        rw [e2]
        exact mkB_self _
      rw [e]
    · have ht : txt n = decN n.natAbs := by unfold txt; rw [if_neg hn]
      have e2 : (txt n).data.toList = c :: l := by rw [ht, e1, data_mkB]
      have hsz : (txt n).data.toList.length = (txt n).size := rfl
      rw [e2, List.length_cons] at hsz
      obtain ⟨b, b1, b2⟩ := get_of (txt n) 0 (by omega)
      have hb : b = c := by rw [e2] at b2; simpa using b2.symm
      subst hb
      have hd : isDg b = true := by
        have := (dgs n.natAbs).1
        rw [← ht, e2, List.all_cons, Bool.and_eq_true] at this
        exact this.1
      have hne : ((b.toNat : Int) == (45 : Int)) = false := beq_eq_false_iff_ne.2 (fun e => by
        simp only [isDg, Bool.and_eq_true, decide_eq_true_eq] at hd
        omega)
      rw [decide_eq_true (by omega), cond_true, b1, optC_some, hne, cond_false, bodyS_res, ht]
  unfold v38
  rw [key]
  rfl
theorem noSp (n : Int) : (32 : UInt8) ∉ (txt n).data.toList := fun h => by
  have := cnt_txt n
  unfold cnt at this
  exact absurd h (List.count_eq_zero.1 this)
theorem cuts_join : ∀ (x : ByteArray) (ws : List ByteArray), (∀ w ∈ x :: ws, (32 : UInt8) ∉ w.data.toList) → (cuts (joinB (x :: ws) (ByteArray.mk #[32])).data.toList).map mkB = x :: ws
  | x, [], h => by
    rw [joinB_one, cuts_miss _ (h x List.mem_cons_self), List.map_cons, mkB_self]
    rfl
  | x, y :: ws, h => by
    have ih := cuts_join y ws (fun w hw => h w (List.mem_cons_of_mem _ hw))
    have e : (x ++ (ByteArray.mk #[32] ++ joinB (y :: ws) (ByteArray.mk #[32]))).data.toList = x.data.toList ++ 32 :: (joinB (y :: ws) (ByteArray.mk #[32])).data.toList := by simp
    rw [joinB_cons, e, cuts_hit _ _ (h x List.mem_cons_self), List.map_cons, mkB_self, ih]
theorem kw_hurt_hurt : decide ((ByteArray.mk #[104, 117, 114, 116]) = (ByteArray.mk #[104, 117, 114, 116])) = true := by decide
theorem kw_hurt_move : decide ((ByteArray.mk #[104, 117, 114, 116]) = (ByteArray.mk #[109, 111, 118, 101])) = false := by decide
theorem kw_hurt_gain : decide ((ByteArray.mk #[104, 117, 114, 116]) = (ByteArray.mk #[103, 97, 105, 110])) = false := by decide
theorem kw_hurt_lose : decide ((ByteArray.mk #[104, 117, 114, 116]) = (ByteArray.mk #[108, 111, 115, 101])) = false := by decide
theorem kw_hurt_put : decide ((ByteArray.mk #[104, 117, 114, 116]) = (ByteArray.mk #[112, 117, 116])) = false := by decide
theorem kw_hurt_cut : decide ((ByteArray.mk #[104, 117, 114, 116]) = (ByteArray.mk #[99, 117, 116])) = false := by decide
theorem kw_hurt_side : decide ((ByteArray.mk #[104, 117, 114, 116]) = (ByteArray.mk #[115, 105, 100, 101])) = false := by decide
theorem kw_hurt_piece : decide ((ByteArray.mk #[104, 117, 114, 116]) = (ByteArray.mk #[112, 105, 101, 99, 101])) = false := by decide
theorem kw_move_hurt : decide ((ByteArray.mk #[109, 111, 118, 101]) = (ByteArray.mk #[104, 117, 114, 116])) = false := by decide
theorem kw_move_move : decide ((ByteArray.mk #[109, 111, 118, 101]) = (ByteArray.mk #[109, 111, 118, 101])) = true := by decide
theorem kw_move_gain : decide ((ByteArray.mk #[109, 111, 118, 101]) = (ByteArray.mk #[103, 97, 105, 110])) = false := by decide
theorem kw_move_lose : decide ((ByteArray.mk #[109, 111, 118, 101]) = (ByteArray.mk #[108, 111, 115, 101])) = false := by decide
theorem kw_move_put : decide ((ByteArray.mk #[109, 111, 118, 101]) = (ByteArray.mk #[112, 117, 116])) = false := by decide
theorem kw_move_cut : decide ((ByteArray.mk #[109, 111, 118, 101]) = (ByteArray.mk #[99, 117, 116])) = false := by decide
theorem kw_move_side : decide ((ByteArray.mk #[109, 111, 118, 101]) = (ByteArray.mk #[115, 105, 100, 101])) = false := by decide
theorem kw_move_piece : decide ((ByteArray.mk #[109, 111, 118, 101]) = (ByteArray.mk #[112, 105, 101, 99, 101])) = false := by decide
theorem kw_gain_hurt : decide ((ByteArray.mk #[103, 97, 105, 110]) = (ByteArray.mk #[104, 117, 114, 116])) = false := by decide
theorem kw_gain_move : decide ((ByteArray.mk #[103, 97, 105, 110]) = (ByteArray.mk #[109, 111, 118, 101])) = false := by decide
theorem kw_gain_gain : decide ((ByteArray.mk #[103, 97, 105, 110]) = (ByteArray.mk #[103, 97, 105, 110])) = true := by decide
theorem kw_gain_lose : decide ((ByteArray.mk #[103, 97, 105, 110]) = (ByteArray.mk #[108, 111, 115, 101])) = false := by decide
theorem kw_gain_put : decide ((ByteArray.mk #[103, 97, 105, 110]) = (ByteArray.mk #[112, 117, 116])) = false := by decide
theorem kw_gain_cut : decide ((ByteArray.mk #[103, 97, 105, 110]) = (ByteArray.mk #[99, 117, 116])) = false := by decide
theorem kw_gain_side : decide ((ByteArray.mk #[103, 97, 105, 110]) = (ByteArray.mk #[115, 105, 100, 101])) = false := by decide
theorem kw_gain_piece : decide ((ByteArray.mk #[103, 97, 105, 110]) = (ByteArray.mk #[112, 105, 101, 99, 101])) = false := by decide
theorem kw_lose_hurt : decide ((ByteArray.mk #[108, 111, 115, 101]) = (ByteArray.mk #[104, 117, 114, 116])) = false := by decide
theorem kw_lose_move : decide ((ByteArray.mk #[108, 111, 115, 101]) = (ByteArray.mk #[109, 111, 118, 101])) = false := by decide
theorem kw_lose_gain : decide ((ByteArray.mk #[108, 111, 115, 101]) = (ByteArray.mk #[103, 97, 105, 110])) = false := by decide
theorem kw_lose_lose : decide ((ByteArray.mk #[108, 111, 115, 101]) = (ByteArray.mk #[108, 111, 115, 101])) = true := by decide
theorem kw_lose_put : decide ((ByteArray.mk #[108, 111, 115, 101]) = (ByteArray.mk #[112, 117, 116])) = false := by decide
theorem kw_lose_cut : decide ((ByteArray.mk #[108, 111, 115, 101]) = (ByteArray.mk #[99, 117, 116])) = false := by decide
theorem kw_lose_side : decide ((ByteArray.mk #[108, 111, 115, 101]) = (ByteArray.mk #[115, 105, 100, 101])) = false := by decide
theorem kw_lose_piece : decide ((ByteArray.mk #[108, 111, 115, 101]) = (ByteArray.mk #[112, 105, 101, 99, 101])) = false := by decide
theorem kw_put_hurt : decide ((ByteArray.mk #[112, 117, 116]) = (ByteArray.mk #[104, 117, 114, 116])) = false := by decide
theorem kw_put_move : decide ((ByteArray.mk #[112, 117, 116]) = (ByteArray.mk #[109, 111, 118, 101])) = false := by decide
theorem kw_put_gain : decide ((ByteArray.mk #[112, 117, 116]) = (ByteArray.mk #[103, 97, 105, 110])) = false := by decide
theorem kw_put_lose : decide ((ByteArray.mk #[112, 117, 116]) = (ByteArray.mk #[108, 111, 115, 101])) = false := by decide
theorem kw_put_put : decide ((ByteArray.mk #[112, 117, 116]) = (ByteArray.mk #[112, 117, 116])) = true := by decide
theorem kw_put_cut : decide ((ByteArray.mk #[112, 117, 116]) = (ByteArray.mk #[99, 117, 116])) = false := by decide
theorem kw_put_side : decide ((ByteArray.mk #[112, 117, 116]) = (ByteArray.mk #[115, 105, 100, 101])) = false := by decide
theorem kw_put_piece : decide ((ByteArray.mk #[112, 117, 116]) = (ByteArray.mk #[112, 105, 101, 99, 101])) = false := by decide
theorem kw_cut_hurt : decide ((ByteArray.mk #[99, 117, 116]) = (ByteArray.mk #[104, 117, 114, 116])) = false := by decide
theorem kw_cut_move : decide ((ByteArray.mk #[99, 117, 116]) = (ByteArray.mk #[109, 111, 118, 101])) = false := by decide
theorem kw_cut_gain : decide ((ByteArray.mk #[99, 117, 116]) = (ByteArray.mk #[103, 97, 105, 110])) = false := by decide
theorem kw_cut_lose : decide ((ByteArray.mk #[99, 117, 116]) = (ByteArray.mk #[108, 111, 115, 101])) = false := by decide
theorem kw_cut_put : decide ((ByteArray.mk #[99, 117, 116]) = (ByteArray.mk #[112, 117, 116])) = false := by decide
theorem kw_cut_cut : decide ((ByteArray.mk #[99, 117, 116]) = (ByteArray.mk #[99, 117, 116])) = true := by decide
theorem kw_cut_side : decide ((ByteArray.mk #[99, 117, 116]) = (ByteArray.mk #[115, 105, 100, 101])) = false := by decide
theorem kw_cut_piece : decide ((ByteArray.mk #[99, 117, 116]) = (ByteArray.mk #[112, 105, 101, 99, 101])) = false := by decide
theorem kw_side_side : decide ((ByteArray.mk #[115, 105, 100, 101]) = (ByteArray.mk #[115, 105, 100, 101])) = true := by decide
theorem kw_side_piece : decide ((ByteArray.mk #[115, 105, 100, 101]) = (ByteArray.mk #[112, 105, 101, 99, 101])) = false := by decide
theorem kw_piece_side : decide ((ByteArray.mk #[112, 105, 101, 99, 101]) = (ByteArray.mk #[115, 105, 100, 101])) = false := by decide
theorem kw_piece_piece : decide ((ByteArray.mk #[112, 105, 101, 99, 101]) = (ByteArray.mk #[112, 105, 101, 99, 101])) = true := by decide
theorem nth1 (x x1 : ByteArray) (l : List ByteArray) : nth (x :: x1 :: l) 1 = (v38 x1).1 := rfl
theorem nth2 (x x1 x2 : ByteArray) (l : List ByteArray) : nth (x :: x1 :: x2 :: l) 2 = (v38 x2).1 := rfl
theorem nth3 (x x1 x2 x3 : ByteArray) (l : List ByteArray) : nth (x :: x1 :: x2 :: x3 :: l) 3 = (v38 x3).1 := rfl
theorem nth4 (x x1 x2 x3 x4 : ByteArray) (l : List ByteArray) : nth (x :: x1 :: x2 :: x3 :: x4 :: l) 4 = (v38 x4).1 := rfl
theorem noK (a : Int) (k1 : ¬ a = 1) (k2 : ¬ a = 2) (k3 : ¬ a = 3) (k4 : ¬ a = 4) (k5 : ¬ a = 5) (k6 : ¬ a = 6) : ¬ (1 ≤ a ∧ a ≤ 6) := by omega
theorem evKind (a b c d n z : Int) (t : Bool) (h : v39 ((a, b, c, d, n, z, t) : Ty.T y27) = true) : (a = 1 → z = 0 ∧ t = false ∧ (c ≠ 0 → d = -1)) ∧ (a = 2 → b = 0 ∧ d = -1) ∧ (a = 3 ∨ a = 4 → b = 0 ∧ c = 0 ∧ z = 0 ∧ t = false) ∧ (a = 5 ∨ a = 6 → b = 0 ∧ d = -1 ∧ z = 0 ∧ t = false) ∧ (1 ≤ a ∧ a ≤ 6) := by
  have cc : ∀ (p q r : Bool), cond p q r = true ↔ (p = true ∧ q = true) ∨ (p = false ∧ r = true) := by decide
  have cf : ∀ (p q r : Bool), cond p q r = false ↔ (p = true ∧ q = false) ∨ (p = false ∧ r = false) := by decide
  unfold v39 at h
  try unfold t39 at h
  simp only [v58] at h
  dsimp only [Ty.T] at h
  cases t <;> simp [cc, cf] at h ⊢ <;> omega
theorem evBack (e : Ty.T y27) (ho : v39 e = true) : ∃ x ws, t16 e some = some (joinB (x :: ws) (ByteArray.mk #[32])) ∧ (∀ w ∈ x :: ws, (32 : UInt8) ∉ w.data.toList) ∧ candE x (x :: ws) = e := by
  obtain ⟨q0, q1, q2, q3, q4⟩ := evIn e ho
  unfold inR at q0 q1 q2 q3 q4
  unfold t16
  rw [evOk, ho]
  have r0 : I64 e.2.1 := by unfold I64; omega
  have h0 := txt_size r0
  have p0 := parseTxt e.2.1 (by omega)
  have s0 := noSp e.2.1
  have r1 : I64 e.2.2.1 := by unfold I64; omega
  have h1 := txt_size r1
  have p1 := parseTxt e.2.2.1 (by omega)
  have s1 := noSp e.2.2.1
  have r2 : I64 e.2.2.2.1 := by unfold I64; omega
  have h2 := txt_size r2
  have p2 := parseTxt e.2.2.2.1 (by omega)
  have s2 := noSp e.2.2.2.1
  have r3 : I64 e.2.2.2.2.1 := by unfold I64; omega
  have h3 := txt_size r3
  have p3 := parseTxt e.2.2.2.2.1 (by omega)
  have s3 := noSp e.2.2.2.2.1
  have r4 : I64 e.2.2.2.2.2.1 := by unfold I64; omega
  have h4 := txt_size r4
  have p4 := parseTxt e.2.2.2.2.2.1 (by omega)
  have s4 := noSp e.2.2.2.2.2.1
  simp only [Bool.not_true, cond_false, (numI _ r0).1, (numI _ r0).2, (numI _ r1).1, (numI _ r1).2, (numI _ r2).1, (numI _ r2).2, (numI _ r3).1, (numI _ r3).2, (numI _ r4).1, (numI _ r4).2, cond_true]
  unfold d29 v29
  obtain ⟨a, b, c, d, n, z, t⟩ := e
  have q5 := evKind a b c d n z t ho
  clear ho q0 q1 q2 q3 q4 r0 r1 r2 r3 r4
  dsimp only at h0 h1 h2 h3 h4 p0 p1 p2 p3 p4 s0 s1 s2 s3 s4 ⊢
  revert h0 p0 s0 h1 p1 s1 h2 p2 s2 h3 p3 s3 h4 p4 s4
  generalize txt b = t0
  generalize txt c = t1
  generalize txt d = t2
  generalize txt n = t3
  generalize txt z = t4
  intro h0 p0 s0 h1 p1 s1 h2 p2 s2 h3 p3 s3 h4 p4 s4
  by_cases k1 : a = 1
  · subst k1
    simp only [show ((1 : Int) == 1) = true from rfl, show ((1 : Int) == 2) = false from rfl, show ((1 : Int) == 3) = false from rfl, show ((1 : Int) == 4) = false from rfl, show ((1 : Int) == 5) = false from rfl, show ((1 : Int) == 6) = false from rfl, cond_true, cond_false]
    obtain ⟨rfl, rfl, hd⟩ := (q5.1 rfl)
    cases hc : (c == (0 : Int))
    · have hc0 : c ≠ 0 := beq_eq_false_iff_ne.1 hc
      have hd := hd hc0; subst hd
      simp only [bne, hc, Bool.not_false, cond_true]
      (repeat rw [if_pos (by simp only [List.nil_append, List.cons_append, List.length_append, joinB_one, joinB_cons, ByteArray.size_append, lits, List.size_toArray, List.length_cons, List.length_nil]; omega)]); (try rw [decide_eq_true (show _ ∧ _ from by simp only [List.nil_append, List.cons_append, List.length_append, joinB_one, joinB_cons, ByteArray.size_append, lits, List.size_toArray, List.length_cons, List.length_nil]; omega)]); rw [cond_true]; simp only [List.nil_append, List.cons_append]; refine ⟨_, _, rfl, ?_, ?_⟩
      · intro w hw; simp only [List.mem_cons, List.not_mem_nil, or_false] at hw; rcases hw with rfl | rfl | rfl | rfl | rfl <;> first | assumption | decide
      · simp only [candE, nth1, nth2, nth3, nth4, p0, p1, p2, p3, p4, beq_toList, kw_hurt_hurt, kw_hurt_move, kw_hurt_gain, kw_hurt_lose, kw_hurt_put, kw_hurt_cut, kw_hurt_side, kw_hurt_piece, kw_move_hurt, kw_move_move, kw_move_gain, kw_move_lose, kw_move_put, kw_move_cut, kw_move_side, kw_move_piece, kw_gain_hurt, kw_gain_move, kw_gain_gain, kw_gain_lose, kw_gain_put, kw_gain_cut, kw_gain_side, kw_gain_piece, kw_lose_hurt, kw_lose_move, kw_lose_gain, kw_lose_lose, kw_lose_put, kw_lose_cut, kw_lose_side, kw_lose_piece, kw_put_hurt, kw_put_move, kw_put_gain, kw_put_lose, kw_put_put, kw_put_cut, kw_put_side, kw_put_piece, kw_cut_hurt, kw_cut_move, kw_cut_gain, kw_cut_lose, kw_cut_put, kw_cut_cut, kw_cut_side, kw_cut_piece, kw_side_side, kw_side_piece, kw_piece_side, kw_piece_piece, cond_true, cond_false, List.getElem?_cons_succ, List.getElem?_cons_zero, Option.getD_some, Bool.and_true, Bool.and_false]; first | rfl | done
    · have hc0 : c = 0 := beq_iff_eq.1 hc
      subst hc0
      simp only [bne, hc, Bool.not_true, cond_false]
      (repeat rw [if_pos (by simp only [List.nil_append, List.cons_append, List.length_append, joinB_one, joinB_cons, ByteArray.size_append, lits, List.size_toArray, List.length_cons, List.length_nil]; omega)]); (try rw [decide_eq_true (show _ ∧ _ from by simp only [List.nil_append, List.cons_append, List.length_append, joinB_one, joinB_cons, ByteArray.size_append, lits, List.size_toArray, List.length_cons, List.length_nil]; omega)]); rw [cond_true]; simp only [List.nil_append, List.cons_append]; refine ⟨_, _, rfl, ?_, ?_⟩
      · intro w hw; simp only [List.mem_cons, List.not_mem_nil, or_false] at hw; rcases hw with rfl | rfl | rfl | rfl | rfl <;> first | assumption | decide
      · simp only [candE, nth1, nth2, nth3, nth4, p0, p1, p2, p3, p4, beq_toList, kw_hurt_hurt, kw_hurt_move, kw_hurt_gain, kw_hurt_lose, kw_hurt_put, kw_hurt_cut, kw_hurt_side, kw_hurt_piece, kw_move_hurt, kw_move_move, kw_move_gain, kw_move_lose, kw_move_put, kw_move_cut, kw_move_side, kw_move_piece, kw_gain_hurt, kw_gain_move, kw_gain_gain, kw_gain_lose, kw_gain_put, kw_gain_cut, kw_gain_side, kw_gain_piece, kw_lose_hurt, kw_lose_move, kw_lose_gain, kw_lose_lose, kw_lose_put, kw_lose_cut, kw_lose_side, kw_lose_piece, kw_put_hurt, kw_put_move, kw_put_gain, kw_put_lose, kw_put_put, kw_put_cut, kw_put_side, kw_put_piece, kw_cut_hurt, kw_cut_move, kw_cut_gain, kw_cut_lose, kw_cut_put, kw_cut_cut, kw_cut_side, kw_cut_piece, kw_side_side, kw_side_piece, kw_piece_side, kw_piece_piece, cond_true, cond_false, List.getElem?_cons_succ, List.getElem?_cons_zero, Option.getD_some, Bool.and_true, Bool.and_false]; first | rfl | done
  by_cases k2 : a = 2
  · subst k2
    simp only [show ((2 : Int) == 1) = false from rfl, show ((2 : Int) == 2) = true from rfl, show ((2 : Int) == 3) = false from rfl, show ((2 : Int) == 4) = false from rfl, show ((2 : Int) == 5) = false from rfl, show ((2 : Int) == 6) = false from rfl, cond_true, cond_false]
    obtain ⟨rfl, rfl⟩ := (q5.2.1 rfl)
    cases t
    · simp only [cond_false]
      (repeat rw [if_pos (by simp only [List.nil_append, List.cons_append, List.length_append, joinB_one, joinB_cons, ByteArray.size_append, lits, List.size_toArray, List.length_cons, List.length_nil]; omega)]); (try rw [decide_eq_true (show _ ∧ _ from by simp only [List.nil_append, List.cons_append, List.length_append, joinB_one, joinB_cons, ByteArray.size_append, lits, List.size_toArray, List.length_cons, List.length_nil]; omega)]); rw [cond_true]; simp only [List.nil_append, List.cons_append]; refine ⟨_, _, rfl, ?_, ?_⟩
      · intro w hw; simp only [List.mem_cons, List.not_mem_nil, or_false] at hw; rcases hw with rfl | rfl | rfl | rfl <;> first | assumption | decide
      · simp only [candE, nth1, nth2, nth3, nth4, p0, p1, p2, p3, p4, beq_toList, kw_hurt_hurt, kw_hurt_move, kw_hurt_gain, kw_hurt_lose, kw_hurt_put, kw_hurt_cut, kw_hurt_side, kw_hurt_piece, kw_move_hurt, kw_move_move, kw_move_gain, kw_move_lose, kw_move_put, kw_move_cut, kw_move_side, kw_move_piece, kw_gain_hurt, kw_gain_move, kw_gain_gain, kw_gain_lose, kw_gain_put, kw_gain_cut, kw_gain_side, kw_gain_piece, kw_lose_hurt, kw_lose_move, kw_lose_gain, kw_lose_lose, kw_lose_put, kw_lose_cut, kw_lose_side, kw_lose_piece, kw_put_hurt, kw_put_move, kw_put_gain, kw_put_lose, kw_put_put, kw_put_cut, kw_put_side, kw_put_piece, kw_cut_hurt, kw_cut_move, kw_cut_gain, kw_cut_lose, kw_cut_put, kw_cut_cut, kw_cut_side, kw_cut_piece, kw_side_side, kw_side_piece, kw_piece_side, kw_piece_piece, cond_true, cond_false, List.getElem?_cons_succ, List.getElem?_cons_zero, Option.getD_some, Bool.and_true, Bool.and_false]; first | rfl | done
    · simp only [cond_true]
      (repeat rw [if_pos (by simp only [List.nil_append, List.cons_append, List.length_append, joinB_one, joinB_cons, ByteArray.size_append, lits, List.size_toArray, List.length_cons, List.length_nil]; omega)]); (try rw [decide_eq_true (show _ ∧ _ from by simp only [List.nil_append, List.cons_append, List.length_append, joinB_one, joinB_cons, ByteArray.size_append, lits, List.size_toArray, List.length_cons, List.length_nil]; omega)]); rw [cond_true]; simp only [List.nil_append, List.cons_append]; refine ⟨_, _, rfl, ?_, ?_⟩
      · intro w hw; simp only [List.mem_cons, List.not_mem_nil, or_false] at hw; rcases hw with rfl | rfl | rfl | rfl | rfl <;> first | assumption | decide
      · simp only [candE, nth1, nth2, nth3, nth4, p0, p1, p2, p3, p4, beq_toList, kw_hurt_hurt, kw_hurt_move, kw_hurt_gain, kw_hurt_lose, kw_hurt_put, kw_hurt_cut, kw_hurt_side, kw_hurt_piece, kw_move_hurt, kw_move_move, kw_move_gain, kw_move_lose, kw_move_put, kw_move_cut, kw_move_side, kw_move_piece, kw_gain_hurt, kw_gain_move, kw_gain_gain, kw_gain_lose, kw_gain_put, kw_gain_cut, kw_gain_side, kw_gain_piece, kw_lose_hurt, kw_lose_move, kw_lose_gain, kw_lose_lose, kw_lose_put, kw_lose_cut, kw_lose_side, kw_lose_piece, kw_put_hurt, kw_put_move, kw_put_gain, kw_put_lose, kw_put_put, kw_put_cut, kw_put_side, kw_put_piece, kw_cut_hurt, kw_cut_move, kw_cut_gain, kw_cut_lose, kw_cut_put, kw_cut_cut, kw_cut_side, kw_cut_piece, kw_side_side, kw_side_piece, kw_piece_side, kw_piece_piece, cond_true, cond_false, List.getElem?_cons_succ, List.getElem?_cons_zero, Option.getD_some, Bool.and_true, Bool.and_false]; first | rfl | done
  by_cases k3 : a = 3
  · subst k3
    simp only [show ((3 : Int) == 1) = false from rfl, show ((3 : Int) == 2) = false from rfl, show ((3 : Int) == 3) = true from rfl, show ((3 : Int) == 4) = false from rfl, show ((3 : Int) == 5) = false from rfl, show ((3 : Int) == 6) = false from rfl, cond_true, cond_false]
    obtain ⟨rfl, rfl, rfl, rfl⟩ := (q5.2.2.1 (by decide))
    (repeat rw [if_pos (by simp only [List.nil_append, List.cons_append, List.length_append, joinB_one, joinB_cons, ByteArray.size_append, lits, List.size_toArray, List.length_cons, List.length_nil]; omega)]); (try rw [decide_eq_true (show _ ∧ _ from by simp only [List.nil_append, List.cons_append, List.length_append, joinB_one, joinB_cons, ByteArray.size_append, lits, List.size_toArray, List.length_cons, List.length_nil]; omega)]); rw [cond_true]; simp only [List.nil_append, List.cons_append]; refine ⟨_, _, rfl, ?_, ?_⟩
    · intro w hw; simp only [List.mem_cons, List.not_mem_nil, or_false] at hw; rcases hw with rfl | rfl | rfl <;> first | assumption | decide
    · simp only [candE, nth1, nth2, nth3, nth4, p0, p1, p2, p3, p4, beq_toList, kw_hurt_hurt, kw_hurt_move, kw_hurt_gain, kw_hurt_lose, kw_hurt_put, kw_hurt_cut, kw_hurt_side, kw_hurt_piece, kw_move_hurt, kw_move_move, kw_move_gain, kw_move_lose, kw_move_put, kw_move_cut, kw_move_side, kw_move_piece, kw_gain_hurt, kw_gain_move, kw_gain_gain, kw_gain_lose, kw_gain_put, kw_gain_cut, kw_gain_side, kw_gain_piece, kw_lose_hurt, kw_lose_move, kw_lose_gain, kw_lose_lose, kw_lose_put, kw_lose_cut, kw_lose_side, kw_lose_piece, kw_put_hurt, kw_put_move, kw_put_gain, kw_put_lose, kw_put_put, kw_put_cut, kw_put_side, kw_put_piece, kw_cut_hurt, kw_cut_move, kw_cut_gain, kw_cut_lose, kw_cut_put, kw_cut_cut, kw_cut_side, kw_cut_piece, kw_side_side, kw_side_piece, kw_piece_side, kw_piece_piece, cond_true, cond_false, List.getElem?_cons_succ, List.getElem?_cons_zero, Option.getD_some, Bool.and_true, Bool.and_false]; first | rfl | done
  by_cases k4 : a = 4
  · subst k4
    simp only [show ((4 : Int) == 1) = false from rfl, show ((4 : Int) == 2) = false from rfl, show ((4 : Int) == 3) = false from rfl, show ((4 : Int) == 4) = true from rfl, show ((4 : Int) == 5) = false from rfl, show ((4 : Int) == 6) = false from rfl, cond_true, cond_false]
    obtain ⟨rfl, rfl, rfl, rfl⟩ := (q5.2.2.1 (by decide))
    (repeat rw [if_pos (by simp only [List.nil_append, List.cons_append, List.length_append, joinB_one, joinB_cons, ByteArray.size_append, lits, List.size_toArray, List.length_cons, List.length_nil]; omega)]); (try rw [decide_eq_true (show _ ∧ _ from by simp only [List.nil_append, List.cons_append, List.length_append, joinB_one, joinB_cons, ByteArray.size_append, lits, List.size_toArray, List.length_cons, List.length_nil]; omega)]); rw [cond_true]; simp only [List.nil_append, List.cons_append]; refine ⟨_, _, rfl, ?_, ?_⟩
    · intro w hw; simp only [List.mem_cons, List.not_mem_nil, or_false] at hw; rcases hw with rfl | rfl | rfl <;> first | assumption | decide
    · simp only [candE, nth1, nth2, nth3, nth4, p0, p1, p2, p3, p4, beq_toList, kw_hurt_hurt, kw_hurt_move, kw_hurt_gain, kw_hurt_lose, kw_hurt_put, kw_hurt_cut, kw_hurt_side, kw_hurt_piece, kw_move_hurt, kw_move_move, kw_move_gain, kw_move_lose, kw_move_put, kw_move_cut, kw_move_side, kw_move_piece, kw_gain_hurt, kw_gain_move, kw_gain_gain, kw_gain_lose, kw_gain_put, kw_gain_cut, kw_gain_side, kw_gain_piece, kw_lose_hurt, kw_lose_move, kw_lose_gain, kw_lose_lose, kw_lose_put, kw_lose_cut, kw_lose_side, kw_lose_piece, kw_put_hurt, kw_put_move, kw_put_gain, kw_put_lose, kw_put_put, kw_put_cut, kw_put_side, kw_put_piece, kw_cut_hurt, kw_cut_move, kw_cut_gain, kw_cut_lose, kw_cut_put, kw_cut_cut, kw_cut_side, kw_cut_piece, kw_side_side, kw_side_piece, kw_piece_side, kw_piece_piece, cond_true, cond_false, List.getElem?_cons_succ, List.getElem?_cons_zero, Option.getD_some, Bool.and_true, Bool.and_false]; first | rfl | done
  by_cases k5 : a = 5
  · subst k5
    simp only [show ((5 : Int) == 1) = false from rfl, show ((5 : Int) == 2) = false from rfl, show ((5 : Int) == 3) = false from rfl, show ((5 : Int) == 4) = false from rfl, show ((5 : Int) == 5) = true from rfl, show ((5 : Int) == 6) = false from rfl, cond_true, cond_false]
    obtain ⟨rfl, rfl, rfl, rfl⟩ := (q5.2.2.2.1 (by decide))
    (repeat rw [if_pos (by simp only [List.nil_append, List.cons_append, List.length_append, joinB_one, joinB_cons, ByteArray.size_append, lits, List.size_toArray, List.length_cons, List.length_nil]; omega)]); (try rw [decide_eq_true (show _ ∧ _ from by simp only [List.nil_append, List.cons_append, List.length_append, joinB_one, joinB_cons, ByteArray.size_append, lits, List.size_toArray, List.length_cons, List.length_nil]; omega)]); rw [cond_true]; simp only [List.nil_append, List.cons_append]; refine ⟨_, _, rfl, ?_, ?_⟩
    · intro w hw; simp only [List.mem_cons, List.not_mem_nil, or_false] at hw; rcases hw with rfl | rfl | rfl <;> first | assumption | decide
    · simp only [candE, nth1, nth2, nth3, nth4, p0, p1, p2, p3, p4, beq_toList, kw_hurt_hurt, kw_hurt_move, kw_hurt_gain, kw_hurt_lose, kw_hurt_put, kw_hurt_cut, kw_hurt_side, kw_hurt_piece, kw_move_hurt, kw_move_move, kw_move_gain, kw_move_lose, kw_move_put, kw_move_cut, kw_move_side, kw_move_piece, kw_gain_hurt, kw_gain_move, kw_gain_gain, kw_gain_lose, kw_gain_put, kw_gain_cut, kw_gain_side, kw_gain_piece, kw_lose_hurt, kw_lose_move, kw_lose_gain, kw_lose_lose, kw_lose_put, kw_lose_cut, kw_lose_side, kw_lose_piece, kw_put_hurt, kw_put_move, kw_put_gain, kw_put_lose, kw_put_put, kw_put_cut, kw_put_side, kw_put_piece, kw_cut_hurt, kw_cut_move, kw_cut_gain, kw_cut_lose, kw_cut_put, kw_cut_cut, kw_cut_side, kw_cut_piece, kw_side_side, kw_side_piece, kw_piece_side, kw_piece_piece, cond_true, cond_false, List.getElem?_cons_succ, List.getElem?_cons_zero, Option.getD_some, Bool.and_true, Bool.and_false]; first | rfl | done
  by_cases k6 : a = 6
  · subst k6
    simp only [show ((6 : Int) == 1) = false from rfl, show ((6 : Int) == 2) = false from rfl, show ((6 : Int) == 3) = false from rfl, show ((6 : Int) == 4) = false from rfl, show ((6 : Int) == 5) = false from rfl, show ((6 : Int) == 6) = true from rfl, cond_true, cond_false]
    obtain ⟨rfl, rfl, rfl, rfl⟩ := (q5.2.2.2.1 (by decide))
    (repeat rw [if_pos (by simp only [List.nil_append, List.cons_append, List.length_append, joinB_one, joinB_cons, ByteArray.size_append, lits, List.size_toArray, List.length_cons, List.length_nil]; omega)]); (try rw [decide_eq_true (show _ ∧ _ from by simp only [List.nil_append, List.cons_append, List.length_append, joinB_one, joinB_cons, ByteArray.size_append, lits, List.size_toArray, List.length_cons, List.length_nil]; omega)]); rw [cond_true]; simp only [List.nil_append, List.cons_append]; refine ⟨_, _, rfl, ?_, ?_⟩
    · intro w hw; simp only [List.mem_cons, List.not_mem_nil, or_false] at hw; rcases hw with rfl | rfl | rfl <;> first | assumption | decide
    · simp only [candE, nth1, nth2, nth3, nth4, p0, p1, p2, p3, p4, beq_toList, kw_hurt_hurt, kw_hurt_move, kw_hurt_gain, kw_hurt_lose, kw_hurt_put, kw_hurt_cut, kw_hurt_side, kw_hurt_piece, kw_move_hurt, kw_move_move, kw_move_gain, kw_move_lose, kw_move_put, kw_move_cut, kw_move_side, kw_move_piece, kw_gain_hurt, kw_gain_move, kw_gain_gain, kw_gain_lose, kw_gain_put, kw_gain_cut, kw_gain_side, kw_gain_piece, kw_lose_hurt, kw_lose_move, kw_lose_gain, kw_lose_lose, kw_lose_put, kw_lose_cut, kw_lose_side, kw_lose_piece, kw_put_hurt, kw_put_move, kw_put_gain, kw_put_lose, kw_put_put, kw_put_cut, kw_put_side, kw_put_piece, kw_cut_hurt, kw_cut_move, kw_cut_gain, kw_cut_lose, kw_cut_put, kw_cut_cut, kw_cut_side, kw_cut_piece, kw_side_side, kw_side_piece, kw_piece_side, kw_piece_piece, cond_true, cond_false, List.getElem?_cons_succ, List.getElem?_cons_zero, Option.getD_some, Bool.and_true, Bool.and_false]; first | rfl | done
  exact absurd q5.2.2.2.2 (noK a k1 k2 k3 k4 k5 k6)
theorem strOne (l : List ByteArray) (c : Ty.T y57) (hl : l ≠ []) (h : cur c) : d31g1 l c = true ∧ (v31g1 l c).1 ∈ l ∧ cur (v31g1 l c).2 := by
  have hp : 0 < l.length := List.length_pos_iff.2 hl
  obtain ⟨b1, b2, b3⟩ := below (l.length : Int) c h
  have b2 := b2 (by omega)
  unfold d31g1 v31g1
  have hi : ((v43g1 (l.length : Int) c).1).toNat < l.length := by omega
  have h0 := b2.1
  simp only [b1, cond_true, h0, decide_true, Bool.true_and, optD, optV]
  simp only [List.getElem?_eq_getElem hi]
  exact ⟨trivial, List.getElem_mem hi, b3⟩
theorem bendSt {i : Int} {c : Ty.T y57} {l : List Int} (h : cur c) (h0 : 0 ≤ i) (h1 : i < (l.length : Int)) : Sat (t52g1_0 ([], i, c, l, ()) some) fun r => List.length r = l.length := by
  obtain ⟨x, hx, _⟩ := getE (l := l) h0 h1
  unfold t52g1_0
  dsimp only
  rw [if_pos h0, if_pos h1, hx, optC_some, (below 255 c h).1, cond_true, if_pos h0, if_pos h1, optC_some, Sat_some]
  exact List.length_set
theorem bendOk {c : Ty.T y57} {l : List Int} (h : cur c) (hl : l.length ≤ 1000) : Sat (t52g1 l c some) fun r => cur r.1 ∧ List.length r.2 ≤ l.length + 1 := by
  obtain ⟨b1, _, b3⟩ := below 8 c h
  have hn : ([] ++ l : List Int) = l := List.nil_append l
  unfold t52g1
  rw [if_pos (by rw [List.nil_append]; omega), b1, cond_true]
  by_cases k0 : ((v43g1 8 c).1 == (0 : Int)) = true
  · rw [k0, cond_true]
    by_cases hp : 0 < l.length
    · rw [decide_eq_true (show ((([] ++ l : List Int).length : Int) > 0) by rw [List.nil_append]; omega), cond_true]
      have bl := below (([] ++ l : List Int).length : Int) _ b3
      have bl2 := bl.2.1 (by rw [List.nil_append]; omega)
      have q := bendSt (i := (v43g1 (([] ++ l : List Int).length : Int) (v43g1 8 c).2).1) (c := (v43g1 (([] ++ l : List Int).length : Int) (v43g1 8 c).2).2) (l := ([] ++ l : List Int)) bl.2.2 bl2.1 bl2.2
      have g : g52g1_0 ([], (v43g1 (([] ++ l : List Int).length : Int) (v43g1 8 c).2).1, (v43g1 (([] ++ l : List Int).length : Int) (v43g1 8 c).2).2, ([] ++ l : List Int), ()) = true := q.d
      have cl : List.length (c52g1_0 ([], (v43g1 (([] ++ l : List Int).length : Int) (v43g1 8 c).2).1, (v43g1 (([] ++ l : List Int).length : Int) (v43g1 8 c).2).2, ([] ++ l : List Int), ())) = ([] ++ l : List Int).length := q.v (z := [])
      rw [bl.1, cond_true, g, cond_true, Sat_some]
      refine ⟨(below 255 _ bl.2.2).2.2, ?_⟩
      rw [cl, List.nil_append]
      omega
    · rw [decide_eq_false (show ¬ ((([] ++ l : List Int).length : Int) > 0) by rw [List.nil_append]; omega), cond_false, Sat_some]
      exact ⟨b3, by rw [List.nil_append]; exact Nat.le_succ _⟩
  · rw [Bool.not_eq_true] at k0
    rw [k0, cond_false]
    by_cases k1 : ((v43g1 8 c).1 == (1 : Int)) = true
    · rw [k1, cond_true]
      by_cases hp : 0 < l.length
      · rw [decide_eq_true (show ((([] ++ l : List Int).length : Int) > 0) by rw [List.nil_append]; omega), cond_true]
        have bl := below (([] ++ l : List Int).length : Int) _ b3
        have bl2 := bl.2.1 (by rw [List.nil_append]; omega)
        rw [bl.1, cond_true, if_pos bl2.1, if_pos (Int.le_of_lt bl2.2), Sat_some]
        refine ⟨bl.2.2, ?_⟩
        rw [List.nil_append, List.length_take]
        omega
      · rw [decide_eq_false (show ¬ ((([] ++ l : List Int).length : Int) > 0) by rw [List.nil_append]; omega), cond_false, Sat_some]
        exact ⟨b3, by rw [List.nil_append]; exact Nat.le_succ _⟩
    · rw [Bool.not_eq_true] at k1
      rw [k1, cond_false]
      by_cases k2 : ((v43g1 8 c).1 == (2 : Int)) = true
      · have by_ := byte _ b3
        rw [k2, cond_true, by_.1, cond_true, if_pos (by rw [List.nil_append, List.length_append, List.length_cons, List.length_nil]; omega), Sat_some]
        refine ⟨by_.2.2, ?_⟩
        rw [List.nil_append, List.length_append, List.length_cons, List.length_nil]
        omega
      · rw [Bool.not_eq_true] at k2
        rw [k2, cond_false, Sat_some]
        exact ⟨b3, by rw [List.nil_append]; exact Nat.le_succ _⟩
theorem textOk {c : Ty.T y57} (h : cur c) : Sat (t30g1 c some) fun r => r.1.size ≤ 300 ∧ cur r.2 := by
  have o := once 3 c h
  unfold t30g1
  rw [o.1, cond_true]
  cases (v51g1 3 c).1
  · have s1 := z27g1 o.2
    have s2 := uq27g1_0 o.2
    have q1 := z42g1 (a0 := ((v27g1 (v51g1 3 c).2).2.2.1, (v27g1 (v51g1 3 c).2).2.2.2, (v27g1 (v51g1 3 c).2).1)) s2
    have q2 : cur (e30g1_0 c).2 := uq42g1_0 (a0 := ((v27g1 (v51g1 3 c).2).2.2.1, (v27g1 (v51g1 3 c).2).2.2.2, (v27g1 (v51g1 3 c).2).1)) s2
    have et := evText (e30g1_0 c).1
    have o2 := once 4 _ q2
    rw [cond_false, s1, cond_true, q1, cond_true, et.1, cond_true, o2.1, cond_true]
    cases (v51g1 4 (e30g1_0 c).2).1
    · rw [cond_false, Sat_some]
      exact ⟨Nat.le_trans et.2.2.2 (by decide), o2.2⟩
    · have hn : (numsOf (v23 (e30g1_0 c).1)).length = (v23 (e30g1_0 c).1).size := by rw [numsOf, List.length_map]; rfl
      have b := bendOk (l := numsOf (v23 (e30g1_0 c).1)) o2.2 (by omega)
      have b1 : d52g1 (numsOf (v23 (e30g1_0 c).1)) (v51g1 4 (e30g1_0 c).2).2 = true := b.d
      have b2 : cur (e30g1_2 c).1 ∧ List.length (e30g1_2 c).2 ≤ (numsOf (v23 (e30g1_0 c).1)).length + 1 := b.v
      have hz : (strOfNums (e30g1_2 c).2).size = List.length (e30g1_2 c).2 := by simp [strOfNums, ByteArray.size]
      rw [cond_true, if_pos (by omega), b1, cond_true, Sat_some]
      refine ⟨?_, b2.1⟩
      show (strOfNums (e30g1_2 c).2).size ≤ 300
      omega
  · have q := fun l hl => strOne l (v51g1 3 c).2 hl o.2
    rw [cond_true, (q _ (by simp)).1, cond_true, Sat_some]
    refine ⟨?_, (q _ (by simp)).2.2⟩
    have m : (e30g1_1 c).1 ∈ _ := (q _ (by simp)).2.1
    revert m
    show (e30g1_1 c).1 ∈ _ → (e30g1_1 c).1.size ≤ 300
    generalize (e30g1_1 c).1 = w
    intro m
    simp only [List.mem_cons, List.not_mem_nil, or_false] at m
    rcases m with rfl | rfl | rfl | rfl | rfl | rfl | rfl | rfl | rfl | rfl | rfl | rfl | rfl | rfl | rfl | rfl | rfl <;> decide
theorem drawE (a : List Int) (ha : (a.length : Int) ≤ 1099511627776) : d15 a = true := by
  have n := newC a ha
  have s1 := z27g1 n.2
  have q1 := z26g1 (a0 := ((v27g1 (v25 a)).2.2.1, (v27g1 (v25 a)).2.2.2, (v27g1 (v25 a)).1)) (uq27g1_0 n.2)
  unfold d15
  try unfold t15
  rw [n.1, s1, q1]
  rfl
theorem drawP (a : List Int) (ha : (a.length : Int) ≤ 1099511627776) : d17 a = true ∧ (v17 a).size ≤ 300 := by
  have n := newC a ha
  have b := textOk n.2
  have b1 : d30g1 (v25 a) = true := b.d
  have b2 : (v30g1 (v25 a)).1.size ≤ 300 ∧ _ := b.v
  unfold d17 v17
  rw [n.1, b1]
  exact ⟨rfl, b2.1⟩
theorem drawW (a : List Int) (ha : (a.length : Int) ≤ 1099511627776) : d18 a = true ∧ (v18 a).size ≤ 300 := by
  have n := newC a ha
  have b := textOk n.2
  have b1 : d30g1 (v25 a) = true := b.d
  have b2 : (v30g1 (v25 a)).1.size ≤ 300 ∧ cur (v30g1 (v25 a)).2 := b.v
  have q := strOne [ByteArray.empty, (ByteArray.mk #[32]), (ByteArray.mk #[97, 32, 98]), (ByteArray.mk #[97, 32, 32, 98]), (ByteArray.mk #[32, 97, 32]), (v30g1 (v25 a)).1] _ (by simp) b2.2
  unfold d18 v18
  rw [n.1, b1, q.1]
  refine ⟨rfl, ?_⟩
  have m := q.2.1
  revert m
  simp only [cond_true]
  generalize (v31g1 _ _).1 = w
  intro m
  simp only [List.mem_cons, List.not_mem_nil, or_false] at m
  rcases m with rfl | rfl | rfl | rfl | rfl | rfl
  · decide
  · decide
  · decide
  · decide
  · decide
  · exact b2.1
def flat : List ByteArray → ByteArray
  | [] => ByteArray.empty
  | x :: r => ByteArray.mk #[32] ++ (x ++ flat r)
theorem emp_app (x : ByteArray) : ByteArray.empty ++ x = x := by
  apply ByteArray.ext
  simp
theorem app_emp (x : ByteArray) : x ++ ByteArray.empty = x := by
  apply ByteArray.ext
  simp
theorem cuts_flat : ∀ l : List UInt8, ∃ h t, cuts l = h :: t ∧ mkB l = mkB h ++ flat (t.map mkB)
  | [] => ⟨[], [], rfl, (app_emp _).symm⟩
  | b :: l => by
    obtain ⟨h, t, e1, e2⟩ := cuts_flat l
    rw [cuts]
    by_cases hb : b = 32
    · subst hb
      rw [if_pos rfl]
      refine ⟨[], cuts l, rfl, ?_⟩
      rw [e1, List.map_cons, flat, ← e2]
      show mkB ([] ++ (32 :: l)) = _
      rw [mkB_app]
      congr 1
    · rw [if_neg hb, e1]
      refine ⟨b :: h, t, rfl, ?_⟩
      rw [show mkB (b :: l) = mkB ([b] ++ l) from rfl, mkB_app, e2, ← ByteArray.append_assoc, ← mkB_app]
      rfl
theorem flat_size (x : ByteArray) (r : List ByteArray) : ∀ w ∈ x :: r, w.size ≤ (x ++ flat r).size := by
  induction r generalizing x with
  | nil =>
    intro w hw
    rw [List.mem_singleton.1 hw, flat, app_emp]
    exact Nat.le_refl _
  | cons y r ih =>
    intro w hw
    have := ih y
    rw [flat]
    rw [ByteArray.size_append, ByteArray.size_append]
    rcases List.mem_cons.1 hw with rfl | hw
    · omega
    · have := this w hw
      omega
theorem stepJ (h0 h1 h3 h4 : Bool) (s w acc : ByteArray) (i : Nat) (e1 e2 e3 : Ty.T y27) (W : List ByteArray) (x : ByteArray) (hx : W[i]? = some x) (hl : W.length ≤ 1000000) (ha : acc.size ≤ 1000000) (hz : x.size ≤ 1000000) :
    s5_0 (h0, h1, s, h3, h4, w, acc, (i : Int), e1, e2, e3, W, ()) = some (0, (h0, h1, s, h3, h4, w, (cond (decide (0 < i)) (acc ++ ByteArray.mk #[32]) acc) ++ x, ((i + 1 : Nat) : Int), e1, e2, e3, W, ())) := by
  have hi : i < W.length := (List.getElem?_eq_some_iff.1 hx).1
  have hz1 : (ByteArray.mk #[32]).size = 1 := rfl
  have e : ∀ a b c d f g, g5_1 (h0, h1, s, h3, h4, w, acc, a, b, c, d, f, decide ((i : Int) > (0 : Int)), g) = true ∧ c5_1 (h0, h1, s, h3, h4, w, acc, a, b, c, d, f, decide ((i : Int) > (0 : Int)), g) = cond (decide (0 < i)) (acc ++ ByteArray.mk #[32]) acc := fun a b c d f g => by
    unfold g5_1 c5_1 t5_1
    dsimp only
    rw [if_pos (by omega)]
    by_cases h : 0 < i
    · rw [decide_eq_true (show (i : Int) > 0 by omega), decide_eq_true h]
      exact ⟨rfl, rfl⟩
    · rw [decide_eq_false (show ¬ ((i : Int) > 0) by omega), decide_eq_false h]
      exact ⟨rfl, rfl⟩
  have hcs : (cond (decide (0 < i)) (acc ++ ByteArray.mk #[32]) acc).size ≤ 1000001 := by
    cases decide (0 < i)
    · exact Nat.le_succ_of_le ha
    · show (acc ++ ByteArray.mk #[32]).size ≤ _
      rw [ByteArray.size_append]
      omega
  unfold s5_0 t5_0
  dsimp only
  rw [decide_eq_true (show (i : Int) < (W.length : Int) by omega), cond_true]
  rw [(e _ _ _ _ _ _).1, cond_true, if_pos (Int.natCast_nonneg _), if_pos (by omega), Int.toNat_natCast, hx, optC_some, (e _ _ _ _ _ _).2, if_pos (by omega), wrap_nat (n := i) (by omega)]
theorem joinL (h0 h1 h3 h4 : Bool) (s w : ByteArray) (e1 e2 e3 : Ty.T y27) (x : ByteArray) (r : List ByteArray) (hw : w = x ++ flat r) (hl : r.length ≤ 999999) (hz : w.size ≤ 1000000) :
    k5_0 h0 h1 s h3 h4 w ByteArray.empty 0 e1 e2 e3 (x :: r) 0 = true ∧ ∃ n : Int, w5_0 h0 h1 s h3 h4 w ByteArray.empty 0 e1 e2 e3 (x :: r) = (h0, h1, s, h3, h4, w, w, n, e1, e2, e3, x :: r, ()) := by
  have hws : ∀ y ∈ x :: r, y.size ≤ 1000000 := fun y hy => Nat.le_trans (flat_size x r y hy) (by rw [← hw]; exact hz)
  have h := run_sat (s := s5_0) (Q := fun v => ∃ n : Int, v = (h0, h1, s, h3, h4, w, w, n, e1, e2, e3, x :: r, ())) (fun k v => ∃ (i : Nat) (acc : ByteArray), v = (h0, h1, s, h3, h4, w, acc, (i : Int), e1, e2, e3, x :: r, ()) ∧ i + k = (x :: r).length ∧ ((i = 0 ∧ acc = ByteArray.empty) ∨ (0 < i ∧ acc ++ flat ((x :: r).drop i) = w))) (fun k v hv => by
    obtain ⟨i, acc, rfl, hk, hi⟩ := hv
    by_cases hlt : i < (x :: r).length
    · have hx : (x :: r)[i]? = some (x :: r)[i] := getElem?_pos _ i hlt
      have ha : acc.size ≤ 1000000 := by
        rcases hi with ⟨_, rfl⟩ | ⟨_, hi⟩
        · decide
        · have := congrArg ByteArray.size hi
          rw [ByteArray.size_append] at this
          omega
      rw [stepJ h0 h1 h3 h4 s w acc i e1 e2 e3 (x :: r) _ hx (by rw [List.length_cons]; omega) ha (hws _ (List.getElem_mem hlt)), Sat_some]
      refine .inr ⟨rfl, k - 1, by omega, i + 1, _, rfl, by omega, .inr ⟨by omega, ?_⟩⟩
      rcases hi with ⟨rfl, rfl⟩ | ⟨h0i, hi⟩
      · show (ByteArray.empty ++ x) ++ flat r = w
        rw [emp_app]
        exact hw.symm
      · rw [decide_eq_true h0i, cond_true]
        rw [List.drop_eq_getElem_cons hlt, flat] at hi
        rw [ByteArray.append_assoc, ByteArray.append_assoc]
        exact hi
    · have hi2 : i = (x :: r).length := by omega
      unfold s5_0 t5_0
      dsimp only
      rw [decide_eq_false (by omega), cond_false, Sat_some]
      refine .inl ⟨rfl, (i : Int), ?_⟩
      rcases hi with ⟨h0i, _⟩ | ⟨_, hi⟩
      · rw [h0i, List.length_cons] at hi2; omega
      · rw [List.drop_of_length_le (Nat.le_of_eq hi2.symm), flat, app_emp] at hi
        rw [hi]) (x :: r).length (h0, h1, s, h3, h4, w, ByteArray.empty, (0 : Int), e1, e2, e3, x :: r, ()) (n5_0 (h0, h1, s, h3, h4, w, ByteArray.empty, 0, e1, e2, e3, x :: r, ())) ⟨0, ByteArray.empty, rfl, by omega, .inl ⟨rfl, rfl⟩⟩ (by simp only [n5_0]; omega)
  exact ⟨h.1.1, h.2⟩
theorem parsedI (s : ByteArray) (hs : s.size ≤ 1048576) : d12 s = true ∧ d11 s = true ∧ v11 s = v12 s ∧ ((v12 s).2 = true → v39 (v12 s).1 = true ∧ v23 (v12 s).1 = s) := by
  obtain ⟨x, _, k1, k2⟩ := parseE s hs
  unfold d12 d11 v12 v11
  rw [k1, k2]
  refine ⟨rfl, rfl, rfl, ?_⟩
  simp only [Option.getD_some]
  unfold outE
  split
  · next h => exact fun _ => h
  · exact fun h => by cases h
theorem parsedT (e : Ty.T y27) : (v39 e = true → v12 (v16 e) = (e, true)) ∧ (v39 e = false → (v12 (v16 e)).2 = false) := by
  have et := evText e
  have hz : (v16 e).size ≤ 1048576 := by rw [et.2.2.1]; exact Nat.le_trans et.2.2.2 (by decide)
  refine ⟨fun ho => ?_, fun ho => ?_⟩
  · obtain ⟨x, ws, k1, k2, k3⟩ := evBack e ho
    have hv : v16 e = joinB (x :: ws) (ByteArray.mk #[32]) := by unfold v16; rw [k1]; rfl
    obtain ⟨y, hy, _, p2⟩ := parseE (v16 e) hz
    have hc : (cuts (v16 e).data.toList).map mkB = x :: ws := by rw [hv]; exact cuts_join x ws k2
    rw [hc] at hy p2
    have : x = y := by simpa using hy
    subst this
    rw [k3] at p2
    unfold v12
    rw [p2]
    show outE _ _ = _
    unfold outE
    rw [if_pos ⟨ho, et.2.2.1.symm⟩]
  · have p := parsedI (v16 e) hz
    cases h : (v12 (v16 e)).2
    · rfl
    · obtain ⟨q1, q2⟩ := p.2.2.2 h
      have h1 := ((evShape _).1 q1).1
      rw [q2, et.2.2.1, (evShape e).2 ho] at h1
      exact absurd h1 (by decide)
theorem finL (ok o3 : Bool) (s w : ByteArray) (e e2 e3 : Ty.T y27) (W : List ByteArray) (hW : 1 ≤ W.length) (h1 : v39 e = ok) (h2 : ok = true → e2 = e) (h3 : o3 = true → v39 e3 = true ∧ v23 e3 = s) : t5_2 (false, ok, s, o3, o3, w, w, e, e2, e3, W, ()) some = some true := by
  have dW : decide ((W.length : Int) ≥ 1) = true := decide_eq_true (by omega)
  unfold t5_2
  dsimp only
  rw [evOk, h1]
  cases ok <;> cases o3
  · simp only [beq_self_eq_true, Bool.not_true, Bool.not_false, cond_true, cond_false, dW]
  · have q := h3 rfl
    have et := evText e3
    simp only [beq_self_eq_true, Bool.not_true, Bool.not_false, cond_true, cond_false, dW, evOk, q.1, q.2, et.2.1, et.2.2.1]
  · have h2 := h2 rfl
    subst h2
    simp only [beq_self_eq_true, Bool.not_true, Bool.not_false, cond_true, cond_false, dW, Bool.and_self]
  · have h2 := h2 rfl
    subst h2
    have q := h3 rfl
    have et := evText e3
    simp only [beq_self_eq_true, Bool.not_true, Bool.not_false, cond_true, cond_false, dW, evOk, q.1, q.2, et.2.1, et.2.2.1, Bool.and_self]
theorem law (a0 : List (Ty.T (.int .u8))) (w0 : Ty.ok (.sl 5 (.int .u8)) a0) : d5 a0 = true ∧ v5 a0 = true := by
  unfold d5 v5
  cases hb : v14 a0
  · simp only [cond_false]
    have hl : (a0.length : Int) ≤ 1048576 := by
      unfold v14 at hb
      have := of_decide_eq_false hb
      omega
    have d1 := drawE a0 (by omega)
    have d2 := drawP a0 (by omega)
    have d3 := drawW a0 (by omega)
    have et := evText (v15 a0)
    have hz : (v16 (v15 a0)).size ≤ 1048576 := by rw [et.2.2.1]; exact Nat.le_trans et.2.2.2 (by decide)
    have p1 := parsedI _ hz
    have p2 := parsedI (v17 a0) (by omega)
    have wd := wordsI (v18 a0) (by omega)
    have pt := parsedT (v15 a0)
    obtain ⟨h, t, c1, c2⟩ := cuts_flat (v18 a0).data.toList
    rw [mkB_self] at c2
    have hsz : (v18 a0).data.toList.length = (v18 a0).size := rfl
    have hcl := cuts_len (v18 a0).data.toList
    have hW : v7 (v18 a0) = mkB h :: t.map mkB := by rw [wd.2, c1]; rfl
    rw [c1, List.length_cons] at hcl
    obtain ⟨j1, n, j2⟩ := joinL false (v12 (v16 (v15 a0))).2 (v12 (v17 a0)).2 (v11 (v17 a0)).2 (v17 a0) (v18 a0) (v15 a0) (v12 (v16 (v15 a0))).1 (v12 (v17 a0)).1 (mkB h) (t.map mkB) c2 (by rw [List.length_map]; omega) (by omega)
    have f := finL (v12 (v16 (v15 a0))).2 (v12 (v17 a0)).2 (v17 a0) (v18 a0) (v15 a0) (v12 (v16 (v15 a0))).1 (v12 (v17 a0)).1 (mkB h :: t.map mkB) (by simp) (by
        cases ho : v39 (v15 a0)
        · exact (pt.2 ho).symm
        · rw [pt.1 ho]) (fun hk => by
        cases ho : v39 (v15 a0)
        · rw [pt.2 ho] at hk; cases hk
        · rw [pt.1 ho]) p2.2.2.2
    have e0 : e5_0 a0 = (false, (v12 (v16 (v15 a0))).2, v17 a0, (v12 (v17 a0)).2, (v12 (v17 a0)).2, v18 a0, v18 a0, n, v15 a0, (v12 (v16 (v15 a0))).1, (v12 (v17 a0)).1, mkB h :: t.map mkB, ()) := by
      unfold e5_0
      rw [hW, j2, p2.2.2.1]
    have e1 : e5_1 a0 = true := by
      unfold e5_1
      rw [hW]
      exact j1
    have e2 : e5_2 a0 = true := by
      unfold e5_2
      rw [e0]
      unfold g5_2
      dsimp only
      rw [f]
      rfl
    have e3 : e5_3 a0 = true := by
      unfold e5_3
      rw [e0]
      unfold c5_2
      dsimp only
      rw [f]
      rfl
    rw [d1, et.2.1, p1.1, d2.1, p2.1, p2.2.1, d3.1, wd.1, e1, e2, e3]
    exact ⟨rfl, rfl⟩
  · exact ⟨rfl, rfl⟩
end Go.Proofs.YteimleeiikelbaaDoor.Vm
namespace Go.Proofs.YteimleeiikelbaaDoor.Pure
open Go Go.Proofs.YteimleeiikelbaaDoor.Lib Go.Proofs.YteimleeiikelbaaDoor.Vm
theorem fnTexts : Go.Proofs.YteimleeiikelbaaDoor.fnTexts.Pure := fun a0 w0 => by
  have h := law a0 w0
  show cond (d5 a0) (some (f5 (v5 a0))) none = _
  rw [h.1, h.2]
  rfl
end Go.Proofs.YteimleeiikelbaaDoor.Pure
