/- FnExactParseEvent: the law holds of the plain functions that the contracts name. No condition. -/
import Derived.Test.YteimleeiikelbaaDoorVmRowFnExactParseEvent
import Derived.Test.YteimleeiikelbaaDoorVmLibThree
namespace Go.Proofs.YteimleeiikelbaaDoor.Vm
open Go Go.Proofs.YteimleeiikelbaaDoor.Lib
set_option maxRecDepth 100000
set_option linter.unusedVariables false
set_option linter.unusedSimpArgs false
/-- The pieces between blanks. -/
def cuts : List UInt8 → List (List UInt8)
  | [] => [[]]
  | b :: l => if b = 32 then [] :: cuts l else (match cuts l with | [] => [[b]] | h :: t => (b :: h) :: t)
def mkB (l : List UInt8) : ByteArray := ⟨l.toArray⟩
theorem mkB_self (s : ByteArray) : mkB s.data.toList = s := by
  apply ByteArray.ext
  simp [mkB]
theorem cuts_ne : ∀ l, cuts l ≠ []
  | [] => by simp [cuts]
  | b :: l => by
    rw [cuts]
    split
    · simp
    · split <;> simp
theorem cuts_len : ∀ l, (cuts l).length ≤ l.length + 1
  | [] => by simp [cuts]
  | b :: l => by
    have ih := cuts_len l
    rw [cuts]
    split
    · simp only [List.length_cons]; omega
    · split
      · simp
      · rename_i h t e
        rw [e] at ih
        simp only [List.length_cons] at ih ⊢
        omega
theorem cuts_miss : ∀ l : List UInt8, (32 : UInt8) ∉ l → cuts l = [l]
  | [], _ => rfl
  | b :: l, h => by
    have h1 : b ≠ 32 := fun e => h (by rw [e]; exact List.mem_cons_self)
    rw [cuts, if_neg h1, cuts_miss l (fun hm => h (List.mem_cons_of_mem _ hm))]
theorem cuts_hit : ∀ (a r : List UInt8), (32 : UInt8) ∉ a → cuts (a ++ 32 :: r) = a :: cuts r
  | [], r, _ => by rw [List.nil_append, cuts, if_pos rfl]
  | b :: a, r, h => by
    have h1 : b ≠ 32 := fun e => h (by rw [e]; exact List.mem_cons_self)
    rw [List.cons_append, cuts, if_neg h1, cuts_hit a r (fun hm => h (List.mem_cons_of_mem _ hm))]
theorem cuts_snoc : ∀ (l : List UInt8) (b : UInt8) (A : List (List UInt8)) (t : List UInt8), cuts l = A ++ [t] → cuts (l ++ [b]) = if b = 32 then A ++ [t] ++ [[]] else A ++ [t ++ [b]]
  | [], b, A, t, h => by
    have : A = [] ∧ t = [] := by
      cases A with
      | nil => exact ⟨rfl, by simpa [cuts] using h.symm⟩
      | cons x A => simp [cuts] at h
    obtain ⟨rfl, rfl⟩ := this
    simp [cuts]
  | x :: l, b, A, t, h => by
    rw [List.cons_append, cuts]
    rw [cuts] at h
    by_cases hx : x = 32
    · rw [if_pos hx] at h ⊢
      cases A with
      | nil =>
        have := cuts_ne l
        simp at h
        exact absurd h.2 this
      | cons y A =>
        simp only [List.cons_append, List.cons.injEq] at h
        obtain ⟨rfl, h⟩ := h
        rw [cuts_snoc l b A t h]
        split <;> rfl
    · rw [if_neg hx] at h ⊢
      cases hc : cuts l with
      | nil => exact absurd hc (cuts_ne l)
      | cons y T =>
        rw [hc] at h
        simp only at h
        cases A with
        | nil =>
          simp only [List.nil_append, List.cons.injEq] at h
          obtain ⟨rfl, rfl⟩ := h
          rw [cuts_snoc l b [] y (by rw [hc]; rfl)]
          by_cases hb : b = 32
          · rw [if_pos hb, if_pos hb]; rfl
          · rw [if_neg hb, if_neg hb]; rfl
        | cons z A =>
          simp only [List.cons_append, List.cons.injEq] at h
          obtain ⟨rfl, rfl⟩ := h
          rw [cuts_snoc l b (y :: A) t (by rw [hc]; rfl)]
          by_cases hb : b = 32
          · rw [if_pos hb, if_pos hb]; rfl
          · rw [if_neg hb, if_neg hb]; rfl
open Go.Lib in
theorem index_hit : ∀ (l : List UInt8) (i : Nat), index l [32] = (i : Int) → ∃ a r, l = a ++ 32 :: r ∧ a.length = i ∧ (32 : UInt8) ∉ a
  | [], i, h => by
    simp [index] at h
  | b :: l, i, h => by
    rw [index] at h
    by_cases hb : b = 32
    · subst hb
      rw [if_pos (by simp [List.isPrefixOf])] at h
      exact ⟨[], l, rfl, by simp only [List.length_nil]; omega, by simp⟩
    · rw [if_neg (by simp [List.isPrefixOf]; exact fun e => hb e.symm)] at h
      split at h
      · omega
      · have hg := index_ge l [32]
        rename_i hne
        have hne : index l [32] ≠ -1 := by simpa using hne
        obtain ⟨a, r, h1, h2, h3⟩ := index_hit l (i - 1) (by omega)
        refine ⟨b :: a, r, by rw [h1]; rfl, ?_, ?_⟩
        · simp only [List.length_cons]
          omega
        · simp only [List.mem_cons, not_or]
          exact ⟨fun e => hb e.symm, h3⟩
open Go.Lib in
theorem index_none : ∀ (l : List UInt8), index l [32] = -1 → (32 : UInt8) ∉ l
  | [], _ => by simp
  | b :: l, h => by
    rw [index] at h
    by_cases hb : b = 32
    · subst hb
      rw [if_pos (by simp [List.isPrefixOf])] at h
      omega
    · rw [if_neg (by simp [List.isPrefixOf]; exact fun e => hb e.symm)] at h
      have hg := index_ge l [32]
      split at h
      · rename_i he
        have he : index l [32] = -1 := by simpa using he
        simp only [List.mem_cons, not_or]
        exact ⟨fun e => hb e.symm, index_none l he⟩
      · omega
open Go.Lib in
theorem split_cuts : ∀ (k : Nat) (s : ByteArray), countB s (ByteArray.mk #[32]) = k → splitB (ByteArray.mk #[32]) 0 k s = (cuts s.data.toList).map mkB
  | 0, s, h => by
    rcases indexB_cases s (ByteArray.mk #[32]) with hix | ⟨i, hix, _⟩
    · have hx : index s.data.toList [32] = -1 := hix
      rw [cuts_miss _ (index_none _ hx)]
      show [s] = [mkB s.data.toList]
      rw [mkB_self]
    · rw [countB_hit s _ i (by decide) hix] at h
      omega
  | k + 1, s, h => by
    rcases indexB_cases s (ByteArray.mk #[32]) with hix | ⟨i, hix, hroom⟩
    · rw [countB_miss s _ hix] at h; omega
    · have hx : index s.data.toList [32] = (i : Int) := hix
      obtain ⟨a, r, h1, h2, h3⟩ := index_hit _ _ hx
      have hc := countB_hit s _ i (by decide) hix
      rw [splitB_hit _ _ k s i hix, split_cuts k _ (by omega), h1, cuts_hit a r h3, List.map_cons]
      have e1 : s.extract 0 (i + 0) = mkB a := by
        apply ByteArray.ext
        apply Array.ext'
        simp only [ByteArray.data_extract, Array.toList_extract, h1, mkB, List.extract, List.drop_zero, Nat.add_zero, Nat.sub_zero]
        rw [← h2, List.take_left]
      have e2 : (s.extract (i + (ByteArray.mk #[32]).size) s.size).data.toList = r := by
        simp only [ByteArray.data_extract, Array.toList_extract, List.extract, h1]
        have hs : s.size = (a ++ 32 :: r).length := by rw [← h1]; rfl
        have hz : (ByteArray.mk #[32]).size = 1 := rfl
        rw [hs, hz, ← h2]
        rw [show (a ++ 32 :: r).drop (a.length + 1) = r by rw [← List.drop_drop, List.drop_left]; rfl]
        rw [List.take_of_length_le]
        simp only [List.length_append, List.length_cons]
        omega
      rw [e1, e2]
theorem ex_of (s : ByteArray) (f i : Nat) : s.extract f i = mkB ((s.data.toList.take i).drop f) := by
  apply ByteArray.ext
  apply Array.ext'
  simp only [ByteArray.data_extract, Array.toList_extract, List.extract, mkB]
  rw [List.drop_take]
theorem get_of (s : ByteArray) (i : Nat) (h : i < s.size) : ∃ b, s[i]? = some b ∧ s.data.toList[i]? = some b := ⟨s[i], getElem?_pos s i h, by
  rw [List.getElem?_eq_getElem (show i < s.data.toList.length from h)]
  rfl⟩
theorem wordsS (s : ByteArray) (hs : s.size ≤ 1048576) : d6 s = true ∧ v6 s = (cuts s.data.toList).map mkB := by
  have hsz : s.data.toList.length = s.size := rfl
  have h := run_sat (s := s6_0) (Q := fun v => v.2.2.2.2.1 = (cuts s.data.toList).map mkB) (fun k v => (∃ (i f : Nat) (A : List (List UInt8)), v = (s, [], (f : Int), (i : Int), A.map mkB, ()) ∧ i + k = s.size + 1 ∧ i ≤ s.size ∧ f ≤ i ∧ cuts (s.data.toList.take i) = A ++ [(s.data.toList.take i).drop f]) ∨ (k = 0 ∧ ∃ f : Int, v = (s, [], f, (s.size : Int) + 1, (cuts s.data.toList).map mkB, ()))) (fun k v hv => by
    rcases hv with ⟨i, f, A, rfl, hk, hi, hf, hA⟩ | ⟨rfl, f, rfl⟩
    · have hw := wrap_nat (n := i) (by omega)
      have hal : A.length ≤ 1048577 := by
        have := cuts_len (s.data.toList.take i)
        rw [hA, List.length_append, List.length_take] at this
        simp only [List.length_cons, List.length_nil] at this
        omega
      have hz : ∀ x : ByteArray, (A.map mkB ++ [x]).length * 16 ≤ 140737488351232 := fun x => by simp only [List.length_append, List.length_map, List.length_cons, List.length_nil]; omega
      have g1 : (0 : Int) ≤ (i : Int) := by omega
      have g2 : (i : Int) ≤ (s.size : Int) := by omega
      have g3 : (0 : Int) ≤ (f : Int) := by omega
      have g4 : (f : Int) ≤ ((i : Nat) : Int) := by omega
      unfold s6_0 t6_0
      dsimp only
      rw [decide_eq_true g2, cond_true]
      simp only [Int.toNat_natCast, if_pos g1, if_pos g2, if_pos g3, if_pos g4, if_pos (hz _), hw]
      by_cases he : i = s.size
      · rw [show ((i : Int) == (s.size : Int)) = true from by rw [he]; exact beq_self_eq_true _, cond_true, Sat_some]
        refine .inr ⟨rfl, k - 1, by omega, .inr ⟨by omega, ((i + 1 : Nat) : Int), ?_⟩⟩
        have ht : s.data.toList.take i = s.data.toList := List.take_of_length_le (by omega)
        rw [ht] at hA
        rw [hA, List.map_append, ex_of, ht, he]
        rfl
      · obtain ⟨b, b1, b2⟩ := get_of s i (by omega)
        rw [show ((i : Int) == (s.size : Int)) = false from beq_eq_false_iff_ne.2 (by omega), cond_false, b1, optC_some]
        have ht : s.data.toList.take (i + 1) = s.data.toList.take i ++ [b] := take_snoc b2
        have hsn := cuts_snoc _ b _ _ hA
        rw [← ht] at hsn
        have hli : (s.data.toList.take i).length = i := by rw [List.length_take]; omega
        by_cases hb : b = 32
        · subst hb
          rw [show (((32 : UInt8).toNat : Int) == (32 : Int)) = true from rfl, cond_true, Sat_some]
          rw [if_pos rfl] at hsn
          refine .inr ⟨rfl, k - 1, by omega, .inl ⟨i + 1, i + 1, A ++ [(s.data.toList.take i).drop f], ?_, by omega, by omega, Nat.le_refl _, ?_⟩⟩
          · rw [List.map_append, ex_of]
            rfl
          · have e : List.drop (i + 1) (List.take (i + 1) s.data.toList) = [] := List.drop_of_length_le (by rw [List.length_take]; omega)
            rw [hsn, e]
        · have hne : ((b.toNat : Int) == (32 : Int)) = false := beq_eq_false_iff_ne.2 (fun e => hb (by
            have : b.toNat = 32 := by omega
            exact UInt8.toNat_inj.1 this))
          rw [hne, cond_false, Sat_some]
          rw [if_neg hb] at hsn
          refine .inr ⟨rfl, k - 1, by omega, .inl ⟨i + 1, f, A, rfl, by omega, by omega, by omega, ?_⟩⟩
          rw [hsn, ht, List.drop_append_of_le_length (by omega)]
    · unfold s6_0 t6_0
      dsimp only
      rw [decide_eq_false (show ¬ ((s.size : Int) + 1 ≤ (s.size : Int)) by omega), cond_false, Sat_some]
      exact .inl ⟨rfl, rfl⟩) (s.size + 1) (s, [], (0 : Int), (0 : Int), [], ()) (n6_0 (s, [], 0, 0, [], ())) (.inl ⟨0, 0, [], rfl, by omega, by omega, Nat.le_refl _, rfl⟩) (by simp only [n6_0]; omega)
  have hk : k6_0 s [] 0 0 [] 0 = true := h.1.1
  have hw : (w6_0 s [] 0 0 []).2.2.2.2.1 = _ := h.2
  unfold d6 v6
  rw [hk, cond_true, cond_true]
  exact ⟨rfl, hw⟩
theorem wordsI (s : ByteArray) (hs : s.size ≤ 1048576) : d7 s = true ∧ v7 s = (cuts s.data.toList).map mkB := by
  have hd : d20 s (ByteArray.mk #[32]) = true := decide_eq_true ⟨by omega, by decide⟩
  unfold d7 v7
  rw [hd, cond_true, cond_true]
  exact ⟨rfl, split_cuts _ s rfl⟩
def dg (d : Nat) : ByteArray := ⟨#[UInt8.ofNat (48 + d)]⟩
def decN (n : Nat) : ByteArray := if h : n < 10 then dg n else decN (n / 10) ++ dg (n % 10)
termination_by n
def minus : ByteArray := ⟨#[45]⟩
def txt (n : Int) : ByteArray := if n < 0 then minus ++ decN n.natAbs else decN n.natAbs
theorem decN_small (n : Nat) (h : n < 10) : decN n = dg n := by rw [decN, dif_pos h]
theorem decN_step (n : Nat) (h : ¬ n < 10) : decN n = decN (n / 10) ++ dg (n % 10) := by rw [decN, dif_neg h]
theorem dg_size (d : Nat) : (dg d).size = 1 := rfl
theorem minus_size : minus.size = 1 := rfl
theorem decN_size (d : Nat) : ∀ n : Nat, n < 10 ^ (d + 1) → (decN n).size ≤ d + 1 := by
  induction d with
  | zero =>
    intro n h
    rw [decN_small n (by simpa using h), dg_size]
    omega
  | succ d ih =>
    intro n h
    by_cases h10 : n < 10
    · rw [decN_small n h10, dg_size]
      omega
    · rw [decN_step n h10, ByteArray.size_append, dg_size]
      have := ih (n / 10) (by rw [Nat.pow_succ] at h; omega)
      omega
def I64 (n : Int) : Prop := -9223372036854775808 ≤ n ∧ n ≤ 9223372036854775807
theorem abs_lt {n : Int} (h : I64 n) : n.natAbs < 10 ^ (19 + 1) := by
  have : (10 : Nat) ^ (19 + 1) = 100000000000000000000 := by decide
  unfold I64 at h
  omega
theorem txt_size {n : Int} (h : I64 n) : (txt n).size ≤ 21 := by
  have h := decN_size 19 _ (abs_lt h)
  unfold txt
  split
  · rw [ByteArray.size_append]
    have : minus.size = 1 := rfl
    omega
  · omega
theorem enc_digit (d : Nat) (h : d < 10) : Utf8.encode (IntKind.wrap .i32 (IntKind.wrap .i64 (48 + (d : Int)))) = dg d := by
  have e : ∀ m, m < 10 → Utf8.encode (IntKind.wrap .i32 (IntKind.wrap .i64 (48 + ((m : Nat) : Int)))) = dg m := by decide
  exact e d h
theorem nums_digit (d : Nat) (h : d < 10) : strOfNums [IntKind.wrap .u8 (IntKind.wrap .i64 (48 + (d : Int)))] = dg d := by
  have e : ∀ m, m < 10 → strOfNums [IntKind.wrap .u8 (IntKind.wrap .i64 (48 + ((m : Nat) : Int)))] = dg m := by decide
  exact e d h
theorem tmod_neg {x : Int} (h : x < 0) : Int.tmod x 10 = -((x.natAbs % 10 : Nat) : Int) := by
  obtain ⟨m, rfl⟩ : ∃ m : Nat, x = -(m : Int) := ⟨x.natAbs, by omega⟩
  rw [Int.neg_tmod, Int.natAbs_neg, Int.natAbs_natCast]
  rfl
theorem tdiv_neg {x : Int} (h : x < 0) : Int.tdiv x 10 = -((x.natAbs / 10 : Nat) : Int) := by
  obtain ⟨m, rfl⟩ : ∃ m : Nat, x = -(m : Int) := ⟨x.natAbs, by omega⟩
  rw [Int.neg_tdiv, Int.natAbs_neg, Int.natAbs_natCast]
  rfl
theorem tmod_pos {x : Int} (h : 0 ≤ x) : Int.tmod x 10 = ((x.natAbs % 10 : Nat) : Int) := by
  obtain ⟨m, rfl⟩ : ∃ m : Nat, x = (m : Int) := ⟨x.natAbs, by omega⟩
  rfl
theorem tdiv_pos {x : Int} (h : 0 ≤ x) : Int.tdiv x 10 = ((x.natAbs / 10 : Nat) : Int) := by
  obtain ⟨m, rfl⟩ : ∃ m : Nat, x = (m : Int) := ⟨x.natAbs, by omega⟩
  rfl
theorem tdiv_abs (x : Int) : (Int.tdiv x 10).natAbs = x.natAbs / 10 := by
  by_cases h : x < 0
  · rw [tdiv_neg h]; omega
  · rw [tdiv_pos (by omega)]; omega
theorem tdiv_in {x : Int} (h : I64 x) : I64 (Int.tdiv x 10) := by
  unfold I64 at h ⊢
  by_cases hn : x < 0
  · rw [tdiv_neg hn]; omega
  · rw [tdiv_pos (by omega)]; omega
theorem stepS (a x : Int) (e s : ByteArray) (hx : x ≠ 0) (hr : I64 x) (hs : s.size ≤ 100) : s40_0 (a, e, s, x, ()) = some (0, (a, e, dg (x.natAbs % 10) ++ s, Int.tdiv x 10, ())) := by
  have hd := tdiv_in hr
  unfold I64 at hr hd
  have hne : (x != 0) = true := by simpa using hx
  have hsz : ∀ d, (dg d).size + s.size ≤ 9223372036854775807 := fun d => by rw [dg_size]; omega
  simp only [s40_0, t40_0, hne, cond_true]
  rw [wrap_in (n := Int.tdiv x 10) hd.1 hd.2]
  by_cases hn : x < 0
  · by_cases hz : x.natAbs % 10 = 0
    · have e1 : Int.tmod x 10 = ((x.natAbs % 10 : Nat) : Int) := by rw [tmod_neg hn, hz]; rfl
      rw [e1, decide_eq_false (by omega), nums_digit _ (by omega)]
      simp only [cond_false, if_pos (hsz _)]
    · rw [tmod_neg hn, decide_eq_true (by omega), show (0 : Int) - -((x.natAbs % 10 : Nat) : Int) = ((x.natAbs % 10 : Nat) : Int) by omega, wrap_in (n := ((x.natAbs % 10 : Nat) : Int)) (by omega) (by omega), nums_digit _ (by omega)]
      simp only [cond_true, if_pos (hsz _)]
  · rw [tmod_pos (by omega), decide_eq_false (by omega), nums_digit _ (by omega)]
    simp only [cond_false, if_pos (hsz _)]
theorem stopS (a : Int) (e s : ByteArray) : s40_0 (a, e, s, 0, ()) = some (1, (a, e, s, 0, ())) := rfl
theorem iterS (a : Int) (e : ByteArray) : ∀ (d : Nat) (x : Int) (s : ByteArray) (n : Nat), x.natAbs < 10 ^ d → d < n → I64 x → s.size + d ≤ 100 →
    iter s40_0 n (a, e, s, x, ()) = some (0, (a, e, (if x = 0 then s else decN x.natAbs ++ s), 0, ())) := by
  have stop : ∀ (s : ByteArray) (n : Nat), 0 < n → iter s40_0 n (a, e, s, 0, ()) = some (0, (a, e, s, 0, ())) := fun s n hn => by
    obtain ⟨n, rfl⟩ : ∃ k, n = k + 1 := ⟨n - 1, by omega⟩
    rfl
  intro d
  induction d with
  | zero =>
    intro x s n h hn hr hs
    have : x = 0 := by omega
    subst this
    rw [stop s n hn]
    rfl
  | succ d ih =>
    intro x s n h hn hr hs
    by_cases hx : x = 0
    · subst hx
      rw [stop s n (by omega)]
      rfl
    · obtain ⟨n, rfl⟩ : ∃ k, n = k + 1 := ⟨n - 1, by omega⟩
      have hq := tdiv_abs x
      have h2 := ih (Int.tdiv x 10) (dg (x.natAbs % 10) ++ s) n (by rw [hq]; rw [Nat.pow_succ] at h; omega) (by omega) (tdiv_in hr) (by rw [ByteArray.size_append, dg_size]; omega)
      simp only [iter, stepS a x e s hx hr (by omega), Option.bind_some, if_neg hx]
      rw [h2, hq]
      by_cases h10 : x.natAbs < 10
      · rw [if_pos (by omega), decN_small _ h10, Nat.mod_eq_of_lt h10]
      · rw [if_neg (by omega), ← ByteArray.append_assoc, ← decN_step _ h10]
theorem numS (n : Int) (hr : I64 n) : d40 n = true ∧ v40 n = txt n := by
  have h := iterS n ByteArray.empty 20 n ByteArray.empty (n40_0 (n, ByteArray.empty, ByteArray.empty, n, ())) (abs_lt hr) (by simp only [n40_0]; omega) hr (by decide)
  have hk : k40_0 n ByteArray.empty ByteArray.empty n 0 = true := at_of h 0
  have hw : w40_0 n ByteArray.empty ByteArray.empty n = _ := val_of h
  have ht := txt_size hr
  unfold d40 v40
  rw [hk, hw]
  by_cases hz : n = 0
  · subst hz
    simp only [beq_self_eq_true, cond_true, true_and]
    unfold txt
    rw [if_neg (by omega), decN_small _ (by decide)]
    rfl
  · have e0 : (n == 0) = false := by simpa using hz
    have ee : decN n.natAbs ++ ByteArray.empty = decN n.natAbs := ByteArray.append_empty
    simp only [e0, cond_false, cond_true, if_neg hz, ee, Bool.and_true]
    unfold txt at ht ⊢
    by_cases hn : n < 0
    · rw [if_pos hn] at ht ⊢
      rw [decide_eq_true hn]
      rw [ByteArray.size_append] at ht
      exact ⟨decide_eq_true (show minus.size + _ ≤ _ by omega), rfl⟩
    · rw [if_neg hn]
      rw [decide_eq_false hn]
      exact ⟨rfl, rfl⟩
theorem oneI (k : Nat) (n : Int) (h0 : 0 ≤ n) (h1 : n < 10) : R28 (k + 1) n = (true, txt n) := by
  have e : Utf8.encode (IntKind.wrap .i32 (IntKind.wrap .i64 (48 + n))) = txt n := by
    have := enc_digit n.natAbs (by omega)
    rw [show ((n.natAbs : Nat) : Int) = n by omega] at this
    rw [this]
    unfold txt
    rw [if_neg (by omega), decN_small _ (by omega)]
  simp only [R28, d28s, v28s, t28, Option.isSome_some, Option.getD_some, decide_eq_false (show ¬ n < 0 by omega), decide_eq_true h1, cond_true, cond_false, e]
theorem negI (k : Nat) (n : Int) (h0 : n < 0) (h1 : -10 < n) : R28 (k + 2) n = (true, txt n) := by
  have e1 : IntKind.wrap .i64 (0 - n) = -n := by rw [wrap_in (by omega) (by omega)]; omega
  have e2 := oneI k (-n) (by omega) (by omega)
  have hs : (txt (-n)).size ≤ 21 := txt_size (by unfold I64; omega)
  have et : (ByteArray.mk #[45]) ++ txt (-n) = txt n := by
    unfold txt
    rw [if_neg (by omega), if_pos h0, Int.natAbs_neg]
    rfl
  rw [R28]
  simp only [d28s, v28s, t28, Option.isSome_some, Option.getD_some, decide_eq_true h0, decide_eq_true (show n > -10 by omega), cond_true, e1, e2, et]
  rw [if_pos (show (ByteArray.mk #[45]).size + (txt (-n)).size ≤ 9223372036854775807 from by have : (ByteArray.mk #[45]).size = 1 := rfl; omega)]
  rfl
theorem recI : ∀ (d : Nat) (n : Int), n.natAbs < 10 ^ (d + 1) → I64 n → R28 (d + 2) n = (true, txt n) := by
  intro d
  induction d with
  | zero =>
    intro n h hr
    have : n.natAbs < 10 := by simpa using h
    by_cases hn : n < 0
    · exact negI 0 n hn (by omega)
    · exact oneI 1 n (by omega) (by omega)
  | succ d ih =>
    intro n h hr
    by_cases h10 : n.natAbs < 10
    · by_cases hn : n < 0
      · exact negI _ n hn (by omega)
      · exact oneI _ n (by omega) (by omega)
    · have hq := tdiv_abs n
      have hd := tdiv_in hr
      have h1 := ih (Int.tdiv n 10) (by rw [hq]; rw [Nat.pow_succ] at h; omega) hd
      have hs1 := txt_size hd
      have hd' := hd
      unfold I64 at hd'
      have e1 : IntKind.wrap .i64 (Int.tdiv n 10) = Int.tdiv n 10 := wrap_in hd'.1 hd'.2
      rw [R28]
      by_cases hn : n < 0
      · have e2 : IntKind.wrap .i64 (0 - Int.tmod n 10) = ((n.natAbs % 10 : Nat) : Int) := by
          rw [tmod_neg hn, show (0 : Int) - -((n.natAbs % 10 : Nat) : Int) = ((n.natAbs % 10 : Nat) : Int) by omega, wrap_in (by omega) (by omega)]
        have h2 := oneI (d + 1) ((n.natAbs % 10 : Nat) : Int) (by omega) (by omega)
        have hs2 : (txt ((n.natAbs % 10 : Nat) : Int)).size ≤ 21 := txt_size (by unfold I64; omega)
        have et : txt (Int.tdiv n 10) ++ txt ((n.natAbs % 10 : Nat) : Int) = txt n := by
          unfold txt
          rw [if_pos (show Int.tdiv n 10 < 0 by rw [tdiv_neg hn]; omega), if_neg (by omega), if_pos hn, hq, Int.natAbs_natCast, decN_step _ h10, decN_small (n.natAbs % 10) (by omega), ByteArray.append_assoc]
        simp only [d28s, v28s, t28, Option.isSome_some, Option.getD_some, decide_eq_true hn, decide_eq_false (show ¬ n > -10 by omega), cond_true, cond_false, e1, e2, h1, h2, et]
        rw [if_pos (show (txt (Int.tdiv n 10)).size + (txt ((n.natAbs % 10 : Nat) : Int)).size ≤ 9223372036854775807 by omega)]
        rfl
      · have e2 : Utf8.encode (IntKind.wrap .i32 (IntKind.wrap .i64 (48 + Int.tmod n 10))) = dg (n.natAbs % 10) := by rw [tmod_pos (by omega), enc_digit _ (by omega)]
        have et : txt (Int.tdiv n 10) ++ dg (n.natAbs % 10) = txt n := by
          unfold txt
          rw [if_neg (show ¬ Int.tdiv n 10 < 0 by rw [tdiv_pos (by omega)]; omega), if_neg hn, hq, decN_step _ h10]
        simp only [d28s, v28s, t28, Option.isSome_some, Option.getD_some, decide_eq_false hn, decide_eq_false (show ¬ n < 10 by omega), cond_true, cond_false, e1, e2, h1, et]
        rw [if_pos (show (txt (Int.tdiv n 10)).size + (dg (n.natAbs % 10)).size ≤ 9223372036854775807 by rw [dg_size]; omega)]
        rfl
theorem numI (n : Int) (hr : I64 n) : d28 n = true ∧ v28 n = txt n := by
  have h := recI 38 n (Nat.lt_of_lt_of_le (abs_lt hr) (Nat.pow_le_pow_right (by omega) (by omega))) hr
  unfold d28 v28
  rw [h]
  exact ⟨rfl, rfl⟩
theorem lits (a : Array UInt8) : (ByteArray.mk a).size = a.size := rfl
theorem joinB_one (x s : ByteArray) : joinB [x] s = x := by simp [joinB, Go.Lib.join]
theorem joinB_cons (x y : ByteArray) (l : List ByteArray) (s : ByteArray) : joinB (x :: y :: l) s = x ++ (s ++ joinB (y :: l) s) := by
  apply ByteArray.ext
  simp [joinB, Go.Lib.join, List.intercalate]
theorem ok_i64 {n : Int} (h : Ty.ok (.int .i64) n) : -9223372036854775808 ≤ n ∧ n ≤ 9223372036854775807 := by
  simp [Ty.ok, Lit.wf, IntKind.min, IntKind.max, IntKind.signed, IntKind.bits] at h
  omega
theorem okI {n : Int} (h : Ty.ok (.int .i64) n) : I64 n := ok_i64 h
theorem List.reverseRecOn' {α : Type} {motive : List α → Prop} (l : List α) (nil : motive []) (snoc : ∀ l b, motive l → motive (l ++ [b])) : motive l := by
  rw [← List.reverse_reverse l]
  induction l.reverse with
  | nil => exact nil
  | cons a r ih => rw [List.reverse_cons]; exact snoc _ _ ih
theorem toList_loop (b : ByteArray) : ∀ (n i : Nat) (r : List UInt8), b.size - i = n → ByteArray.toList.loop b i r = r.reverse ++ b.data.toList.drop i
  | 0, i, r, hn => by
    rw [ByteArray.toList.loop, if_neg (by omega), List.drop_of_length_le (show b.data.toList.length ≤ i from by have : b.data.toList.length = b.size := rfl; omega), List.append_nil]
  | n + 1, i, r, hn => by
    have hi : i < b.data.toList.length := by have : b.data.toList.length = b.size := rfl; omega
    rw [ByteArray.toList.loop, if_pos (by omega), toList_loop b n (i + 1) _ (by omega), List.drop_eq_getElem_cons hi, List.reverse_cons, List.append_assoc]
    have : b.get! i = b.data.toList[i] := by
      show b.data[i]! = _
      rw [getElem!_pos b.data i hi]
      rfl
    rw [this]
    rfl
theorem toList_data (b : ByteArray) : b.toList = b.data.toList := by
  have := toList_loop b _ 0 [] rfl
  rw [List.reverse_nil, List.nil_append, List.drop_zero] at this
  exact this
theorem beq_toList (a b : ByteArray) : (a.toList == b.toList) = decide (a = b) := by
  rw [toList_data, toList_data]
  by_cases h : a = b
  · rw [h, decide_eq_true rfl, beq_self_eq_true]
  · rw [decide_eq_false h]
    exact beq_eq_false_iff_ne.2 fun e => h (ByteArray.ext (Array.ext' e))
theorem mkB_inj {a b : List UInt8} (h : mkB a = mkB b) : a = b := by
  have := congrArg (fun x : ByteArray => x.data.toList) h
  simpa [mkB] using this
theorem mkB_app (a b : List UInt8) : mkB (a ++ b) = mkB a ++ mkB b := by
  apply ByteArray.ext
  simp [mkB]
def isDg (b : UInt8) : Bool := decide (48 ≤ b.toNat) && decide (b.toNat ≤ 57)
def valN (l : List UInt8) : Nat := l.foldl (fun a b => 10 * a + (b.toNat - 48)) 0
theorem valN_snoc (l : List UInt8) (b : UInt8) : valN (l ++ [b]) = 10 * valN l + (b.toNat - 48) := by simp [valN]
theorem valN_lt : ∀ (l : List UInt8), (∀ b ∈ l, isDg b = true) → valN l < 10 ^ l.length := by
  intro l
  induction l using List.reverseRecOn' with
  | nil => intro _; decide
  | snoc l b ih =>
    intro h
    have h1 := ih fun x hx => h x (List.mem_append_left _ hx)
    have h2 := h b (List.mem_append_right _ (List.mem_singleton.2 rfl))
    simp only [isDg, Bool.and_eq_true, decide_eq_true_eq] at h2
    rw [valN_snoc, List.length_append, List.length_cons, List.length_nil, Nat.pow_succ]
    omega
theorem dg_byte {b : UInt8} (h : isDg b = true) : dg (b.toNat - 48) = mkB [b] := by
  simp only [isDg, Bool.and_eq_true, decide_eq_true_eq] at h
  unfold dg mkB
  have : UInt8.ofNat (48 + (b.toNat - 48)) = b := by
    rw [show 48 + (b.toNat - 48) = b.toNat by omega]
    exact UInt8.ofNat_toNat
  rw [this]
/-- A number's digits, if the first is not 0. -/
theorem decN_val : ∀ (l : List UInt8) (c : UInt8), (∀ b ∈ c :: l, isDg b = true) → c ≠ 48 → 0 < valN (c :: l) ∧ decN (valN (c :: l)) = mkB (c :: l) := by
  intro l
  induction l using List.reverseRecOn' with
  | nil =>
    intro c h hc
    have h1 := h c List.mem_cons_self
    have e := dg_byte h1
    simp only [isDg, Bool.and_eq_true, decide_eq_true_eq] at h1
    have hne : c.toNat ≠ 48 := fun e => hc (UInt8.toNat_inj.1 e)
    have hv : valN [c] = c.toNat - 48 := by simp [valN]
    rw [hv]
    exact ⟨by omega, by rw [decN_small _ (by omega), e]⟩
  | snoc l b ih =>
    intro c h hc
    have hb := h b (List.mem_cons_of_mem _ (List.mem_append_right _ (List.mem_singleton.2 rfl)))
    obtain ⟨h1, h2⟩ := ih c (fun x hx => h x (by rcases List.mem_cons.1 hx with rfl | hx; exact List.mem_cons_self; exact List.mem_cons_of_mem _ (List.mem_append_left _ hx))) hc
    have hv : valN (c :: (l ++ [b])) = 10 * valN (c :: l) + (b.toNat - 48) := valN_snoc (c :: l) b
    have e := dg_byte hb
    simp only [isDg, Bool.and_eq_true, decide_eq_true_eq] at hb
    refine ⟨by omega, ?_⟩
    rw [hv, decN_step _ (by omega), show (10 * valN (c :: l) + (b.toNat - 48)) / 10 = valN (c :: l) by omega, show (10 * valN (c :: l) + (b.toNat - 48)) % 10 = b.toNat - 48 by omega, h2, e, ← mkB_app]
    rfl
/-- No number is written with a 0 ahead of other digits. -/
theorem decN_head : ∀ n : Nat, ∃ c l, decN n = mkB (c :: l) ∧ (c = 48 → l = [] ∧ n = 0) := by
  intro n
  induction n using Nat.strongRecOn with
  | ind n ih =>
    by_cases h : n < 10
    · refine ⟨UInt8.ofNat (48 + n), [], by rw [decN_small n h]; rfl, fun hc => ⟨rfl, ?_⟩⟩
      have := congrArg UInt8.toNat hc
      have e : ∀ d : Nat, d < 10 → (UInt8.ofNat (48 + d)).toNat = 48 + d := by decide
      rw [e n h] at this
      have e2 : (48 : UInt8).toNat = 48 := rfl
      omega
    · obtain ⟨c, l, h1, h2⟩ := ih (n / 10) (by omega)
      refine ⟨c, l ++ [UInt8.ofNat (48 + n % 10)], ?_, fun hc => ?_⟩
      · rw [decN_step n h, h1]
        show mkB (c :: l) ++ mkB [_] = _
        rw [← mkB_app]
        rfl
      · obtain ⟨_, h3⟩ := h2 hc
        omega
theorem decN_zero (c : UInt8) (l : List UInt8) (n : Nat) (h : decN n = mkB (c :: l)) (hc : c = 48) : l = [] ∧ n = 0 := by
  obtain ⟨c', l', h1, h2⟩ := decN_head n
  have e := mkB_inj (h1.symm.trans h)
  simp only [List.cons.injEq] at e
  obtain ⟨rfl, rfl⟩ := e
  exact h2 hc
theorem run_any {V : Type} {s : V → Option (Nat × V)} {Q : Nat → V → Prop} (Inv : Nat → V → Prop) (h : ∀ k v, Inv k v → Sat (s v) fun r => (∃ c, r.1 = c + 1 ∧ Q c r.2) ∨ (r.1 = 0 ∧ ∃ k', k = k' + 1 ∧ Inv k' r.2)) : ∀ (k : Nat) (v : V) (n : Nat), Inv k v → k < n → ∃ c v', iter s n v = some (c, v') ∧ Q c v'
  | k, v, 0, _, hn => by omega
  | k, v, n + 1, hI, hn => by
    obtain ⟨⟨c, v'⟩, h1, h2⟩ := h k v hI
    rcases h2 with ⟨c, rfl, h2⟩ | ⟨rfl, k', rfl, h4⟩
    · exact ⟨c, v', by rw [iter, h1] <;> rfl, h2⟩
    · obtain ⟨c, v2, h5, h6⟩ := run_any Inv h k' v' n h4 (by omega)
      exact ⟨c, v2, by rw [iter, h1]; exact h5, h6⟩
theorem wrap_dg {b : UInt8} (h : isDg b = true) : IntKind.wrap .i64 (IntKind.wrap .u8 ((b.toNat : Int) - (48 : Int))) = ((b.toNat - 48 : Nat) : Int) := by
  simp only [isDg, Bool.and_eq_true, decide_eq_true_eq] at h
  have e : ∀ d : Nat, d < 10 → IntKind.wrap .i64 (IntKind.wrap .u8 (d : Int)) = (d : Int) := by decide
  rw [show (b.toNat : Int) - 48 = ((b.toNat - 48 : Nat) : Int) by omega]
  exact e _ (by omega)
theorem wrap_val {a d : Nat} (h : a ≤ 99999999999) (hd : d < 10) : IntKind.wrap .i64 (IntKind.wrap .i64 ((10 : Int) * (a : Int)) + (d : Int)) = ((10 * a + d : Nat) : Int) := by
  rw [wrap_in (n := (10 : Int) * (a : Int)) (by omega) (by omega), wrap_in (by omega) (by omega)]
  omega
theorem loopNS (s t : ByteArray) (ht : t.size ≤ 10) : (t.data.toList.all isDg = true ∧ k38_0 s 0 false t 0 0 0 = false ∧ k38_0 s 0 false t 0 0 1 = true ∧ w38_0 s 0 false t 0 0 = (s, 0, false, t, (valN t.data.toList : Int), (t.size : Int), ())) ∨ (t.data.toList.all isDg = false ∧ k38_0 s 0 false t 0 0 0 = true ∧ (w38_0 s 0 false t 0 0).2.1 = (0 : Int) ∧ (w38_0 s 0 false t 0 0).2.2.1 = false) := by
  have hsz : t.data.toList.length = t.size := rfl
  obtain ⟨c, v', h1, h2⟩ := run_any (s := s38_0) (Q := fun c v => (c = 0 ∧ t.data.toList.all isDg = false ∧ v.2.1 = (0 : Int) ∧ v.2.2.1 = false) ∨ (c = 1 ∧ t.data.toList.all isDg = true ∧ v = (s, 0, false, t, (valN t.data.toList : Int), (t.size : Int), ()))) (fun k v => ∃ i : Nat, v = (s, 0, false, t, (valN (t.data.toList.take i) : Int), (i : Int), ()) ∧ i + k = t.size ∧ ∀ b ∈ t.data.toList.take i, isDg b = true) (fun k v hv => by
    obtain ⟨i, rfl, hk, hd⟩ := hv
    unfold s38_0 t38_0
    dsimp only
    by_cases hi : i < t.size
    · obtain ⟨b, b1, b2⟩ := get_of t i hi
      have h0 : (0 : Int) ≤ (i : Int) := by omega
      have hw : IntKind.wrap .i64 (b.toNat : Int) = (b.toNat : Int) := wrap_in (by omega) (by have := b.toNat_lt; omega)
      have ht1 : t.data.toList.take (i + 1) = t.data.toList.take i ++ [b] := take_snoc b2
      have e : v58 (b.toNat : Int) 48 57 = isDg b := by
        unfold v58 isDg
        by_cases h1 : 48 ≤ b.toNat
        · rw [decide_eq_true (show (b.toNat : Int) ≥ 48 by omega), cond_true, decide_eq_true h1, Bool.true_and]
          by_cases h2 : b.toNat ≤ 57
          · rw [decide_eq_true (show (b.toNat : Int) ≤ 57 by omega), decide_eq_true h2]
          · rw [decide_eq_false (show ¬ (b.toNat : Int) ≤ 57 by omega), decide_eq_false h2]
        · rw [decide_eq_false (show ¬ (b.toNat : Int) ≥ 48 by omega), cond_false, decide_eq_false h1, Bool.false_and]
      rw [decide_eq_true (show (i : Int) < (t.size : Int) by omega), cond_true, if_pos h0, Int.toNat_natCast, b1, optC_some, hw, e]
      cases hdb : isDg b
      · rw [Bool.not_false, cond_true, Sat_some]
        exact .inl ⟨0, rfl, .inl ⟨rfl, List.all_eq_false.2 ⟨b, List.mem_of_getElem? b2, by rw [hdb]; decide⟩, rfl, rfl⟩⟩
      · have hlt := valN_lt _ hd
        have hpl : (10 : Nat) ^ (t.data.toList.take i).length ≤ 10 ^ 10 := Nat.pow_le_pow_right (by omega) (by rw [List.length_take]; omega)
        have hp : (10 : Nat) ^ 10 = 10000000000 := by decide
        have hb10 : b.toNat - 48 < 10 := by
          have h := hdb
          simp only [isDg, Bool.and_eq_true, decide_eq_true_eq] at h
          omega
        rw [Bool.not_true, cond_false, optC_some, if_pos h0, Sat_some, wrap_dg hdb, wrap_val (by omega) hb10, wrap_nat (n := i) (by omega)]
        exact .inr ⟨rfl, k - 1, by omega, i + 1, by rw [ht1, valN_snoc], by omega, fun x hx => by
          rw [ht1] at hx
          rcases List.mem_append.1 hx with hx | hx
          · exact hd x hx
          · rw [List.mem_singleton.1 hx]; exact hdb⟩
    · have : i = t.size := by omega
      subst this
      rw [decide_eq_false (show ¬ ((t.size : Int) < (t.size : Int)) by omega), cond_false, Sat_some]
      have hall : t.data.toList.take t.size = t.data.toList := List.take_of_length_le (by omega)
      rw [hall] at hd ⊢
      exact .inl ⟨1, rfl, .inr ⟨rfl, List.all_eq_true.2 hd, rfl⟩⟩) t.size (s, (0 : Int), false, t, (0 : Int), (0 : Int), ()) (n38_0 (s, 0, false, t, 0, 0, ())) ⟨0, rfl, by omega, fun x hx => absurd hx (by simp)⟩ (by simp only [n38_0]; omega)
  rcases h2 with ⟨rfl, h3, h4, h5⟩ | ⟨rfl, h3, rfl⟩
  · have hw : w38_0 s 0 false t 0 0 = v' := val_of h1
    exact .inr ⟨h3, at_of h1 0, by rw [hw]; exact h4, by rw [hw]; exact h5⟩
  · exact .inl ⟨h3, at_of h1 0, at_of h1 1, val_of h1⟩
theorem loopNI (s t : ByteArray) (ht : t.size ≤ 10) : (t.data.toList.all isDg = true ∧ k41_3 s 0 false t 0 (t.size : Int) 0 0 = false ∧ k41_3 s 0 false t 0 (t.size : Int) 0 1 = true ∧ w41_3 s 0 false t 0 (t.size : Int) 0 = (s, 0, false, t, (valN t.data.toList : Int), (t.size : Int), (t.size : Int), ())) ∨ (t.data.toList.all isDg = false ∧ k41_3 s 0 false t 0 (t.size : Int) 0 0 = true ∧ (w41_3 s 0 false t 0 (t.size : Int) 0).2.1 = (0 : Int) ∧ (w41_3 s 0 false t 0 (t.size : Int) 0).2.2.1 = false) := by
  have hsz : t.data.toList.length = t.size := rfl
  obtain ⟨c, v', h1, h2⟩ := run_any (s := s41_3) (Q := fun c v => (c = 0 ∧ t.data.toList.all isDg = false ∧ v.2.1 = (0 : Int) ∧ v.2.2.1 = false) ∨ (c = 1 ∧ t.data.toList.all isDg = true ∧ v = (s, 0, false, t, (valN t.data.toList : Int), (t.size : Int), (t.size : Int), ()))) (fun k v => ∃ i : Nat, v = (s, 0, false, t, (valN (t.data.toList.take i) : Int), (t.size : Int), (i : Int), ()) ∧ i + k = t.size ∧ ∀ b ∈ t.data.toList.take i, isDg b = true) (fun k v hv => by
    obtain ⟨i, rfl, hk, hd⟩ := hv
    unfold s41_3 t41_3
    dsimp only
    by_cases hi : i < t.size
    · obtain ⟨b, b1, b2⟩ := get_of t i hi
      have h0 : (0 : Int) ≤ (i : Int) := by omega
      have ht1 : t.data.toList.take (i + 1) = t.data.toList.take i ++ [b] := take_snoc b2
      have e : ∀ x z q b', g41_4 (s, 0, false, t, x, (i : Int), z, q, b', (i : Int), ()) = true ∧ (c41_4 (s, 0, false, t, x, (i : Int), z, q, b', (i : Int), ())).2.2.2 = !isDg b := fun x z q b' => by
        unfold g41_4 c41_4 t41_4
        dsimp only
        rw [if_pos h0, Int.toNat_natCast, b1, optC_some]
        unfold isDg
        by_cases h1 : 48 ≤ b.toNat
        · rw [decide_eq_false (show ¬ ((b.toNat : Int) < 48) by omega), cond_false, if_pos h0, optC_some, decide_eq_true h1, Bool.true_and]
          by_cases h2 : b.toNat ≤ 57
          · rw [decide_eq_false (show ¬ (b.toNat : Int) > 57 by omega), decide_eq_true h2]
            exact ⟨rfl, rfl⟩
          · rw [decide_eq_true (show (b.toNat : Int) > 57 by omega), decide_eq_false h2]
            exact ⟨rfl, rfl⟩
        · rw [decide_eq_true (show (b.toNat : Int) < 48 by omega), cond_true, decide_eq_false h1]
          exact ⟨rfl, rfl⟩
      rw [decide_eq_true (show (i : Int) < (t.size : Int) by omega), cond_true, (e _ _ _ _).1, cond_true, (e _ _ _ _).2]
      cases hdb : isDg b
      · rw [Bool.not_false, cond_true, Sat_some]
        exact .inl ⟨0, rfl, .inl ⟨rfl, List.all_eq_false.2 ⟨b, List.mem_of_getElem? b2, by rw [hdb]; decide⟩, rfl, rfl⟩⟩
      · have hlt := valN_lt _ hd
        have hpl : (10 : Nat) ^ (t.data.toList.take i).length ≤ 10 ^ 10 := Nat.pow_le_pow_right (by omega) (by rw [List.length_take]; omega)
        have hp : (10 : Nat) ^ 10 = 10000000000 := by decide
        have hb10 : b.toNat - 48 < 10 := by
          have h := hdb
          simp only [isDg, Bool.and_eq_true, decide_eq_true_eq] at h
          omega
        rw [Bool.not_true, cond_false, if_pos h0, Int.toNat_natCast, b1, optC_some, Sat_some, wrap_dg hdb, wrap_val (by omega) hb10, wrap_nat (n := i) (by omega)]
        exact .inr ⟨rfl, k - 1, by omega, i + 1, by rw [ht1, valN_snoc], by omega, fun x hx => by
          rw [ht1] at hx
          rcases List.mem_append.1 hx with hx | hx
          · exact hd x hx
          · rw [List.mem_singleton.1 hx]; exact hdb⟩
    · have : i = t.size := by omega
      subst this
      rw [decide_eq_false (show ¬ ((t.size : Int) < (t.size : Int)) by omega), cond_false, Sat_some]
      have hall : t.data.toList.take t.size = t.data.toList := List.take_of_length_le (by omega)
      rw [hall] at hd ⊢
      exact .inl ⟨1, rfl, .inr ⟨rfl, List.all_eq_true.2 hd, rfl⟩⟩) t.size (s, (0 : Int), false, t, (0 : Int), (t.size : Int), (0 : Int), ()) (n41_3 (s, 0, false, t, 0, (t.size : Int), 0, ())) ⟨0, rfl, by omega, fun x hx => absurd hx (by simp)⟩ (by simp only [n41_3]; omega)
  rcases h2 with ⟨rfl, h3, h4, h5⟩ | ⟨rfl, h3, rfl⟩
  · have hw : w41_3 s 0 false t 0 (t.size : Int) 0 = v' := val_of h1
    exact .inr ⟨h3, at_of h1 0, by rw [hw]; exact h4, by rw [hw]; exact h5⟩
  · exact .inl ⟨h3, at_of h1 0, at_of h1 1, val_of h1⟩
theorem mkB_data (s : ByteArray) : s = mkB s.data.toList := (mkB_self s).symm
theorem size_mkB (l : List UInt8) : (mkB l).size = l.length := by simp [mkB, ByteArray.size]
theorem data_mkB (l : List UInt8) : (mkB l).data.toList = l := by simp [mkB]
/-- What is read of s, whose digits are t. -/
def resN (s : ByteArray) (t : List UInt8) : Int × Bool :=
  if t.length = 0 ∨ 10 < t.length then (0, false) else if t.all isDg = false then (0, false) else if t.head? = some 48 ∧ s ≠ mkB [48] then (0, false) else if 2147483647 < valN t then (0, false) else ((if mkB t = s then (valN t : Int) else -(valN t : Int)), true)
theorem txtN (s : ByteArray) (t : List UInt8) (h0 : t ≠ []) (hd : t.all isDg = true) (neg : Bool) (hs : s = cond neg (mkB (45 :: t)) (mkB t)) : decide (txt (cond neg (-(valN t : Int)) (valN t : Int)) = s) = !decide (t.head? = some 48 ∧ s ≠ mkB [48]) := by
  cases t with
  | nil => exact absurd rfl h0
  | cons c l =>
    have hd : ∀ b ∈ c :: l, isDg b = true := List.all_eq_true.1 hd
    have t0 : txt 0 = mkB [48] := by
      unfold txt
      rw [if_neg (by omega), decN_small _ (by decide)]
      rfl
    by_cases hc : c = 48
    · subst hc
      cases neg with
      | false =>
        have hs : s = mkB (48 :: l) := hs
        subst hs
        show decide (txt (valN (48 :: l) : Int) = _) = _
        cases l with
        | nil =>
          have t0' : txt (valN [48] : Int) = mkB [48] := t0
          rw [decide_eq_true t0', decide_eq_false (fun h => h.2 rfl)]
          rfl
        | cons b l =>
          have hne : mkB (48 :: b :: l) ≠ mkB [48] := fun e => by have := mkB_inj e; simp at this
          rw [decide_eq_false, decide_eq_true ⟨rfl, hne⟩]
          · rfl
          · intro e
            unfold txt at e
            rw [if_neg (by omega), Int.natAbs_natCast] at e
            have := (decN_zero _ _ _ e rfl).1
            cases this
      | true =>
        have hs : s = mkB (45 :: 48 :: l) := hs
        subst hs
        have hne : mkB (45 :: 48 :: l) ≠ mkB [48] := fun e => by have := mkB_inj e; simp at this
        show decide (txt (-(valN (48 :: l) : Int)) = _) = _
        rw [decide_eq_false, decide_eq_true ⟨rfl, hne⟩]
        · rfl
        · intro e
          by_cases hv : valN (48 :: l) = 0
          · rw [hv] at e
            have e : txt 0 = mkB (45 :: 48 :: l) := e
            rw [t0] at e
            have := mkB_inj e
            simp at this
          · unfold txt at e
            rw [if_pos (by omega), Int.natAbs_neg, Int.natAbs_natCast] at e
            have e2 : minus ++ decN (valN (48 :: l)) = mkB [45] ++ mkB (48 :: l) := by rw [e, ← mkB_app]; rfl
            have e3 : (minus ++ decN (valN (48 :: l))).data.toList = (mkB [45] ++ mkB (48 :: l)).data.toList := by rw [e2]
            obtain ⟨c', l', h1, h2⟩ := decN_head (valN (48 :: l))
            rw [h1, show minus = mkB [45] from rfl, ← mkB_app, ← mkB_app, data_mkB, data_mkB] at e3
            simp only [List.singleton_append, List.cons_append, List.nil_append, List.cons.injEq] at e3
            obtain ⟨_, rfl, rfl⟩ := e3
            exact hv (h2 rfl).2
    · have hhd : ¬ ((c :: l).head? = some 48 ∧ s ≠ mkB [48]) := fun h => hc (by simpa using h.1)
      obtain ⟨v1, v2⟩ := decN_val l c hd hc
      rw [decide_eq_false hhd, decide_eq_true]
      · rfl
      · cases neg with
        | false =>
          show txt (valN (c :: l) : Int) = s
          unfold txt
          rw [if_neg (by omega), Int.natAbs_natCast, v2]
          exact hs.symm
        | true =>
          show txt (-(valN (c :: l) : Int)) = s
          unfold txt
          rw [if_pos (by omega), Int.natAbs_neg, Int.natAbs_natCast, v2, hs]
          show mkB [45] ++ mkB (c :: l) = mkB (45 :: c :: l)
          rw [← mkB_app]
          rfl
noncomputable def bodyS (s t : ByteArray) : Option (Int × Bool) :=
  cond ((t.size : Int) == (0 : Int)) (some (0, false)) (cond (decide ((t.size : Int) > (10 : Int))) (some (0, false)) (optC (t[0]?) (fun x2 => cond ((x2.toNat : Int) == (48 : Int)) (cond (!(s.toList == (ByteArray.mk #[48]).toList)) (some (0, false)) (cond (k38_0 s 0 false t 0 0 0) (some ((w38_0 s 0 false t 0 0).2.1, (w38_0 s 0 false t 0 0).2.2.1)) (cond (k38_0 s 0 false t 0 0 1) (cond (decide ((w38_0 s 0 false t 0 0).2.2.2.2.1 > (2147483647 : Int))) (some (0, false)) (cond (!((w38_0 s 0 false t 0 0).2.2.2.1.toList == (w38_0 s 0 false t 0 0).1.toList)) (some (IntKind.wrap .i64 ((0 : Int) - (w38_0 s 0 false t 0 0).2.2.2.2.1), true)) (some ((w38_0 s 0 false t 0 0).2.2.2.2.1, true)))) (none)))) (cond (k38_0 s 0 false t 0 0 0) (some ((w38_0 s 0 false t 0 0).2.1, (w38_0 s 0 false t 0 0).2.2.1)) (cond (k38_0 s 0 false t 0 0 1) (cond (decide ((w38_0 s 0 false t 0 0).2.2.2.2.1 > (2147483647 : Int))) (some (0, false)) (cond (!((w38_0 s 0 false t 0 0).2.2.2.1.toList == (w38_0 s 0 false t 0 0).1.toList)) (some (IntKind.wrap .i64 ((0 : Int) - (w38_0 s 0 false t 0 0).2.2.2.2.1), true)) (some ((w38_0 s 0 false t 0 0).2.2.2.2.1, true)))) (none))))))
theorem bodyS_res (s t : ByteArray) : bodyS s t = some (resN s t.data.toList) := by
  have hsz : t.data.toList.length = t.size := rfl
  unfold bodyS resN
  by_cases h0 : t.size = 0
  · rw [show ((t.size : Int) == (0 : Int)) = true from by rw [h0]; rfl, cond_true, if_pos (.inl (by omega))]
  · rw [show ((t.size : Int) == (0 : Int)) = false from beq_eq_false_iff_ne.2 (by omega), cond_false]
    by_cases h1 : t.size > 10
    · rw [decide_eq_true (show (t.size : Int) > 10 by omega), cond_true, if_pos (.inr (by omega))]
    · rw [decide_eq_false (show ¬ ((t.size : Int) > 10) by omega), cond_false, if_neg (by omega)]
      obtain ⟨b, b1, b2⟩ := get_of t 0 (by omega)
      have hhd : t.data.toList.head? = some b := by rw [List.head?_eq_getElem?]; exact b2
      rw [b1, optC_some, hhd, beq_toList s (ByteArray.mk #[48])]
      have key : (cond (k38_0 s 0 false t 0 0 0) (some ((w38_0 s 0 false t 0 0).2.1, (w38_0 s 0 false t 0 0).2.2.1)) (cond (k38_0 s 0 false t 0 0 1) (cond (decide ((w38_0 s 0 false t 0 0).2.2.2.2.1 > (2147483647 : Int))) (some (0, false)) (cond (!((w38_0 s 0 false t 0 0).2.2.2.1.toList == (w38_0 s 0 false t 0 0).1.toList)) (some (IntKind.wrap .i64 ((0 : Int) - (w38_0 s 0 false t 0 0).2.2.2.2.1), true)) (some ((w38_0 s 0 false t 0 0).2.2.2.2.1, true)))) (none))) = some (if t.data.toList.all isDg = false then (0, false) else if 2147483647 < valN t.data.toList then (0, false) else ((if mkB t.data.toList = s then (valN t.data.toList : Int) else -(valN t.data.toList : Int)), true)) := by
        rcases loopNS s t (by omega) with ⟨hd, k0, k1, hw⟩ | ⟨hd, k0, w1, w2⟩
        · rw [k0, k1, hw, cond_false, cond_true, hd, if_neg (by decide)]
          dsimp only
          have hlt := valN_lt _ (List.all_eq_true.1 hd)
          have hpl : (10 : Nat) ^ t.data.toList.length ≤ 10 ^ 10 := Nat.pow_le_pow_right (by omega) (by omega)
          have hp : (10 : Nat) ^ 10 = 10000000000 := by decide
          by_cases hm : 2147483647 < valN t.data.toList
          · rw [decide_eq_true (show (valN t.data.toList : Int) > 2147483647 by omega), cond_true, if_pos hm]
          · rw [decide_eq_false (show ¬ ((valN t.data.toList : Int) > 2147483647) by omega), cond_false, if_neg hm, beq_toList, mkB_self]
            by_cases hst : t = s
            · rw [decide_eq_true hst, if_pos hst]
              rfl
            · rw [decide_eq_false hst, if_neg hst, Bool.not_false, cond_true, wrap_in (by omega) (by omega), Int.zero_sub]
        · rw [k0, cond_true, w1, w2, hd, if_pos rfl]
      rw [key]
      by_cases hb : b = 48
      · subst hb
        rw [show (((48 : UInt8).toNat : Int) == (48 : Int)) = true from rfl, cond_true]
        by_cases hs : s = ByteArray.mk #[48]
        · rw [decide_eq_true hs, Bool.not_true, cond_false]
          congr 1
          rw [if_neg (show ¬ (some (48 : UInt8) = some 48 ∧ s ≠ mkB [48]) from fun h => h.2 hs)]
        · rw [decide_eq_false hs, Bool.not_false, cond_true]
          congr 1
          rw [if_pos (show some (48 : UInt8) = some 48 ∧ s ≠ mkB [48] from ⟨rfl, hs⟩)]
          split <;> rfl
      · have hne : ((b.toNat : Int) == (48 : Int)) = false := beq_eq_false_iff_ne.2 (fun e => hb (by
          have : b.toNat = 48 := by omega
          exact UInt8.toNat_inj.1 this))
        rw [hne, cond_false]
        congr 1
        rw [if_neg (show ¬ (some b = some 48 ∧ s ≠ mkB [48]) from fun h => hb (by simpa using h.1))]
theorem parseI (s t : ByteArray) (neg : Bool) (hs : s = cond neg (mkB (45 :: t.data.toList)) t) (he : e41_0 s = t) (hg : g41_0 (s, 0, false, s, ()) = true ∧ g41_1 (s, 0, false, s, (c41_0 (s, 0, false, s, ())), ()) = true) : t41 s some = some (resN s t.data.toList) := by
  have hsz : t.data.toList.length = t.size := rfl
  have hss : s.size = t.size + cond neg 1 0 := by
    cases neg with
    | false => rw [hs]; rfl
    | true => rw [hs]; show (mkB _).size = _; rw [size_mkB, List.length_cons]; rfl
  have hne : (mkB t.data.toList = s) = (neg = false) := by
    rw [mkB_self]
    apply propext
    constructor
    · intro h
      cases neg with
      | false => rfl
      | true => exfalso; rw [← h] at hss; simp at hss
    · intro h
      subst h
      exact hs.symm
  have c2 : c41_2 (s, 0, false, t, ()) = decide (t.size = 0 ∨ 10 < t.size) := by
    unfold c41_2 t41_2
    dsimp only [id]
    rw [beq_toList]
    by_cases h0 : t.size = 0
    · have : t = ByteArray.empty := by
        rw [mkB_data t, List.eq_nil_of_length_eq_zero (hsz.trans h0)]
        rfl
      rw [decide_eq_true this, cond_true, decide_eq_true (.inl h0)]
    · have : t ≠ ByteArray.empty := fun e => h0 (by rw [e]; rfl)
      rw [decide_eq_false this, cond_false]
      by_cases h1 : 10 < t.size
      · rw [decide_eq_true (show (t.size : Int) > 10 by omega), decide_eq_true (.inr h1)]
      · rw [decide_eq_false (show ¬ ((t.size : Int) > 10) by omega), decide_eq_false (by omega)]
  unfold t41
  rw [hg.1, hg.2, he, c2, cond_true, cond_true]
  unfold resN
  by_cases hl : t.size = 0 ∨ 10 < t.size
  · rw [decide_eq_true hl, cond_true, if_pos (by omega)]
  · rw [decide_eq_false hl, cond_false, if_neg (by omega)]
    rcases loopNI s t (by omega) with ⟨hd, k0, k1, hw⟩ | ⟨hd, k0, w1, w2⟩
    · rw [k0, k1, cond_false, cond_true, hd, if_neg (by decide)]
      have hlt := valN_lt _ (List.all_eq_true.1 hd)
      have hpl : (10 : Nat) ^ t.data.toList.length ≤ 10 ^ 10 := Nat.pow_le_pow_right (by omega) (by omega)
      have hp : (10 : Nat) ^ 10 = 10000000000 := by decide
      have hds : decide ((t.size : Int) < (s.size : Int)) = neg := by
        rw [hss]
        cases neg with
        | false => exact decide_eq_false (by simp)
        | true => exact decide_eq_true (show (t.size : Int) < ((t.size + 1 : Nat) : Int) by omega)
      have e1 : e41_1 s = cond neg (-(valN t.data.toList : Int)) (valN t.data.toList : Int) := by
        unfold e41_1
        rw [he, hw]
        dsimp only
        rw [hds]
        unfold c41_5 t41_5
        dsimp only [id]
        cases neg with
        | false => rfl
        | true =>
          have e0 : IntKind.wrap .i64 ((0 : Int) - (valN t.data.toList : Int)) = -(valN t.data.toList : Int) := by rw [wrap_in (by omega) (by omega), Int.zero_sub]
          exact e0
      have r : I64 (cond neg (-(valN t.data.toList : Int)) (valN t.data.toList : Int)) := by cases neg <;> unfold I64 <;> simp only [cond_true, cond_false] <;> omega
      have tx := txtN s t.data.toList (fun e => by rw [e] at hsz; simp at hsz; omega) hd neg (by rw [hs]; cases neg with | false => exact mkB_data t | true => rfl)
      have c6 : g41_6 (s, 0, false, e41_1 s, ()) = true ∧ c41_6 (s, 0, false, e41_1 s, ()) = (decide (2147483647 < valN t.data.toList) || decide (t.data.toList.head? = some 48 ∧ s ≠ mkB [48])) := by
        rw [e1]
        unfold g41_6 c41_6 t41_6
        dsimp only
        rw [(numI _ r).1, (numI _ r).2, beq_toList, tx]
        by_cases hm : 2147483647 < valN t.data.toList
        · have hb : (v59 (cond neg (-(valN t.data.toList : Int)) (valN t.data.toList : Int)) != cond neg (-(valN t.data.toList : Int)) (valN t.data.toList : Int)) = true := by
            rw [bne_iff_ne]
            unfold v59
            cases neg <;> simp only [cond_true, cond_false] <;> split <;> split <;> omega
          rw [hb, cond_true, decide_eq_true hm, Bool.true_or]
          exact ⟨rfl, rfl⟩
        · have hb : (v59 (cond neg (-(valN t.data.toList : Int)) (valN t.data.toList : Int)) != cond neg (-(valN t.data.toList : Int)) (valN t.data.toList : Int)) = false := by
            have : v59 (cond neg (-(valN t.data.toList : Int)) (valN t.data.toList : Int)) = cond neg (-(valN t.data.toList : Int)) (valN t.data.toList : Int) := by
              unfold v59
              cases neg <;> simp only [cond_true, cond_false] <;> split <;> split <;> omega
            rw [this, bne_self_eq_false]
          rw [hb, cond_false, cond_true, decide_eq_false hm, Bool.false_or, Bool.not_not]
          exact ⟨rfl, rfl⟩
      rw [hw]
      dsimp only
      rw [c6.1, c6.2, cond_true]
      by_cases hm : 2147483647 < valN t.data.toList
      · rw [decide_eq_true hm, Bool.true_or, cond_true]
        congr 1
        split <;> first | rfl | rw [if_pos hm]
      · rw [decide_eq_false hm, Bool.false_or]
        by_cases hz : t.data.toList.head? = some 48 ∧ s ≠ mkB [48]
        · rw [decide_eq_true hz, cond_true, if_pos hz]
        · rw [decide_eq_false hz, cond_false, if_neg hz, if_neg hm, e1]
          congr 2
          cases neg with
          | false => rw [if_pos (hne.symm ▸ rfl)]; rfl
          | true => rw [if_neg (by rw [hne]; decide)]; rfl
    · rw [k0, cond_true, w1, w2, hd, if_pos rfl]
theorem parseNum (s : ByteArray) (hs : s.size ≤ 1048576) : d38 s = true ∧ d41 s = true ∧ v41 s = v38 s := by
  have key : ∃ r, t38 s some = some r ∧ t41 s some = some r := by
    have hl : s.data.toList.length = s.size := rfl
    have eS : t38 s some = cond (decide ((s.size : Int) > (0 : Int))) (optC (s[0]?) (fun x1 => cond ((x1.toNat : Int) == (45 : Int)) (if (1 : Int) ≤ (s.size : Int) then bodyS s (s.extract 1 s.size) else none) (bodyS s s))) (bodyS s s) := rfl
    by_cases h0 : s.size = 0
    · refine ⟨_, by rw [eS, decide_eq_false (show ¬ ((s.size : Int) > 0) by omega), cond_false, bodyS_res], ?_⟩
      have hemp : s = ByteArray.empty := by
        rw [mkB_data s, List.eq_nil_of_length_eq_zero (hl.trans h0)]
        rfl
      have g0 : g41_0 (s, 0, false, s, ()) = true ∧ c41_0 (s, 0, false, s, ()) = false := by
        unfold g41_0 c41_0 t41_0
        dsimp only
        rw [beq_toList, decide_eq_true hemp]
        exact ⟨rfl, rfl⟩
      have g1 : g41_1 (s, 0, false, s, (c41_0 (s, 0, false, s, ())), ()) = true ∧ e41_0 s = s := by
        unfold e41_0
        rw [g0.2]
        exact ⟨rfl, rfl⟩
      exact parseI s s false rfl g1.2 ⟨g0.1, g1.1⟩
    · obtain ⟨b, b1, b2⟩ := get_of s 0 (by omega)
      have hne : s ≠ ByteArray.empty := fun e => h0 (by rw [e]; rfl)
      have g0 : g41_0 (s, 0, false, s, ()) = true ∧ c41_0 (s, 0, false, s, ()) = ((b.toNat : Int) == (45 : Int)) := by
        unfold g41_0 c41_0 t41_0
        dsimp only
        rw [beq_toList, decide_eq_false hne, Bool.not_false, cond_true, b1, optC_some]
        exact ⟨rfl, rfl⟩
      have h1 : (1 : Int) ≤ (s.size : Int) := by omega
      rw [eS, decide_eq_true (show (s.size : Int) > 0 by omega), cond_true, b1, optC_some]
      cases hb : ((b.toNat : Int) == (45 : Int))
      · rw [cond_false, bodyS_res]
        have g1 : g41_1 (s, 0, false, s, (c41_0 (s, 0, false, s, ())), ()) = true ∧ e41_0 s = s := by
          unfold e41_0
          rw [g0.2, hb]
          exact ⟨rfl, rfl⟩
        exact ⟨_, rfl, parseI s s false rfl g1.2 ⟨g0.1, g1.1⟩⟩
      · rw [cond_true, if_pos h1, bodyS_res]
        have hb45 : b = 45 := by
          have := beq_iff_eq.1 hb
          have : b.toNat = 45 := by omega
          exact UInt8.toNat_inj.1 this
        have g1 : g41_1 (s, 0, false, s, (c41_0 (s, 0, false, s, ())), ()) = true ∧ e41_0 s = s.extract 1 s.size := by
          unfold e41_0 g41_1 c41_1 t41_1
          rw [g0.2, hb]
          dsimp only
          rw [cond_true, if_pos h1]
          exact ⟨rfl, rfl⟩
        refine ⟨_, rfl, parseI s _ true ?_ g1.2 ⟨g0.1, g1.1⟩⟩
        show s = mkB (45 :: (s.extract 1 s.size).data.toList)
        have e2 : (s.extract 1 s.size).data.toList = s.data.toList.drop 1 := by
          rw [ex_of, data_mkB, List.take_of_length_le (by omega)]
        rw [e2, ← hb45]
        have e3 : s.data.toList = b :: s.data.toList.drop 1 := by
          cases hq : s.data.toList with
          | nil => rw [hq] at b2; cases b2
          | cons x l =>
            rw [hq] at b2
            simp only [List.getElem?_cons_zero, Option.some.injEq] at b2
            rw [b2]
            rfl
        rw [← e3]
        exact mkB_data s
  obtain ⟨r, k1, k2⟩ := key
  unfold d38 d41 v41 v38
  rw [k1, k2]
  exact ⟨rfl, rfl, rfl⟩
def inR (n a b : Int) : Prop := a ≤ n ∧ n ≤ b
theorem evIn' (a b c d n z : Int) (t : Bool) (h : v39 ((a, b, c, d, n, z, t) : Ty.T y27) = true) : inR b 0 99 ∧ inR c 0 99 ∧ inR d (-1) 2 ∧ inR n 0 2147483647 ∧ inR z 0 4 := by
  have cc : ∀ (p q r : Bool), cond p q r = true ↔ (p = true ∧ q = true) ∨ (p = false ∧ r = true) := by decide
  have cf : ∀ (p q r : Bool), cond p q r = false ↔ (p = true ∧ q = false) ∨ (p = false ∧ r = false) := by decide
  unfold v39 at h
  try unfold t39 at h
  simp only [v58] at h
  dsimp only [Ty.T] at h
  unfold inR
  cases t <;> simp [cc, cf] at h <;> omega
theorem evIn (e : Ty.T y27) (h : v39 e = true) : inR e.2.1 0 99 ∧ inR e.2.2.1 0 99 ∧ inR e.2.2.2.1 (-1) 2 ∧ inR e.2.2.2.2.1 0 2147483647 ∧ inR e.2.2.2.2.2.1 0 4 := by
  obtain ⟨a, b, c, d, n, z, t⟩ := e
  exact evIn' a b c d n z t h
theorem evOk' (a b c d n z : Int) (t : Bool) : v19 ((a, b, c, d, n, z, t) : Ty.T y27) = v39 ((a, b, c, d, n, z, t) : Ty.T y27) := by
  simp only [v19, v39, t39, t19, v58, v53, v32, v33, v34, v54, v35, v36]
  dsimp only [Ty.T]
  have cc : ∀ (p q r : Bool), cond p q r = true ↔ (p = true ∧ q = true) ∨ (p = false ∧ r = true) := by decide
  have cf : ∀ (p q r : Bool), cond p q r = false ↔ (p = true ∧ q = false) ∨ (p = false ∧ r = false) := by decide
  by_cases h1 : a = 1
  · subst h1; rw [Bool.eq_iff_iff]; cases t <;> simp [cc, cf, *] <;> omega
  by_cases h2 : a = 2
  · subst h2; rw [Bool.eq_iff_iff]; cases t <;> simp [cc, cf, *] <;> omega
  by_cases h3 : a = 3
  · subst h3; rw [Bool.eq_iff_iff]; cases t <;> simp [cc, cf, *] <;> omega
  by_cases h4 : a = 4
  · subst h4; rw [Bool.eq_iff_iff]; cases t <;> simp [cc, cf, *] <;> omega
  by_cases h5 : a = 5
  · subst h5; rw [Bool.eq_iff_iff]; cases t <;> simp [cc, cf, *] <;> omega
  by_cases h6 : a = 6
  · subst h6; rw [Bool.eq_iff_iff]; cases t <;> simp [cc, cf, *] <;> omega
  rw [Bool.eq_iff_iff]; cases t <;> simp [cc, cf, *] <;> omega
theorem evOk (e : Ty.T y27) : v19 e = v39 e := by
  obtain ⟨a, b, c, d, n, z, t⟩ := e
  exact evOk' a b c d n z t
theorem lit0 : ByteArray.mk #[104, 117, 114, 116, 32] = (ByteArray.mk #[104, 117, 114, 116]) ++ ByteArray.mk #[32] := by decide
theorem lit1 : ByteArray.mk #[32, 115, 105, 100, 101, 32] = ByteArray.mk #[32] ++ (ByteArray.mk #[115, 105, 100, 101] ++ ByteArray.mk #[32]) := by decide
theorem lit2 : ByteArray.mk #[32, 112, 105, 101, 99, 101, 32] = ByteArray.mk #[32] ++ (ByteArray.mk #[112, 105, 101, 99, 101] ++ ByteArray.mk #[32]) := by decide
theorem lit3 : ByteArray.mk #[109, 111, 118, 101, 32] = (ByteArray.mk #[109, 111, 118, 101]) ++ ByteArray.mk #[32] := by decide
theorem lit4 : ByteArray.mk #[32, 98, 101, 110, 116] = (ByteArray.mk #[32]) ++ ByteArray.mk #[98, 101, 110, 116] := by decide
theorem lit5 : ByteArray.mk #[103, 97, 105, 110, 32] = (ByteArray.mk #[103, 97, 105, 110]) ++ ByteArray.mk #[32] := by decide
theorem lit6 : ByteArray.mk #[108, 111, 115, 101, 32] = (ByteArray.mk #[108, 111, 115, 101]) ++ ByteArray.mk #[32] := by decide
theorem lit7 : ByteArray.mk #[112, 117, 116, 32] = (ByteArray.mk #[112, 117, 116]) ++ ByteArray.mk #[32] := by decide
theorem lit8 : ByteArray.mk #[99, 117, 116, 32] = (ByteArray.mk #[99, 117, 116]) ++ ByteArray.mk #[32] := by decide
theorem evText (e : Ty.T y27) : d23 e = true ∧ d16 e = true ∧ v16 e = v23 e ∧ (v23 e).size ≤ 200 := by
  have key : t16 e some = t23 e some ∧ Sat (t23 e some) fun r => r.size ≤ 200 := by
    unfold t23 t16
    rw [evOk]
    cases ho : v39 e
    · exact ⟨rfl, by rw [Bool.not_false, cond_true, Sat_some]; decide⟩
    · obtain ⟨q0, q1, q2, q3, q4⟩ := evIn e ho
      unfold inR at q0 q1 q2 q3 q4
      have r0 : I64 e.2.1 := by unfold I64; omega
      have h0 := txt_size r0
      have r1 : I64 e.2.2.1 := by unfold I64; omega
      have h1 := txt_size r1
      have r2 : I64 e.2.2.2.1 := by unfold I64; omega
      have h2 := txt_size r2
      have r3 : I64 e.2.2.2.2.1 := by unfold I64; omega
      have h3 := txt_size r3
      have r4 : I64 e.2.2.2.2.2.1 := by unfold I64; omega
      have h4 := txt_size r4
      simp only [Bool.not_true, cond_false, (numS _ r0).1, (numS _ r0).2, (numI _ r0).1, (numI _ r0).2, (numS _ r1).1, (numS _ r1).2, (numI _ r1).1, (numI _ r1).2, (numS _ r2).1, (numS _ r2).2, (numI _ r2).1, (numI _ r2).2, (numS _ r3).1, (numS _ r3).2, (numI _ r3).1, (numI _ r3).2, (numS _ r4).1, (numS _ r4).2, (numI _ r4).1, (numI _ r4).2, cond_true]
      unfold d29 v29
      clear ho q0 q1 q2 q3 q4 r0 r1 r2 r3 r4
      revert h0 h1 h2 h3 h4
      generalize txt e.2.1 = t0, txt e.2.2.1 = t1, txt e.2.2.2.1 = t2, txt e.2.2.2.2.1 = t3, txt e.2.2.2.2.2.1 = t4
      intro h0 h1 h2 h3 h4
      cases (e.1 == (1 : Int))
      · simp only [cond_false]
        cases (e.1 == (2 : Int))
        · simp only [cond_false]
          cases (e.1 == (3 : Int))
          · simp only [cond_false]
            cases (e.1 == (4 : Int))
            · simp only [cond_false]
              cases (e.1 == (5 : Int))
              · simp only [cond_false]
                (repeat rw [if_pos (by simp only [List.nil_append, List.cons_append, List.length_append, joinB_one, joinB_cons, ByteArray.size_append, lits, List.size_toArray, List.length_cons, List.length_nil]; omega)]); (try rw [decide_eq_true (show _ ∧ _ from by simp only [List.nil_append, List.cons_append, List.length_append, joinB_one, joinB_cons, ByteArray.size_append, lits, List.size_toArray, List.length_cons, List.length_nil]; omega)]); rw [cond_true]; refine ⟨?_, ?_⟩; (congr 1; (try simp only [List.nil_append, List.cons_append, joinB_one, joinB_cons, ByteArray.append_assoc, lit0, lit1, lit2, lit3, lit4, lit5, lit6, lit7, lit8])); (rw [Sat_some]; simp only [ByteArray.size_append, lits, List.size_toArray, List.length_cons, List.length_nil]; omega)
              · simp only [cond_true]
                (repeat rw [if_pos (by simp only [List.nil_append, List.cons_append, List.length_append, joinB_one, joinB_cons, ByteArray.size_append, lits, List.size_toArray, List.length_cons, List.length_nil]; omega)]); (try rw [decide_eq_true (show _ ∧ _ from by simp only [List.nil_append, List.cons_append, List.length_append, joinB_one, joinB_cons, ByteArray.size_append, lits, List.size_toArray, List.length_cons, List.length_nil]; omega)]); rw [cond_true]; refine ⟨?_, ?_⟩; (congr 1; (try simp only [List.nil_append, List.cons_append, joinB_one, joinB_cons, ByteArray.append_assoc, lit0, lit1, lit2, lit3, lit4, lit5, lit6, lit7, lit8])); (rw [Sat_some]; simp only [ByteArray.size_append, lits, List.size_toArray, List.length_cons, List.length_nil]; omega)
            · simp only [cond_true]
              (repeat rw [if_pos (by simp only [List.nil_append, List.cons_append, List.length_append, joinB_one, joinB_cons, ByteArray.size_append, lits, List.size_toArray, List.length_cons, List.length_nil]; omega)]); (try rw [decide_eq_true (show _ ∧ _ from by simp only [List.nil_append, List.cons_append, List.length_append, joinB_one, joinB_cons, ByteArray.size_append, lits, List.size_toArray, List.length_cons, List.length_nil]; omega)]); rw [cond_true]; refine ⟨?_, ?_⟩; (congr 1; (try simp only [List.nil_append, List.cons_append, joinB_one, joinB_cons, ByteArray.append_assoc, lit0, lit1, lit2, lit3, lit4, lit5, lit6, lit7, lit8])); (rw [Sat_some]; simp only [ByteArray.size_append, lits, List.size_toArray, List.length_cons, List.length_nil]; omega)
          · simp only [cond_true]
            (repeat rw [if_pos (by simp only [List.nil_append, List.cons_append, List.length_append, joinB_one, joinB_cons, ByteArray.size_append, lits, List.size_toArray, List.length_cons, List.length_nil]; omega)]); (try rw [decide_eq_true (show _ ∧ _ from by simp only [List.nil_append, List.cons_append, List.length_append, joinB_one, joinB_cons, ByteArray.size_append, lits, List.size_toArray, List.length_cons, List.length_nil]; omega)]); rw [cond_true]; refine ⟨?_, ?_⟩; (congr 1; (try simp only [List.nil_append, List.cons_append, joinB_one, joinB_cons, ByteArray.append_assoc, lit0, lit1, lit2, lit3, lit4, lit5, lit6, lit7, lit8])); (rw [Sat_some]; simp only [ByteArray.size_append, lits, List.size_toArray, List.length_cons, List.length_nil]; omega)
        · simp only [cond_true]
          cases e.2.2.2.2.2.2
          · simp only [cond_false]
            (repeat rw [if_pos (by simp only [List.nil_append, List.cons_append, List.length_append, joinB_one, joinB_cons, ByteArray.size_append, lits, List.size_toArray, List.length_cons, List.length_nil]; omega)]); (try rw [decide_eq_true (show _ ∧ _ from by simp only [List.nil_append, List.cons_append, List.length_append, joinB_one, joinB_cons, ByteArray.size_append, lits, List.size_toArray, List.length_cons, List.length_nil]; omega)]); rw [cond_true]; refine ⟨?_, ?_⟩; (congr 1; (try simp only [List.nil_append, List.cons_append, joinB_one, joinB_cons, ByteArray.append_assoc, lit0, lit1, lit2, lit3, lit4, lit5, lit6, lit7, lit8])); (rw [Sat_some]; simp only [ByteArray.size_append, lits, List.size_toArray, List.length_cons, List.length_nil]; omega)
          · simp only [cond_true]
            (repeat rw [if_pos (by simp only [List.nil_append, List.cons_append, List.length_append, joinB_one, joinB_cons, ByteArray.size_append, lits, List.size_toArray, List.length_cons, List.length_nil]; omega)]); (try rw [decide_eq_true (show _ ∧ _ from by simp only [List.nil_append, List.cons_append, List.length_append, joinB_one, joinB_cons, ByteArray.size_append, lits, List.size_toArray, List.length_cons, List.length_nil]; omega)]); rw [cond_true]; refine ⟨?_, ?_⟩; (congr 1; (try simp only [List.nil_append, List.cons_append, joinB_one, joinB_cons, ByteArray.append_assoc, lit0, lit1, lit2, lit3, lit4, lit5, lit6, lit7, lit8])); (rw [Sat_some]; simp only [ByteArray.size_append, lits, List.size_toArray, List.length_cons, List.length_nil]; omega)
      · simp only [cond_true]
        cases hc : (e.2.2.1 == (0 : Int))
        · simp only [bne, hc, Bool.not_false, cond_true, cond_false]
          (repeat rw [if_pos (by simp only [List.nil_append, List.cons_append, List.length_append, joinB_one, joinB_cons, ByteArray.size_append, lits, List.size_toArray, List.length_cons, List.length_nil]; omega)]); (try rw [decide_eq_true (show _ ∧ _ from by simp only [List.nil_append, List.cons_append, List.length_append, joinB_one, joinB_cons, ByteArray.size_append, lits, List.size_toArray, List.length_cons, List.length_nil]; omega)]); rw [cond_true]; refine ⟨?_, ?_⟩; (congr 1; (try simp only [List.nil_append, List.cons_append, joinB_one, joinB_cons, ByteArray.append_assoc, lit0, lit1, lit2, lit3, lit4, lit5, lit6, lit7, lit8])); (rw [Sat_some]; simp only [ByteArray.size_append, lits, List.size_toArray, List.length_cons, List.length_nil]; omega)
        · simp only [bne, hc, Bool.not_true, cond_true, cond_false]
          (repeat rw [if_pos (by simp only [List.nil_append, List.cons_append, List.length_append, joinB_one, joinB_cons, ByteArray.size_append, lits, List.size_toArray, List.length_cons, List.length_nil]; omega)]); (try rw [decide_eq_true (show _ ∧ _ from by simp only [List.nil_append, List.cons_append, List.length_append, joinB_one, joinB_cons, ByteArray.size_append, lits, List.size_toArray, List.length_cons, List.length_nil]; omega)]); rw [cond_true]; refine ⟨?_, ?_⟩; (congr 1; (try simp only [List.nil_append, List.cons_append, joinB_one, joinB_cons, ByteArray.append_assoc, lit0, lit1, lit2, lit3, lit4, lit5, lit6, lit7, lit8])); (rw [Sat_some]; simp only [ByteArray.size_append, lits, List.size_toArray, List.length_cons, List.length_nil]; omega)
  unfold d23 d16 v16 v23
  rw [key.1]
  exact ⟨key.2.d, key.2.d, rfl, key.2.v⟩
def cnt (s : ByteArray) : Nat := s.data.toList.count 32
theorem cnt_app (a b : ByteArray) : cnt (a ++ b) = cnt a + cnt b := by simp [cnt]
theorem cnt_lit (a : Array UInt8) : cnt (ByteArray.mk a) = a.toList.count 32 := rfl
theorem cuts_cnt : ∀ l : List UInt8, (cuts l).length = l.count 32 + 1
  | [] => rfl
  | b :: l => by
    have ih := cuts_cnt l
    rw [cuts]
    by_cases hb : b = 32
    · subst hb
      rw [if_pos rfl, List.length_cons, ih, List.count_cons_self]
    · rw [if_neg hb, List.count_cons_of_ne hb]
      split
      · next h => exact absurd h (cuts_ne l)
      · next h t e => rw [e] at ih; exact ih
theorem cnt_dg : ∀ d, d < 10 → cnt (dg d) = 0 := by decide
theorem cnt_dec (n : Nat) : cnt (decN n) = 0 := by
  induction n using Nat.strongRecOn with
  | _ n ih =>
    by_cases h : n < 10
    · rw [decN_small n h]; exact cnt_dg n h
    · rw [decN_step n h, cnt_app, ih _ (by omega), cnt_dg _ (by omega)]
theorem cnt_txt (n : Int) : cnt (txt n) = 0 := by
  unfold txt
  split
  · rw [cnt_app, cnt_dec]; rfl
  · exact cnt_dec _
theorem evShape (e : Ty.T y27) : (v39 e = true → 0 < (v23 e).size ∧ (e.1 = 2 → (cuts (v23 e).data.toList).length ≤ 5)) ∧ (v39 e = false → v23 e = ByteArray.empty) := by
  have key : Sat (t23 e some) fun r => (v39 e = true → 0 < r.size ∧ (e.1 = 2 → (cuts r.data.toList).length ≤ 5)) ∧ (v39 e = false → r = ByteArray.empty) := by
    unfold t23
    cases ho : v39 e
    · rw [Bool.not_false, cond_true, Sat_some]
      exact ⟨nofun, fun _ => rfl⟩
    · obtain ⟨q0, q1, q2, q3, q4⟩ := evIn e ho
      unfold inR at q0 q1 q2 q3 q4
      have r0 : I64 e.2.1 := by unfold I64; omega
      have h0 := txt_size r0
      have c0 := cnt_txt e.2.1
      have r1 : I64 e.2.2.1 := by unfold I64; omega
      have h1 := txt_size r1
      have c1 := cnt_txt e.2.2.1
      have r2 : I64 e.2.2.2.1 := by unfold I64; omega
      have h2 := txt_size r2
      have c2 := cnt_txt e.2.2.2.1
      have r3 : I64 e.2.2.2.2.1 := by unfold I64; omega
      have h3 := txt_size r3
      have c3 := cnt_txt e.2.2.2.2.1
      have r4 : I64 e.2.2.2.2.2.1 := by unfold I64; omega
      have h4 := txt_size r4
      have c4 := cnt_txt e.2.2.2.2.2.1
      simp only [Bool.not_true, cond_false, (numS _ r0).1, (numS _ r0).2, (numS _ r1).1, (numS _ r1).2, (numS _ r2).1, (numS _ r2).2, (numS _ r3).1, (numS _ r3).2, (numS _ r4).1, (numS _ r4).2, cond_true]
      clear ho q0 q1 q2 q3 q4 r0 r1 r2 r3 r4
      revert h0 h1 h2 h3 h4 c0 c1 c2 c3 c4
      generalize txt e.2.1 = t0, txt e.2.2.1 = t1, txt e.2.2.2.1 = t2, txt e.2.2.2.2.1 = t3, txt e.2.2.2.2.2.1 = t4
      intro h0 c0 h1 c1 h2 c2 h3 c3 h4 c4
      by_cases k : e.1 = 2
      · rw [k]
        simp only [show ((2 : Int) == 1) = false from rfl, show ((2 : Int) == 2) = true from rfl, cond_true, cond_false]
        cases e.2.2.2.2.2.2
        · simp only [cond_false]
          (repeat rw [if_pos (by simp only [List.nil_append, List.cons_append, List.length_append, joinB_one, joinB_cons, ByteArray.size_append, lits, List.size_toArray, List.length_cons, List.length_nil]; omega)]); rw [Sat_some]; refine ⟨fun _ => ⟨by simp only [ByteArray.size_append, lits, List.size_toArray, List.length_cons, List.length_nil]; omega, fun _ => ?_⟩, nofun⟩; rw [cuts_cnt]; show cnt _ + 1 ≤ 5; simp only [cnt_app, cnt_lit, c0, c1, c2, c3, c4]; decide
        · simp only [cond_true]
          (repeat rw [if_pos (by simp only [List.nil_append, List.cons_append, List.length_append, joinB_one, joinB_cons, ByteArray.size_append, lits, List.size_toArray, List.length_cons, List.length_nil]; omega)]); rw [Sat_some]; refine ⟨fun _ => ⟨by simp only [ByteArray.size_append, lits, List.size_toArray, List.length_cons, List.length_nil]; omega, fun _ => ?_⟩, nofun⟩; rw [cuts_cnt]; show cnt _ + 1 ≤ 5; simp only [cnt_app, cnt_lit, c0, c1, c2, c3, c4]; decide
      · rw [show (e.1 == (2 : Int)) = false from beq_eq_false_iff_ne.2 k]
        simp only [cond_false]
        cases (e.1 == (1 : Int))
        · simp only [cond_false]
          cases (e.1 == (3 : Int))
          · simp only [cond_false]
            cases (e.1 == (4 : Int))
            · simp only [cond_false]
              cases (e.1 == (5 : Int))
              · simp only [cond_false]
                (repeat rw [if_pos (by simp only [List.nil_append, List.cons_append, List.length_append, joinB_one, joinB_cons, ByteArray.size_append, lits, List.size_toArray, List.length_cons, List.length_nil]; omega)]); rw [Sat_some]; refine ⟨fun _ => ⟨by simp only [ByteArray.size_append, lits, List.size_toArray, List.length_cons, List.length_nil]; omega, fun hk => absurd hk k⟩, nofun⟩
              · simp only [cond_true]
                (repeat rw [if_pos (by simp only [List.nil_append, List.cons_append, List.length_append, joinB_one, joinB_cons, ByteArray.size_append, lits, List.size_toArray, List.length_cons, List.length_nil]; omega)]); rw [Sat_some]; refine ⟨fun _ => ⟨by simp only [ByteArray.size_append, lits, List.size_toArray, List.length_cons, List.length_nil]; omega, fun hk => absurd hk k⟩, nofun⟩
            · simp only [cond_true]
              (repeat rw [if_pos (by simp only [List.nil_append, List.cons_append, List.length_append, joinB_one, joinB_cons, ByteArray.size_append, lits, List.size_toArray, List.length_cons, List.length_nil]; omega)]); rw [Sat_some]; refine ⟨fun _ => ⟨by simp only [ByteArray.size_append, lits, List.size_toArray, List.length_cons, List.length_nil]; omega, fun hk => absurd hk k⟩, nofun⟩
          · simp only [cond_true]
            (repeat rw [if_pos (by simp only [List.nil_append, List.cons_append, List.length_append, joinB_one, joinB_cons, ByteArray.size_append, lits, List.size_toArray, List.length_cons, List.length_nil]; omega)]); rw [Sat_some]; refine ⟨fun _ => ⟨by simp only [ByteArray.size_append, lits, List.size_toArray, List.length_cons, List.length_nil]; omega, fun hk => absurd hk k⟩, nofun⟩
        · simp only [cond_true]
          cases (e.2.2.1 == (0 : Int))
          · simp only [cond_false]
            (repeat rw [if_pos (by simp only [List.nil_append, List.cons_append, List.length_append, joinB_one, joinB_cons, ByteArray.size_append, lits, List.size_toArray, List.length_cons, List.length_nil]; omega)]); rw [Sat_some]; refine ⟨fun _ => ⟨by simp only [ByteArray.size_append, lits, List.size_toArray, List.length_cons, List.length_nil]; omega, fun hk => absurd hk k⟩, nofun⟩
          · simp only [cond_true]
            (repeat rw [if_pos (by simp only [List.nil_append, List.cons_append, List.length_append, joinB_one, joinB_cons, ByteArray.size_append, lits, List.size_toArray, List.length_cons, List.length_nil]; omega)]); rw [Sat_some]; refine ⟨fun _ => ⟨by simp only [ByteArray.size_append, lits, List.size_toArray, List.length_cons, List.length_nil]; omega, fun hk => absurd hk k⟩, nofun⟩
  unfold v23
  exact key.v
theorem cuts_part : ∀ (l : List UInt8), ∀ t ∈ cuts l, t.length ≤ l.length
  | [], t, ht => by
    rw [cuts] at ht
    simp only [List.mem_singleton] at ht
    rw [ht]
    exact Nat.le_refl _
  | b :: l, t, ht => by
    have ih := cuts_part l
    rw [cuts] at ht
    split at ht
    · rcases List.mem_cons.1 ht with rfl | h
      · exact Nat.zero_le _
      · exact Nat.le_succ_of_le (ih t h)
    · split at ht
      · next e => exact absurd e (cuts_ne l)
      · next h r e =>
        rcases List.mem_cons.1 ht with rfl | h2
        · have := ih h (by rw [e]; exact List.mem_cons_self)
          simp only [List.length_cons]
          omega
        · exact Nat.le_succ_of_le (ih t (by rw [e]; exact List.mem_cons_of_mem _ h2))
noncomputable def numW (l : List ByteArray) : List Int := l.map fun w => (v38 w).1
noncomputable def nth (l : List ByteArray) (k : Nat) : Int := optV (l[k]?) 0 fun w => (v38 w).1
theorem numsL (l : List ByteArray) (hl : l.length ≤ 1048577) (hb : ∀ w ∈ l, w.size ≤ 1048576) : d22 l = true ∧ v22 l = numW l := by
  have h := run_sat (s := s22_0) (Q := fun v => v.2.2.2.1 = numW l) (fun k v => ∃ i : Nat, v = (l, [], (i : Int), numW (l.take i), ()) ∧ i + k = l.length) (fun k v hv => by
    obtain ⟨i, rfl, hk⟩ := hv
    unfold s22_0 t22_0
    dsimp only
    by_cases hi : i < l.length
    · have hx : l[i]? = some l[i] := getElem?_pos l i hi
      have h0 : (0 : Int) ≤ (i : Int) := by omega
      rw [decide_eq_true (show (i : Int) < (l.length : Int) by omega), cond_true, if_pos h0, Int.toNat_natCast, hx, optC_some, (parseNum _ (hb _ (List.getElem_mem hi))).1, cond_true, if_pos (by simp only [numW, List.length_append, List.length_map, List.length_take, List.length_cons, List.length_nil]; omega), Sat_some, wrap_nat (n := i) (by omega)]
      refine .inr ⟨rfl, k - 1, by omega, i + 1, ?_, by omega⟩
      have ht : l.take (i + 1) = l.take i ++ [l[i]] := take_snoc hx
      rw [ht]
      simp only [numW, List.map_append]
      rfl
    · rw [decide_eq_false (show ¬ ((i : Int) < (l.length : Int)) by omega), cond_false, Sat_some]
      refine .inl ⟨rfl, ?_⟩
      show numW (l.take i) = numW l
      rw [List.take_of_length_le (by omega)]) l.length (l, [], (0 : Int), [], ()) (n22_0 (l, [], 0, [], ())) ⟨0, rfl, by omega⟩ (by simp only [n22_0]; omega)
  have hk : k22_0 l [] 0 [] 0 = true := h.1.1
  have hw : (w22_0 l [] 0 []).2.2.2.1 = _ := h.2
  unfold d22 v22
  rw [hk, cond_true, cond_true]
  exact ⟨rfl, hw⟩
theorem nthS (l : List ByteArray) (k : Nat) (hk : k ≤ 4) : (numW l ++ [0, 0, 0, 0, 0] : List Int)[k]? = some (nth l k) := by
  unfold nth
  by_cases h : k < l.length
  · rw [List.getElem?_append_left (by simp only [numW, List.length_map]; exact h), getElem?_pos l k h]
    simp only [numW, List.getElem?_map, getElem?_pos l k h]
    rfl
  · rw [List.getElem?_append_right (by simp only [numW, List.length_map]; omega), List.getElem?_eq_none (Nat.le_of_not_lt h)]
    simp only [numW, List.length_map]
    have : k - l.length = 0 ∨ k - l.length = 1 ∨ k - l.length = 2 ∨ k - l.length = 3 ∨ k - l.length = 4 := by omega
    rcases this with e | e | e | e | e <;> rw [e] <;> rfl
theorem rd1 {Z : Type} (l : List ByteArray) (f : Int → Option Z) : (if (1 : Int) < ((numW l ++ [0, 0, 0, 0, 0] : List Int).length : Int) then optC ((numW l ++ [0, 0, 0, 0, 0] : List Int)[1]?) f else none) = f (nth l 1) := by
  rw [if_pos (by simp only [List.length_append, List.length_cons, List.length_nil]; omega), nthS l 1 (by omega), optC_some]
theorem rd2 {Z : Type} (l : List ByteArray) (f : Int → Option Z) : (if (2 : Int) < ((numW l ++ [0, 0, 0, 0, 0] : List Int).length : Int) then optC ((numW l ++ [0, 0, 0, 0, 0] : List Int)[2]?) f else none) = f (nth l 2) := by
  rw [if_pos (by simp only [List.length_append, List.length_cons, List.length_nil]; omega), nthS l 2 (by omega), optC_some]
theorem rd3 {Z : Type} (l : List ByteArray) (f : Int → Option Z) : (if (3 : Int) < ((numW l ++ [0, 0, 0, 0, 0] : List Int).length : Int) then optC ((numW l ++ [0, 0, 0, 0, 0] : List Int)[3]?) f else none) = f (nth l 3) := by
  rw [if_pos (by simp only [List.length_append, List.length_cons, List.length_nil]; omega), nthS l 3 (by omega), optC_some]
theorem rd4 {Z : Type} (l : List ByteArray) (f : Int → Option Z) : (if (4 : Int) < ((numW l ++ [0, 0, 0, 0, 0] : List Int).length : Int) then optC ((numW l ++ [0, 0, 0, 0, 0] : List Int)[4]?) f else none) = f (nth l 4) := by
  rw [if_pos (by simp only [List.length_append, List.length_cons, List.length_nil]; omega), nthS l 4 (by omega), optC_some]
theorem numA (l : List ByteArray) (k : Nat) (hb : ∀ w ∈ l, w.size ≤ 1048576) : d24 l (k : Int) = true ∧ v24 l (k : Int) = nth l k := by
  unfold d24 v24 nth
  by_cases h : k < l.length
  · have p := parseNum _ (hb _ (List.getElem_mem h))
    rw [decide_eq_false (show ¬ ((k : Int) ≥ (l.length : Int)) by omega), cond_false, cond_false, Int.toNat_natCast, getElem?_pos l k h, decide_eq_true (show (0 : Int) ≤ (k : Int) by omega)]
    simp only [optD, optV, p.2.1, p.2.2, cond_true]
    exact ⟨rfl, trivial⟩
  · rw [decide_eq_true (show (k : Int) ≥ (l.length : Int) by omega), cond_true, cond_true, List.getElem?_eq_none (Nat.le_of_not_lt h)]
    exact ⟨rfl, rfl⟩
noncomputable def outE (s : ByteArray) (e : Ty.T y27) : (Ty.T y27) × Bool := if v39 e = true ∧ v23 e = s then (e, true) else ((0, 0, 0, 0, 0, 0, false), false)
theorem chkS (s : ByteArray) (e : Ty.T y27) : cond (s.toList == ByteArray.empty.toList) (some (((0, 0, 0, 0, 0, 0, false), false) : (Ty.T y27) × Bool)) (cond (d23 e) (cond (!((v23 e).toList == s.toList)) (some ((0, 0, 0, 0, 0, 0, false), false)) (some (e, true))) none) = some (outE s e) := by
  rw [(evText e).1, cond_true, beq_toList, beq_toList]
  unfold outE
  cases ho : v39 e
  · rw [(evShape e).2 ho, if_neg (fun h => by cases h.1)]
    by_cases hs : s = ByteArray.empty
    · rw [decide_eq_true hs, cond_true]
    · rw [decide_eq_false hs, cond_false, decide_eq_false (fun h => hs h.symm), Bool.not_false, cond_true]
  · have hp := ((evShape e).1 ho).1
    by_cases hs : s = ByteArray.empty
    · rw [decide_eq_true hs, cond_true, if_neg]
      intro h
      rw [h.2, hs] at hp
      exact absurd hp (by decide)
    · rw [decide_eq_false hs, cond_false]
      by_cases hv : v23 e = s
      · rw [decide_eq_true hv, Bool.not_true, cond_false, if_pos ⟨rfl, hv⟩]
      · rw [decide_eq_false hv, Bool.not_false, cond_true, if_neg (fun h => hv h.2)]
theorem chkI (s : ByteArray) (e : Ty.T y27) : cond (!(v19 e)) (some (((0, 0, 0, 0, 0, 0, false), false) : (Ty.T y27) × Bool)) (cond (d16 e) (cond (!((v16 e).toList == s.toList)) (some ((0, 0, 0, 0, 0, 0, false), false)) (some (e, true))) none) = some (outE s e) := by
  have q := evText e
  rw [evOk, q.2.1, q.2.2.1, cond_true, beq_toList]
  unfold outE
  cases ho : v39 e
  · rw [Bool.not_false, cond_true, if_neg (fun h => by cases h.1)]
  · rw [Bool.not_true, cond_false]
    by_cases hv : v23 e = s
    · rw [decide_eq_true hv, Bool.not_true, cond_false, if_pos ⟨rfl, hv⟩]
    · rw [decide_eq_false hv, Bool.not_false, cond_true, if_neg (fun h => hv h.2)]
theorem parseE (s : ByteArray) (hs : s.size ≤ 1048576) : ∃ r, t11 s some = some r ∧ t12 s some = some r := by
  have hS := wordsS s hs
  have hI := wordsI s hs
  have hlen := cuts_len s.data.toList
  have hsz : s.data.toList.length = s.size := rfl
  have hW : v7 s = v6 s := hI.2.trans hS.2.symm
  have hb : ∀ w ∈ v6 s, w.size ≤ 1048576 := fun w hw => by
    rw [hS.2] at hw
    obtain ⟨t, ht, rfl⟩ := List.mem_map.1 hw
    have := cuts_part _ t ht
    rw [size_mkB]
    omega
  have hl : (v6 s).length = (cuts s.data.toList).length := by rw [hS.2, List.length_map]
  obtain ⟨x, r, hx⟩ : ∃ x r, v6 s = x :: r := by
    cases hc : v6 s with
    | nil =>
      have := congrArg List.length (hc.symm.trans hS.2)
      rw [List.length_map] at this
      exact absurd (List.eq_nil_of_length_eq_zero this.symm) (cuts_ne _)
    | cons x r => exact ⟨x, r, rfl⟩
  have hn := numsL (v6 s) (by omega) hb
  unfold t11 t12
  simp only [e12_0, e12_1, e12_2]
  rw [hS.1, hI.1, hW, hn.1, hn.2, cond_true, cond_true, cond_true, if_pos (by simp only [numW, List.length_append, List.length_map, List.length_cons, List.length_nil]; omega)]
  have g0 : (0 : Int) < ((v6 s).length : Int) := by rw [hx, List.length_cons]; omega
  have x0 : (v6 s)[0]? = some x := by rw [hx]; rfl
  rw [if_pos g0, if_pos g0, x0, optC_some, optC_some]
  clear hn hx x0 g0 hW hI
  generalize v6 s = W at *
  have a1 := numA W 1 hb
  have a2 := numA W 2 hb
  have a3 := numA W 3 hb
  have a4 := numA W 4 hb
  have ad1 : d24 W 1 = true := a1.1
  have ad2 : d24 W 2 = true := a2.1
  have ad3 : d24 W 3 = true := a3.1
  have ad4 : d24 W 4 = true := a4.1
  have av1 : v24 W 1 = nth W 1 := a1.2
  have av2 : v24 W 2 = nth W 2 := a2.2
  have av3 : v24 W 3 = nth W 3 := a3.2
  have av4 : v24 W 4 = nth W 4 := a4.2
  clear a1 a2 a3 a4
  cases x.toList == (ByteArray.mk #[104, 117, 114, 116]).toList
  · rw [cond_false, cond_false]
    cases x.toList == (ByteArray.mk #[109, 111, 118, 101]).toList
    · rw [cond_false, cond_false]
      cases x.toList == (ByteArray.mk #[103, 97, 105, 110]).toList
      · rw [cond_false, cond_false]
        cases x.toList == (ByteArray.mk #[108, 111, 115, 101]).toList
        · rw [cond_false, cond_false]
          cases x.toList == (ByteArray.mk #[112, 117, 116]).toList
          · rw [cond_false, cond_false]
            cases x.toList == (ByteArray.mk #[99, 117, 116]).toList
            · rw [cond_false, cond_false, chkS, chkI]
              have z : ∀ e : Ty.T y27, v39 e = false → outE s e = ((0, 0, 0, 0, 0, 0, false), false) := fun e he => by
                unfold outE
                rw [if_neg (fun h => by rw [he] at h; cases h.1)]
              rw [z _ rfl, z _ rfl]
              exact ⟨_, rfl, rfl⟩
            · rw [cond_true, cond_true]
              rw [rd1, rd2]; simp only [ad1, ad2, av1, av2, cond_true]; rw [chkS, chkI]; exact ⟨_, rfl, rfl⟩
          · rw [cond_true, cond_true]
            rw [rd1, rd2]; simp only [ad1, ad2, av1, av2, cond_true]; rw [chkS, chkI]; exact ⟨_, rfl, rfl⟩
        · rw [cond_true, cond_true]
          rw [rd1, rd2]; simp only [ad1, ad2, av1, av2, cond_true]; rw [chkS, chkI]; exact ⟨_, rfl, rfl⟩
      · rw [cond_true, cond_true]
        rw [rd1, rd2]; simp only [ad1, ad2, av1, av2, cond_true]; rw [chkS, chkI]; exact ⟨_, rfl, rfl⟩
    · rw [cond_true, cond_true, rd1, rd2, rd3]
      simp only [ad1, ad2, ad3, av1, av2, av3, cond_true]
      rw [chkS, chkI]
      refine ⟨_, rfl, ?_⟩
      congr 1
      unfold outE
      by_cases h5 : W.length ≤ 5
      · have : decide ((W.length : Int) > (4 : Int)) = ((W.length : Int) == (5 : Int)) := by
          by_cases h4 : W.length = 5
          · rw [h4]; rfl
          · rw [decide_eq_false (by omega), beq_eq_false_iff_ne.2 (by omega)]
        rw [this]
      · have no : ∀ e : Ty.T y27, e.1 = 2 → ¬ (v39 e = true ∧ v23 e = s) := fun e he h => by
          have := ((evShape e).1 h.1).2 he
          rw [h.2] at this
          omega
        rw [if_neg (no _ rfl), if_neg (no _ rfl)]
  · rw [cond_true, cond_true, rd1, rd2, rd4]
    simp only [ad1, ad2, ad4, av1, av2, av4, cond_true]
    by_cases h3 : 3 < W.length
    · have g3 : (3 : Int) < (W.length : Int) := by omega
      rw [decide_eq_true (show (W.length : Int) > 3 by omega), cond_true, cond_true, if_pos g3, if_pos g3, getElem?_pos W 3 h3, optC_some, optC_some]
      cases (W[3]).toList == (ByteArray.mk #[115, 105, 100, 101]).toList
      · rw [cond_false, cond_false]
        rw [chkS, chkI]; exact ⟨_, rfl, rfl⟩
      · rw [cond_true, cond_true, rd4]
        rw [chkS, chkI]; exact ⟨_, rfl, rfl⟩
    · rw [decide_eq_false (show ¬ ((W.length : Int) > 3) by omega), cond_false, cond_false]
      rw [chkS, chkI]; exact ⟨_, rfl, rfl⟩
theorem law (s : ByteArray) (w0 : s.size ≤ 140737488351232) : d4 s = true ∧ v4 s = true := by
  unfold d4 v4
  by_cases hs : (s.size : Int) > 1048576
  · rw [decide_eq_true hs, cond_true, cond_true]
    exact ⟨rfl, rfl⟩
  · obtain ⟨r, k1, k2⟩ := parseE s (by omega)
    have e1 : d11 s = true := by unfold d11; rw [k1]; rfl
    have e2 : d12 s = true := by unfold d12; rw [k2]; rfl
    have e3 : v12 s = v11 s := by unfold v12 v11; rw [k1, k2]
    have eqR : ∀ e : Ty.T y27, v13 e e = true := fun e => by
      unfold v13
      simp only [bne_self_eq_false, beq_self_eq_true, cond_false, Bool.not_true]
    rw [decide_eq_false hs, cond_false, cond_false, e1, e2, e3, eqR, beq_self_eq_true]
    exact ⟨rfl, rfl⟩
end Go.Proofs.YteimleeiikelbaaDoor.Vm
namespace Go.Proofs.YteimleeiikelbaaDoor.Pure
open Go Go.Proofs.YteimleeiikelbaaDoor.Lib Go.Proofs.YteimleeiikelbaaDoor.Vm
theorem fnExactParseEvent : Go.Proofs.YteimleeiikelbaaDoor.fnExactParseEvent.Pure := fun a0 w0 => by
  have h := law a0 w0
  show cond (d4 a0) (some (f4 (v4 a0))) none = _
  rw [h.1, h.2]
  rfl
end Go.Proofs.YteimleeiikelbaaDoor.Pure
