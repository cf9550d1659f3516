/- FnExactWords: the law holds of the plain functions that the contracts name. No condition. -/
import Derived.Test.YteimleeiikelbaaDoorVmRowFnExactWords
import Derived.Test.YteimleeiikelbaaDoorVmLibThree
namespace Go.Proofs.YteimleeiikelbaaDoor.Vm
open Go Go.Proofs.YteimleeiikelbaaDoor.Lib
set_option maxRecDepth 100000
set_option linter.unusedVariables false
set_option linter.unusedSimpArgs false
/-- The pieces between blanks. -/
def cuts : List UInt8 → List (List UInt8)
  | [] => [[]]
  | b :: l => if b = 32 then [] :: cuts l else (match cuts l with | [] => [[b]] | h :: t => (b :: h) :: t)
def mkB (l : List UInt8) : ByteArray := ⟨l.toArray⟩
theorem mkB_self (s : ByteArray) : mkB s.data.toList = s := by
  apply ByteArray.ext
  simp [mkB]
theorem cuts_ne : ∀ l, cuts l ≠ []
  | [] => by simp [cuts]
  | b :: l => by
    rw [cuts]
    split
    · simp
    · split <;> simp
theorem cuts_len : ∀ l, (cuts l).length ≤ l.length + 1
  | [] => by simp [cuts]
  | b :: l => by
    have ih := cuts_len l
    rw [cuts]
    split
    · simp only [List.length_cons]; omega
    · split
      · simp
      · rename_i h t e
        rw [e] at ih
        simp only [List.length_cons] at ih ⊢
        omega
theorem cuts_miss : ∀ l : List UInt8, (32 : UInt8) ∉ l → cuts l = [l]
  | [], _ => rfl
  | b :: l, h => by
    have h1 : b ≠ 32 := fun e => h (by rw [e]; exact List.mem_cons_self)
    rw [cuts, if_neg h1, cuts_miss l (fun hm => h (List.mem_cons_of_mem _ hm))]
theorem cuts_hit : ∀ (a r : List UInt8), (32 : UInt8) ∉ a → cuts (a ++ 32 :: r) = a :: cuts r
  | [], r, _ => by rw [List.nil_append, cuts, if_pos rfl]
  | b :: a, r, h => by
    have h1 : b ≠ 32 := fun e => h (by rw [e]; exact List.mem_cons_self)
    rw [List.cons_append, cuts, if_neg h1, cuts_hit a r (fun hm => h (List.mem_cons_of_mem _ hm))]
theorem cuts_snoc : ∀ (l : List UInt8) (b : UInt8) (A : List (List UInt8)) (t : List UInt8), cuts l = A ++ [t] → cuts (l ++ [b]) = if b = 32 then A ++ [t] ++ [[]] else A ++ [t ++ [b]]
  | [], b, A, t, h => by
    have : A = [] ∧ t = [] := by
      cases A with
      | nil => exact ⟨rfl, by simpa [cuts] using h.symm⟩
      | cons x A => simp [cuts] at h
    obtain ⟨rfl, rfl⟩ := this
    simp [cuts]
  | x :: l, b, A, t, h => by
    rw [List.cons_append, cuts]
    rw [cuts] at h
    by_cases hx : x = 32
    · rw [if_pos hx] at h ⊢
      cases A with
      | nil =>
        have := cuts_ne l
        simp at h
        exact absurd h.2 this
      | cons y A =>
        simp only [List.cons_append, List.cons.injEq] at h
        obtain ⟨rfl, h⟩ := h
        rw [cuts_snoc l b A t h]
        split <;> rfl
    · rw [if_neg hx] at h ⊢
      cases hc : cuts l with
      | nil => exact absurd hc (cuts_ne l)
      | cons y T =>
        rw [hc] at h
        simp only at h
        cases A with
        | nil =>
          simp only [List.nil_append, List.cons.injEq] at h
          obtain ⟨rfl, rfl⟩ := h
          rw [cuts_snoc l b [] y (by rw [hc]; rfl)]
          by_cases hb : b = 32
          · rw [if_pos hb, if_pos hb]; rfl
          · rw [if_neg hb, if_neg hb]; rfl
        | cons z A =>
          simp only [List.cons_append, List.cons.injEq] at h
          obtain ⟨rfl, rfl⟩ := h
          rw [cuts_snoc l b (y :: A) t (by rw [hc]; rfl)]
          by_cases hb : b = 32
          · rw [if_pos hb, if_pos hb]; rfl
          · rw [if_neg hb, if_neg hb]; rfl
open Go.Lib in
theorem index_hit : ∀ (l : List UInt8) (i : Nat), index l [32] = (i : Int) → ∃ a r, l = a ++ 32 :: r ∧ a.length = i ∧ (32 : UInt8) ∉ a
  | [], i, h => by
    simp [index] at h
  | b :: l, i, h => by
    rw [index] at h
    by_cases hb : b = 32
    · subst hb
      rw [if_pos (by simp [List.isPrefixOf])] at h
      exact ⟨[], l, rfl, by simp only [List.length_nil]; omega, by simp⟩
    · rw [if_neg (by simp [List.isPrefixOf]; exact fun e => hb e.symm)] at h
      split at h
      · omega
      · have hg := index_ge l [32]
        rename_i hne
        have hne : index l [32] ≠ -1 := by simpa using hne
        obtain ⟨a, r, h1, h2, h3⟩ := index_hit l (i - 1) (by omega)
        refine ⟨b :: a, r, by rw [h1]; rfl, ?_, ?_⟩
        · simp only [List.length_cons]
          omega
        · simp only [List.mem_cons, not_or]
          exact ⟨fun e => hb e.symm, h3⟩
open Go.Lib in
theorem index_none : ∀ (l : List UInt8), index l [32] = -1 → (32 : UInt8) ∉ l
  | [], _ => by simp
  | b :: l, h => by
    rw [index] at h
    by_cases hb : b = 32
    · subst hb
      rw [if_pos (by simp [List.isPrefixOf])] at h
      omega
    · rw [if_neg (by simp [List.isPrefixOf]; exact fun e => hb e.symm)] at h
      have hg := index_ge l [32]
      split at h
      · rename_i he
        have he : index l [32] = -1 := by simpa using he
        simp only [List.mem_cons, not_or]
        exact ⟨fun e => hb e.symm, index_none l he⟩
      · omega
open Go.Lib in
theorem split_cuts : ∀ (k : Nat) (s : ByteArray), countB s (ByteArray.mk #[32]) = k → splitB (ByteArray.mk #[32]) 0 k s = (cuts s.data.toList).map mkB
  | 0, s, h => by
    rcases indexB_cases s (ByteArray.mk #[32]) with hix | ⟨i, hix, _⟩
    · have hx : index s.data.toList [32] = -1 := hix
      rw [cuts_miss _ (index_none _ hx)]
      show [s] = [mkB s.data.toList]
      rw [mkB_self]
    · rw [countB_hit s _ i (by decide) hix] at h
      omega
  | k + 1, s, h => by
    rcases indexB_cases s (ByteArray.mk #[32]) with hix | ⟨i, hix, hroom⟩
    · rw [countB_miss s _ hix] at h; omega
    · have hx : index s.data.toList [32] = (i : Int) := hix
      obtain ⟨a, r, h1, h2, h3⟩ := index_hit _ _ hx
      have hc := countB_hit s _ i (by decide) hix
      rw [splitB_hit _ _ k s i hix, split_cuts k _ (by omega), h1, cuts_hit a r h3, List.map_cons]
      have e1 : s.extract 0 (i + 0) = mkB a := by
        apply ByteArray.ext
        apply Array.ext'
        simp only [ByteArray.data_extract, Array.toList_extract, h1, mkB, List.extract, List.drop_zero, Nat.add_zero, Nat.sub_zero]
        rw [← h2, List.take_left]
      have e2 : (s.extract (i + (ByteArray.mk #[32]).size) s.size).data.toList = r := by
        simp only [ByteArray.data_extract, Array.toList_extract, List.extract, h1]
        have hs : s.size = (a ++ 32 :: r).length := by rw [← h1]; rfl
        have hz : (ByteArray.mk #[32]).size = 1 := rfl
        rw [hs, hz, ← h2]
        rw [show (a ++ 32 :: r).drop (a.length + 1) = r by rw [← List.drop_drop, List.drop_left]; rfl]
        rw [List.take_of_length_le]
        simp only [List.length_append, List.length_cons]
        omega
      rw [e1, e2]
theorem ex_of (s : ByteArray) (f i : Nat) : s.extract f i = mkB ((s.data.toList.take i).drop f) := by
  apply ByteArray.ext
  apply Array.ext'
  simp only [ByteArray.data_extract, Array.toList_extract, List.extract, mkB]
  rw [List.drop_take]
theorem get_of (s : ByteArray) (i : Nat) (h : i < s.size) : ∃ b, s[i]? = some b ∧ s.data.toList[i]? = some b := ⟨s[i], getElem?_pos s i h, by
  rw [List.getElem?_eq_getElem (show i < s.data.toList.length from h)]
  rfl⟩
theorem wordsS (s : ByteArray) (hs : s.size ≤ 1048576) : d6 s = true ∧ v6 s = (cuts s.data.toList).map mkB := by
  have hsz : s.data.toList.length = s.size := rfl
  have h := run_sat (s := s6_0) (Q := fun v => v.2.2.2.2.1 = (cuts s.data.toList).map mkB) (fun k v => (∃ (i f : Nat) (A : List (List UInt8)), v = (s, [], (f : Int), (i : Int), A.map mkB, ()) ∧ i + k = s.size + 1 ∧ i ≤ s.size ∧ f ≤ i ∧ cuts (s.data.toList.take i) = A ++ [(s.data.toList.take i).drop f]) ∨ (k = 0 ∧ ∃ f : Int, v = (s, [], f, (s.size : Int) + 1, (cuts s.data.toList).map mkB, ()))) (fun k v hv => by
    rcases hv with ⟨i, f, A, rfl, hk, hi, hf, hA⟩ | ⟨rfl, f, rfl⟩
    · have hw := wrap_nat (n := i) (by omega)
      have hal : A.length ≤ 1048577 := by
        have := cuts_len (s.data.toList.take i)
        rw [hA, List.length_append, List.length_take] at this
        simp only [List.length_cons, List.length_nil] at this
        omega
      have hz : ∀ x : ByteArray, (A.map mkB ++ [x]).length * 16 ≤ 140737488351232 := fun x => by simp only [List.length_append, List.length_map, List.length_cons, List.length_nil]; omega
      have g1 : (0 : Int) ≤ (i : Int) := by omega
      have g2 : (i : Int) ≤ (s.size : Int) := by omega
      have g3 : (0 : Int) ≤ (f : Int) := by omega
      have g4 : (f : Int) ≤ ((i : Nat) : Int) := by omega
      unfold s6_0 t6_0
      dsimp only
      rw [decide_eq_true g2, cond_true]
      simp only [Int.toNat_natCast, if_pos g1, if_pos g2, if_pos g3, if_pos g4, if_pos (hz _), hw]
      by_cases he : i = s.size
      · rw [show ((i : Int) == (s.size : Int)) = true from by rw [he]; exact beq_self_eq_true _, cond_true, Sat_some]
        refine .inr ⟨rfl, k - 1, by omega, .inr ⟨by omega, ((i + 1 : Nat) : Int), ?_⟩⟩
        have ht : s.data.toList.take i = s.data.toList := List.take_of_length_le (by omega)
        rw [ht] at hA
        rw [hA, List.map_append, ex_of, ht, he]
        rfl
      · obtain ⟨b, b1, b2⟩ := get_of s i (by omega)
        rw [show ((i : Int) == (s.size : Int)) = false from beq_eq_false_iff_ne.2 (by omega), cond_false, b1, optC_some]
        have ht : s.data.toList.take (i + 1) = s.data.toList.take i ++ [b] := take_snoc b2
        have hsn := cuts_snoc _ b _ _ hA
        rw [← ht] at hsn
        have hli : (s.data.toList.take i).length = i := by rw [List.length_take]; omega
        by_cases hb : b = 32
        · subst hb
          rw [show (((32 : UInt8).toNat : Int) == (32 : Int)) = true from rfl, cond_true, Sat_some]
          rw [if_pos rfl] at hsn
          refine .inr ⟨rfl, k - 1, by omega, .inl ⟨i + 1, i + 1, A ++ [(s.data.toList.take i).drop f], ?_, by omega, by omega, Nat.le_refl _, ?_⟩⟩
          · rw [List.map_append, ex_of]
            rfl
          · have e : List.drop (i + 1) (List.take (i + 1) s.data.toList) = [] := List.drop_of_length_le (by rw [List.length_take]; omega)
            rw [hsn, e]
        · have hne : ((b.toNat : Int) == (32 : Int)) = false := beq_eq_false_iff_ne.2 (fun e => hb (by
            have : b.toNat = 32 := by omega
            exact UInt8.toNat_inj.1 this))
          rw [hne, cond_false, Sat_some]
          rw [if_neg hb] at hsn
          refine .inr ⟨rfl, k - 1, by omega, .inl ⟨i + 1, f, A, rfl, by omega, by omega, by omega, ?_⟩⟩
          rw [hsn, ht, List.drop_append_of_le_length (by omega)]
    · unfold s6_0 t6_0
      dsimp only
      rw [decide_eq_false (show ¬ ((s.size : Int) + 1 ≤ (s.size : Int)) by omega), cond_false, Sat_some]
      exact .inl ⟨rfl, rfl⟩) (s.size + 1) (s, [], (0 : Int), (0 : Int), [], ()) (n6_0 (s, [], 0, 0, [], ())) (.inl ⟨0, 0, [], rfl, by omega, by omega, Nat.le_refl _, rfl⟩) (by simp only [n6_0]; omega)
  have hk : k6_0 s [] 0 0 [] 0 = true := h.1.1
  have hw : (w6_0 s [] 0 0 []).2.2.2.2.1 = _ := h.2
  unfold d6 v6
  rw [hk, cond_true, cond_true]
  exact ⟨rfl, hw⟩
theorem wordsI (s : ByteArray) (hs : s.size ≤ 1048576) : d7 s = true ∧ v7 s = (cuts s.data.toList).map mkB := by
  have hd : d20 s (ByteArray.mk #[32]) = true := decide_eq_true ⟨by omega, by decide⟩
  unfold d7 v7
  rw [hd, cond_true, cond_true]
  exact ⟨rfl, split_cuts _ s rfl⟩
theorem mtxt (k : Int) (h0 : 0 ≤ k) (h1 : k ≤ 1099511627776) : d21 k = true := by
  have h := run_sat (s := s21_0) (Q := fun v => v.2.2.1.size ≤ 1099511627776) (fun m v => ∃ (x : Int) (s : ByteArray), v = (x, ByteArray.empty, s, ()) ∧ 0 ≤ x ∧ x ≤ m ∧ (s.size : Int) + x ≤ k) (fun m v hv => by
    obtain ⟨x, s, rfl, hx, hm, hs⟩ := hv
    unfold s21_0 t21_0
    dsimp only
    by_cases hp : x > 0
    · obtain ⟨n, rfl⟩ : ∃ n : Nat, x = (n : Int) := ⟨x.toNat, by omega⟩
      have e1 : Int.tdiv (n : Int) 10 = ((n / 10 : Nat) : Int) := rfl
      have e2 : Int.tmod (n : Int) 10 = ((n % 10 : Nat) : Int) := rfl
      have z1 : (strOfNums [IntKind.wrap .u8 (IntKind.wrap .i64 ((48 : Int) + ((n % 10 : Nat) : Int)))]).size = 1 := by
        have : ∀ d : Nat, d < 10 → (strOfNums [IntKind.wrap .u8 (IntKind.wrap .i64 ((48 : Int) + (d : Int)))]).size = 1 := by decide
        exact this _ (by omega)
      rw [decide_eq_true hp, cond_true, e1, e2, wrap_in (n := ((n / 10 : Nat) : Int)) (by omega) (by omega), if_pos (by omega), Sat_some]
      exact .inr ⟨rfl, m - 1, by omega, ((n / 10 : Nat) : Int), _, rfl, by omega, by omega, by rw [ByteArray.size_append]; omega⟩
    · rw [decide_eq_false hp, cond_false, Sat_some]
      exact .inl ⟨rfl, by show s.size ≤ 1099511627776; omega⟩) k.toNat (k, ByteArray.empty, ByteArray.empty, ()) (n21_0 (k, ByteArray.empty, ByteArray.empty, ())) ⟨k, ByteArray.empty, rfl, h0, by omega, by have : ByteArray.empty.size = 0 := rfl; omega⟩ (by simp only [n21_0]; omega)
  have hk : k21_0 k ByteArray.empty ByteArray.empty 0 = true := h.1.1
  have hw : (w21_0 k ByteArray.empty ByteArray.empty).2.2.1.size ≤ 1099511627776 := h.2
  unfold d21
  rw [hk, cond_true]
  cases decide (k ≤ (0 : Int))
  · rw [cond_false, Bool.and_true, decide_eq_true_eq]
    have : (ByteArray.mk #[109]).size = 1 := rfl
    omega
  · rfl
/-- Texts that count up. -/
noncomputable def rampT (k : Int) : Nat → List ByteArray
  | 0 => []
  | n + 1 => rampT k n ++ [v21 (k + (n : Int))]
theorem rampT_length (k : Int) : ∀ n, (rampT k n).length = n
  | 0 => rfl
  | n + 1 => by rw [rampT, List.length_append, rampT_length k n]; rfl
theorem rampT_get (k : Int) : ∀ (n i : Nat), i < n → (rampT k n)[i]? = some (v21 (k + (i : Int)))
  | 0, i, h => by omega
  | n + 1, i, h => by
    have hl := rampT_length k n
    rw [rampT]
    rcases Nat.lt_or_ge i n with h1 | h1
    · rw [List.getElem?_append_left (by omega)]
      exact rampT_get k n i h1
    · have : i = n := by omega
      subst this
      rw [List.getElem?_append_right (by omega), hl, Nat.sub_self]
      rfl
theorem rampT_set (k : Int) (r : List ByteArray) (i : Nat) (hi : i < r.length) : (rampT k i ++ r.drop i).set i (v21 (k + (i : Int))) = rampT k (i + 1) ++ r.drop (i + 1) := by
  have hl := rampT_length k i
  rw [List.set_append_right _ _ (by omega), hl, Nat.sub_self, List.drop_eq_getElem_cons hi, List.set_cons_zero, rampT, List.append_assoc]
  rfl
theorem markT (k : Int) (r : List ByteArray) (hk : 0 ≤ k) (hk2 : k ≤ 1048576) (hr : r.length ≤ 1099511) : d9 k r = true ∧ v9 k r = (k + r.length, rampT k r.length) := by
  have e0 : (k, (0 : Int), (0 : Int), r, ()) = (k + ((0 : Nat) : Int), (0 : Int), ((0 : Nat) : Int), rampT k 0 ++ r.drop 0, ()) := by
    rw [rampT, List.nil_append, List.drop_zero, show k + ((0 : Nat) : Int) = k by omega]
    rfl
  have h := seq_iter (s := s9_0) (f := fun i => (k + (i : Int), (0 : Int), (i : Int), rampT k i ++ r.drop i, ())) (c := 0) (N := r.length) (v' := (k + (r.length : Int), (0 : Int), (r.length : Int), rampT k r.length ++ r.drop r.length, ())) (fun i hi => by
    have hl : (rampT k i ++ r.drop i).length = r.length := by rw [List.length_append, rampT_length, List.length_drop]; omega
    have h1 : i < (rampT k i ++ r.drop i).length := by omega
    have h2 : (rampT k i ++ r.drop i)[i]? = some (rampT k i ++ r.drop i)[i] := List.getElem?_eq_getElem h1
    have h3 : (i : Int) < ((rampT k i ++ r.drop i).length : Int) := by omega
    have h4 : (0 : Int) ≤ (i : Int) := by omega
    have h5 := mtxt (k + (i : Int)) (by omega) (by omega)
    show s9_0 (k + (i : Int), (0 : Int), (i : Int), rampT k i ++ r.drop i, ()) = some (0, (k + ((i + 1 : Nat) : Int), (0 : Int), ((i + 1 : Nat) : Int), rampT k (i + 1) ++ r.drop (i + 1), ()))
    unfold s9_0 t9_0
    dsimp only
    rw [decide_eq_true h3, cond_true, h5, cond_true, if_pos h4, if_pos h3, Int.toNat_natCast, h2, optC_some, rampT_set k r i hi, wrap_nat (n := i) (by omega), wrap_in (by omega) (by omega), show k + (i : Int) + 1 = k + ((i + 1 : Nat) : Int) by omega]) (by
    have hl : (rampT k r.length ++ r.drop r.length).length = r.length := by rw [List.length_append, rampT_length, List.length_drop]; omega
    show s9_0 (k + (r.length : Int), (0 : Int), (r.length : Int), rampT k r.length ++ r.drop r.length, ()) = _
    unfold s9_0 t9_0
    dsimp only
    rw [decide_eq_false (by omega), cond_false]) r.length 0 (n9_0 (k, 0, 0, r, ())) (by omega) (by simp only [n9_0]; omega)
  have h := (congrArg (fun q => iter s9_0 (n9_0 (k, 0, 0, r, ())) q) e0).trans h
  have ek : k9_0 k 0 0 r 0 = true := at_of h 0
  have ew : w9_0 k 0 0 r = _ := val_of h
  unfold d9 v9
  rw [ek, ew, List.drop_length, List.append_nil]
  exact ⟨rfl, rfl⟩
theorem heldT (k : Int) (n : Nat) (hk : 0 ≤ k) (hk2 : k ≤ 1048576) (hn : n ≤ 1099511) : d10 (rampT k n) k = true ∧ v10 (rampT k n) k = k + n := by
  have hl := rampT_length k n
  have e0 : (rampT k n, k, (0 : Int), (0 : Int), ()) = (rampT k n, k + ((0 : Nat) : Int), (0 : Int), ((0 : Nat) : Int), ()) := by rw [show k + ((0 : Nat) : Int) = k by omega]; rfl
  have h := seq_iter (s := s10_0) (f := fun i => (rampT k n, k + (i : Int), (0 : Int), (i : Int), ())) (c := 1) (N := n) (v' := (rampT k n, k + (n : Int), (0 : Int), (n : Int), ())) (fun i hi => by
    have h1 := rampT_get k n i hi
    have h3 : (i : Int) < ((rampT k n).length : Int) := by omega
    have h4 : (0 : Int) ≤ (i : Int) := by omega
    have h5 := mtxt (k + (i : Int)) (by omega) (by omega)
    have p1 : ∀ x y z b, g10_1 (rampT k n, k + (i : Int), x, (i : Int), y, rampT k n, z, b, ()) = true ∧ (c10_1 (rampT k n, k + (i : Int), x, (i : Int), y, rampT k n, z, b, ())).2.2 = false := fun x y z b => by
      unfold g10_1 c10_1 t10_1
      dsimp only
      rw [if_pos h4, Int.toNat_natCast, h1, optC_some, h5, cond_true]
      exact ⟨rfl, by show (!_) = false; rw [beq_self_eq_true]; rfl⟩
    show s10_0 (rampT k n, k + (i : Int), (0 : Int), (i : Int), ()) = some (0, (rampT k n, k + ((i + 1 : Nat) : Int), (0 : Int), ((i + 1 : Nat) : Int), ()))
    unfold s10_0 t10_0
    dsimp only
    rw [decide_eq_true h3, cond_true, (p1 _ _ _ _).1, cond_true, (p1 _ _ _ _).2, cond_false, wrap_nat (n := i) (by omega), wrap_in (by omega) (by omega), show k + (i : Int) + 1 = k + ((i + 1 : Nat) : Int) by omega]) (by
    show s10_0 (rampT k n, k + (n : Int), (0 : Int), (n : Int), ()) = _
    unfold s10_0 t10_0
    dsimp only
    rw [decide_eq_false (by omega), cond_false]) n 0 (n10_0 (rampT k n, k, 0, 0, ())) (by omega) (by simp only [n10_0]; omega)
  have h := (congrArg (fun q => iter s10_0 (n10_0 (rampT k n, k, 0, 0, ())) q) e0).trans h
  have k0 : k10_0 (rampT k n) k 0 0 0 = false := at_of h 0
  have k1 : k10_0 (rampT k n) k 0 0 1 = true := at_of h 1
  have ew : w10_0 (rampT k n) k 0 0 = _ := val_of h
  unfold d10 v10
  rw [k0, k1, ew]
  exact ⟨rfl, rfl⟩
theorem sameT (l : List ByteArray) (hn : l.length ≤ 1099511) : d8 l l = true ∧ v8 l l = true := by
  have h := seq_iter (s := s8_0) (f := fun i => (l, l, false, (i : Int), ())) (c := 1) (N := l.length) (v' := (l, l, false, (l.length : Int), ())) (fun i hi => by
    have h1 : l[i]? = some l[i] := List.getElem?_eq_getElem hi
    have h3 : (i : Int) < (l.length : Int) := by omega
    have h4 : (0 : Int) ≤ (i : Int) := by omega
    show s8_0 (l, l, false, (i : Int), ()) = some (0, (l, l, false, ((i + 1 : Nat) : Int), ()))
    unfold s8_0 t8_0
    dsimp only
    rw [decide_eq_true h3, cond_true, if_pos h4, Int.toNat_natCast, h1, optC_some, if_pos h4, optC_some, beq_self_eq_true, Bool.not_true, cond_false, wrap_nat (n := i) (by omega)]) (by
    show s8_0 (l, l, false, (l.length : Int), ()) = _
    unfold s8_0 t8_0
    dsimp only
    rw [decide_eq_false (Int.lt_irrefl _), cond_false]) l.length 0 (n8_0 (l, l, false, 0, ())) (by omega) (by simp only [n8_0]; omega)
  have k0 : k8_0 l l false 0 0 = false := at_of h 0
  have k1 : k8_0 l l false 0 1 = true := at_of h 1
  unfold d8 v8
  rw [k0, k1, bne_self_eq_false]
  exact ⟨rfl, rfl⟩
theorem law (a0 : ByteArray) (w0 : a0.size ≤ 140737488351232) : d3 a0 = true ∧ v3 a0 = true := by
  unfold d3 v3
  by_cases hb : (a0.size : Int) > 1048576
  · rw [decide_eq_true hb]
    exact ⟨rfl, rfl⟩
  · have hs := wordsS a0 (by omega)
    have hi := wordsI a0 (by omega)
    have hl : ((cuts a0.data.toList).map mkB).length ≤ 1048577 := by
      have := cuts_len a0.data.toList
      have e : a0.data.toList.length = a0.size := rfl
      rw [List.length_map]
      omega
    rw [decide_eq_false hb, hs.1, hs.2, hi.1, hi.2]
    generalize (cuts a0.data.toList).map mkB = l at hl
    have q := sameT l (by omega)
    have m := markT 1 l (by omega) (by omega) (by omega)
    have h := heldT 1 l.length (by omega) (by omega) (by omega)
    rw [q.1, q.2, m.1, m.2]
    dsimp only
    rw [h.1, h.2, decide_eq_false (show ¬ (1 + (l.length : Int) < 0) by omega), bne_self_eq_false]
    exact ⟨rfl, rfl⟩
end Go.Proofs.YteimleeiikelbaaDoor.Vm
namespace Go.Proofs.YteimleeiikelbaaDoor.Pure
open Go Go.Proofs.YteimleeiikelbaaDoor.Lib Go.Proofs.YteimleeiikelbaaDoor.Vm
theorem fnExactWords : Go.Proofs.YteimleeiikelbaaDoor.fnExactWords.Pure := fun a0 w0 => by
  have h := law a0 w0
  show cond (d3 a0) (some (f3 (v3 a0))) none = _
  rw [h.1, h.2]
  rfl
end Go.Proofs.YteimleeiikelbaaDoor.Pure
