/- FnExactChoicesFor: the program and the reference answer alike. No condition. -/
import Derived.Test.YtcddhifkfakcjaaVmRowFnExactChoicesFor
import Derived.Test.YtcddhifkfakcjaaVmLibThree
namespace Go.Proofs.Ytcddhifkfakcjaa.Vm
open Go Go.Proofs.Ytcddhifkfakcjaa.Lib
set_option linter.unusedSimpArgs false
set_option linter.unusedVariables false
def SZ (r n : Int) (S : Prop) : Prop := r ≤ n ∧ (0 ≤ r → S)
theorem SZ.neg {n : Int} {S : Prop} (h0 : 0 ≤ n) : SZ (-1) n S := ⟨by omega, fun h => absurd h (by omega)⟩
theorem sz17 (x : List (Ty.T y34)) (ho : Ty.ok (.sl 35 y34) x) (n : Int) (h0 : 0 ≤ n) (h1 : n ≤ 1048576) : SZ (v17 x n) n (Ty.short (.sl 35 y34) x) := by
  have hl := ho.2
  unfold v17
  rw [wrap_in (by omega) (by omega)]
  by_cases h : n - (x.length : Int) < 0
  · rw [decide_eq_true h]; exact .neg h0
  · rw [decide_eq_false h]; exact ⟨show n - (x.length : Int) ≤ n by omega, fun _ => ⟨by omega, fun x _ => by simp [Ty.short]⟩⟩
theorem sz13 (x : Ty.T y37) (ho : Ty.ok y37 x) (n : Int) (h0 : 0 ≤ n) (h1 : n ≤ 1048576) : SZ (v13 x n) n (Ty.short y37 x) := by
  unfold v13
  have y0 := sz17 x.2.2.2.2.2.1 ho.2.2.2.2.2.1 n h0 h1
  have z0 := y0
  by_cases g0 : v17 x.2.2.2.2.2.1 n < 0
  · rw [decide_eq_true g0]; exact .neg h0
  · rw [decide_eq_false g0]
    exact ⟨show v17 x.2.2.2.2.2.1 n ≤ n by have := z0.1; omega, fun _ => ⟨(by simp [Ty.short]), ⟨(by simp [Ty.short]), ⟨(by simp [Ty.short]), ⟨(by simp [Ty.short]), ⟨(by simp [Ty.short]), ⟨(z0.2 (by omega)), (by simp [Ty.short])⟩⟩⟩⟩⟩⟩⟩
theorem sz4 (xs : List (Ty.T y37)) (ho : Ty.ok (.sl 38 y37) xs) (n : Int) (h0 : 0 ≤ n) (h1 : n ≤ 1048576) : d4 xs n = true ∧ SZ (v4 xs n) n (Ty.short (.sl 38 y37) xs) := by
  have hl := ho.2
  unfold d4 v4
  rw [wrap_in (n := n - (xs.length : Int)) (by omega) (by omega)]
  by_cases h : n - (xs.length : Int) < 0
  · rw [decide_eq_true h]; exact ⟨rfl, .neg h0⟩
  · rw [decide_eq_false h]
    have key := sz_iter (s := s4_0) (mk := fun n r i => (xs, n, r, i, ())) (xs := xs) (g := v13) (S := Ty.short y37) (B := 1048576) (fun x hx n h0 h1 => sz13 x (ho.1 x hx) n h0 h1) (fun i x n r hn0 hn1 hx => by
      have hxm : x ∈ xs := List.mem_of_getElem? hx
      obtain ⟨hi, rfl⟩ := List.getElem?_eq_some_iff.1 hx
      skip
      simp [s4_0, t4_0, optC_some, hi,  wrap_nat (n := i) (by omega), Bool.cond_decide]) (fun n r => by simp [s4_0, t4_0]) xs.length 0 (n - (xs.length : Int)) 0 (n4_0 (xs, n - (xs.length : Int), 0, 0, ())) (by omega) (by simp [n4_0]; omega) (by omega) (by omega)
    rcases key with ⟨n', i', hk⟩ | ⟨n', hk, g0, g1, g2⟩
    · have e0 : k4_0 xs (n - (xs.length : Int)) 0 0 0 = true := at_of hk 0
      have ew : w4_0 xs (n - (xs.length : Int)) 0 0 = (xs, n', -1, i', ()) := val_of hk
      rw [e0, ew]
      exact ⟨rfl, .neg h0⟩
    · have e0 : k4_0 xs (n - (xs.length : Int)) 0 0 0 = false := at_of hk 0
      have e1 : k4_0 xs (n - (xs.length : Int)) 0 0 1 = true := at_of hk 1
      have ew : w4_0 xs (n - (xs.length : Int)) 0 0 = (xs, n', 0, (xs.length : Int), ()) := val_of hk
      rw [e0, e1, ew]
      refine ⟨rfl, ?_, fun _ => ⟨by omega, fun x hx => ?_⟩⟩
      · show n' ≤ n
        omega
      · obtain ⟨j, hj⟩ := List.getElem?_of_mem hx
        exact g2 j x (Nat.zero_le _) hj
theorem to18 (x : Ty.T y34) : v18 x = x := rfl
theorem to19 (xs : List (Ty.T y34)) (hs : Ty.short (.sl 35 y34) xs) : d19 xs = true ∧ v19 xs = xs := by
  have hb := hs.1
  have h : ∀ (n : Nat) (hn : xs.length < n) (out : List (Ty.T y34)) (ho : out.length = xs.length), iter s19_0 n (xs, [], 0, out, ()) = some (0, (xs, [], (xs.length : Int), xs, ())) := fun n hn out ho => by
    have := map_iter (s := s19_0) (mk := fun i o => (xs, [], i, o, ())) (xs := xs) (conv := fun x => x) (fun i out x hx hl => by
      obtain ⟨hi, rfl⟩ := List.getElem?_eq_some_iff.1 hx
      skip
      simp [s19_0, t19_0, optC_some, hi, hl, to18, wrap_nat (n := i) (by omega)]) (fun out hl => by simp [s19_0, t19_0]) xs.length 0 out n (by omega) ho hn
    simpa using this
  have h := h (n19_0 (xs, [], 0, (List.replicate ((xs.length : Int)).toNat (Ty.zero y34)), ())) (by simp [n19_0]; omega) (List.replicate ((xs.length : Int)).toNat (Ty.zero y34)) (by simp)
  have hk : k19_0 xs [] 0 (List.replicate ((xs.length : Int)).toNat (Ty.zero y34)) 0 = true := at_of h 0
  have hw : w19_0 xs [] 0 (List.replicate ((xs.length : Int)).toNat (Ty.zero y34)) = (xs, [], (xs.length : Int), xs, ()) := val_of h
  constructor
  · show (_ && (_ && (cond (k19_0 xs [] 0 (List.replicate ((xs.length : Int)).toNat (Ty.zero y34)) 0) true false))) = true
    rw [hk]
    simp
    omega
  · show cond (k19_0 xs [] 0 (List.replicate ((xs.length : Int)).toNat (Ty.zero y34)) 0) (w19_0 xs [] 0 (List.replicate ((xs.length : Int)).toNat (Ty.zero y34))).2.2.2.1 [] = xs
    rw [hk, hw]
    rfl
theorem to14 (x : Ty.T y37) (hs : Ty.short y37 x) : d14 x = true ∧ v14 x = (x.1, x.2.1, x.2.2.1, x.2.2.2.1, x.2.2.2.2.1, x.2.2.2.2.2.2.1, x.2.2.2.2.2.2.2, x.2.2.2.2.2.1) := by
  have h0 : True ∧ v18 x.2.2.2.2.1 = _ := ⟨trivial, to18 x.2.2.2.2.1⟩
  have h1 := to19 x.2.2.2.2.2.1 hs.2.2.2.2.2.1
  unfold d14 v14
  rw [h0.2, h1.1, h1.2]
  exact ⟨rfl, rfl⟩
theorem to6 (xs : List (Ty.T y37)) (hs : Ty.short (.sl 38 y37) xs) : d6 xs = true ∧ v6 xs = xs := by
  have hb := hs.1
  have h : ∀ (n : Nat) (hn : xs.length < n) (out : List (Ty.T y41)) (ho : out.length = xs.length), iter s6_0 n (xs, [], 0, out, ()) = some (0, (xs, [], (xs.length : Int), xs, ())) := fun n hn out ho => by
    have := map_iter (s := s6_0) (mk := fun i o => (xs, [], i, o, ())) (xs := xs) (conv := fun x => x) (fun i out x hx hl => by
      obtain ⟨hi, rfl⟩ := List.getElem?_eq_some_iff.1 hx
      have h0 := to14 xs[i] (hs.2 _ (List.getElem_mem hi))
      simp [s6_0, t6_0, optC_some, hi, hl, h0.1, h0.2, wrap_nat (n := i) (by omega)]) (fun out hl => by simp [s6_0, t6_0]) xs.length 0 out n (by omega) ho hn
    simpa using this
  have h := h (n6_0 (xs, [], 0, (List.replicate ((xs.length : Int)).toNat (Ty.zero y41)), ())) (by simp [n6_0]; omega) (List.replicate ((xs.length : Int)).toNat (Ty.zero y41)) (by simp)
  have hk : k6_0 xs [] 0 (List.replicate ((xs.length : Int)).toNat (Ty.zero y41)) 0 = true := at_of h 0
  have hw : w6_0 xs [] 0 (List.replicate ((xs.length : Int)).toNat (Ty.zero y41)) = (xs, [], (xs.length : Int), xs, ()) := val_of h
  constructor
  · show (_ && (_ && (cond (k6_0 xs [] 0 (List.replicate ((xs.length : Int)).toNat (Ty.zero y41)) 0) true false))) = true
    rw [hk]
    simp
    omega
  · show cond (k6_0 xs [] 0 (List.replicate ((xs.length : Int)).toNat (Ty.zero y41)) 0) (w6_0 xs [] 0 (List.replicate ((xs.length : Int)).toNat (Ty.zero y41))).2.2.2.1 [] = xs
    rw [hk, hw]
    rfl
theorem eq8 (xs : List (Int)) (hs : Ty.short (.sl 3 (.int .i64)) xs) : d8 xs xs = true ∧ v8 xs xs = true := by
  have hb := hs.1
  have h := all_iter (s := s8_0) (mk := fun i => (xs, xs, false, i, ())) (c := 1) (N := xs.length) (fun i hi => by
    skip
    simp [s8_0, t8_0, optC_some, hi,  wrap_nat (n := i) (by omega)]) (by simp [s8_0, t8_0]) xs.length 0 (n8_0 (xs, xs, false, 0, ())) (by omega) (by simp [n8_0]; omega)
  have h0 : k8_0 xs xs false 0 0 = false := at_of h 0
  have h1 : k8_0 xs xs false 0 1 = true := at_of h 1
  unfold d8 v8
  rw [h0, h1]
  simp
theorem eq20 (x : Ty.T y34) : v20 x x = true := by simp [v20]
theorem eq21 (xs : List (Ty.T y34)) (hs : Ty.short (.sl 39 y34) xs) : d21 xs xs = true ∧ v21 xs xs = true := by
  have hb := hs.1
  have h := all_iter (s := s21_0) (mk := fun i => (xs, xs, false, i, ())) (c := 1) (N := xs.length) (fun i hi => by
    skip
    simp [s21_0, t21_0, optC_some, hi, eq20, wrap_nat (n := i) (by omega)]) (by simp [s21_0, t21_0]) xs.length 0 (n21_0 (xs, xs, false, 0, ())) (by omega) (by simp [n21_0]; omega)
  have h0 : k21_0 xs xs false 0 0 = false := at_of h 0
  have h1 : k21_0 xs xs false 0 1 = true := at_of h 1
  unfold d21 v21
  rw [h0, h1]
  simp
theorem eq15 (x : Ty.T y41) (hs : Ty.short y41 x) : d15 x x = true ∧ v15 x x = true := by
  have h1 := eq21 x.2.2.2.2.2.1 hs.2.2.2.2.2.1
  unfold d15 v15
  rw [h1.1, h1.2, eq20]
  simp
theorem eq9 (xs : List (Ty.T y41)) (hs : Ty.short (.sl 42 y41) xs) : d9 xs xs = true ∧ v9 xs xs = true := by
  have hb := hs.1
  have h := all_iter (s := s9_0) (mk := fun i => (xs, xs, false, i, ())) (c := 1) (N := xs.length) (fun i hi => by
    have h0 := eq15 xs[i] (hs.2 _ (List.getElem_mem hi))
    simp [s9_0, t9_0, optC_some, hi, h0.1, h0.2, wrap_nat (n := i) (by omega)]) (by simp [s9_0, t9_0]) xs.length 0 (n9_0 (xs, xs, false, 0, ())) (by omega) (by simp [n9_0]; omega)
  have h0 : k9_0 xs xs false 0 0 = false := at_of h 0
  have h1 : k9_0 xs xs false 0 1 = true := at_of h 1
  unfold d9 v9
  rw [h0, h1]
  simp
noncomputable def cfF (k : List Int) (x : Ty.T y41) : List Int := cond (decide (x.2.2.2.1 ≥ (2 : Int))) (k ++ [x.2.2.1]) k
noncomputable def cfs (l : List (Ty.T y41)) : List Int := l.foldl cfF []
theorem cfF_len (k : List Int) (x : Ty.T y41) : (cfF k x).length ≤ k.length + 1 := by
  unfold cfF
  cases decide (x.2.2.2.1 ≥ (2 : Int)) <;> simp
theorem cfs_len : ∀ (l : List (Ty.T y41)) (k : List Int), (l.foldl cfF k).length ≤ k.length + l.length
  | [], k => Nat.le_refl _
  | x :: l, k => by
    have := cfs_len l (cfF k x)
    have := cfF_len k x
    rw [List.foldl_cons, List.length_cons]
    omega
theorem cfS_st (l : List (Ty.T y41)) (hl : l.length ≤ 1048576) (k : List Int) (i : Nat) (x : Ty.T y41) (hx : l[i]? = some x) (hk : k.length ≤ i) : s5_0 (l, [], (i : Int), k, ()) = some (0, (l, [], ((i + 1 : Nat) : Int), (cfF k x), ())) := by
  have hi := (List.getElem?_eq_some_iff.1 hx).1
  have h0 : (0 : Int) ≤ (i : Int) := by omega
  have hz : (k ++ [x.2.2.1] : List Int).length * 8 ≤ 140737488351232 := by simp only [List.length_append, List.length_cons, List.length_nil]; omega
  unfold s5_0 t5_0 cfF
  dsimp only
  rw [decide_eq_true (show (i : Int) < (l.length : Int) by omega), cond_true]
  simp only [if_pos h0, Int.toNat_natCast, hx, optC_some, if_pos hz, wrap_nat (n := i) (by omega)]
  cases decide (x.2.2.2.1 ≥ (2 : Int)) <;> rfl
theorem cfS (l : List (Ty.T y41)) (hl : l.length ≤ 1048576) : d5 l = true ∧ v5 l = cfs l ∧ (cfs l).length ≤ 1048576 := by
  have h := fold_iter (s := s5_0) (mk := fun (k : List Int) i => (l, [], i, k, ())) (xs := l) (f := cfF) (Inv := fun i k => k.length ≤ i) (fun i x k hx hI => ⟨cfS_st l hl k i x hx hI, Nat.le_trans (cfF_len k x) (by omega)⟩) (fun k => by simp [s5_0, t5_0]) l.length 0 [] (n5_0 (l, [], 0, [], ())) (by omega) (by simp only [n5_0]; omega) (Nat.le_refl _)
  have hk : k5_0 l [] 0 [] 0 = true := at_of h 0
  have hw : w5_0 l [] 0 [] = _ := val_of h
  have hlen := cfs_len l []
  simp only [List.length_nil] at hlen
  unfold d5 v5 cfs
  rw [hk, hw]
  exact ⟨rfl, rfl, by omega⟩
theorem cfI_st (l : List (Ty.T y41)) (hl : l.length ≤ 1048576) (k : List Int) (i : Nat) (x : Ty.T y41) (hx : l[i]? = some x) (hk : k.length ≤ i) : s7_0 ([], l, ((l).length : Int), (i : Int), k, ()) = some (0, ([], l, ((l).length : Int), ((i + 1 : Nat) : Int), (cfF k x), ())) := by
  have hi := (List.getElem?_eq_some_iff.1 hx).1
  have h0 : (0 : Int) ≤ (i : Int) := by omega
  have hz : (k ++ [x.2.2.1] : List Int).length * 8 ≤ 140737488351232 := by simp only [List.length_append, List.length_cons, List.length_nil]; omega
  unfold s7_0 t7_0 cfF
  dsimp only
  rw [decide_eq_true (show (i : Int) < (l.length : Int) by omega), cond_true]
  simp only [if_pos h0, Int.toNat_natCast, hx, optC_some, if_pos hz, wrap_nat (n := i) (by omega)]
  cases decide (x.2.2.2.1 ≥ (2 : Int)) <;> rfl
theorem cfI (l : List (Ty.T y41)) (hl : l.length ≤ 1048576) : d7 l = true ∧ v7 l = cfs l ∧ (cfs l).length ≤ 1048576 := by
  have h := fold_iter (s := s7_0) (mk := fun (k : List Int) i => ([], l, ((l).length : Int), i, k, ())) (xs := l) (f := cfF) (Inv := fun i k => k.length ≤ i) (fun i x k hx hI => ⟨cfI_st l hl k i x hx hI, Nat.le_trans (cfF_len k x) (by omega)⟩) (fun k => by simp [s7_0, t7_0]) l.length 0 [] (n7_0 ([], l, ((l).length : Int), 0, [], ())) (by omega) (by simp only [n7_0]; omega) (Nat.le_refl _)
  have hk : k7_0 [] l ((l).length : Int) 0 [] 0 = true := at_of h 0
  have hw : w7_0 [] l ((l).length : Int) 0 [] = _ := val_of h
  have hlen := cfs_len l []
  simp only [List.length_nil] at hlen
  unfold d7 v7 cfs
  rw [hk, hw]
  exact ⟨rfl, rfl, by omega⟩
theorem same8 (xs ys : List (Ty.T (.int .i64))) (hx : xs.length ≤ 1099511627776) : d8 xs ys = true ∧ v8 xs ys = decide (xs = ys) := by
  unfold d8 v8
  by_cases hl : (xs.length : Int) = (ys.length : Int)
  · have hl' : xs.length = ys.length := by omega
    have h := find_iter (s := s8_0) (mk := fun i => (xs, ys, false, i, ())) (fin := fun i => (xs, ys, false, (i : Int), ())) (p := fun i => match xs[i]?, ys[i]? with | some x, some y => !decide (x = y) | _, _ => false) (N := xs.length) (fun i hi => by
      have h1 := List.getElem?_eq_getElem hi
      have h2 := List.getElem?_eq_getElem (l := ys) (i := i) (by omega)
      simp only [h1, h2]
      skip
      by_cases he : xs[i] = ys[i]
      · simp [s8_0, t8_0, optC_some, hi, h1, h2, he,  wrap_nat (n := i) (by omega)]
      · have hb : ((xs[i] : Int) != (ys[i] : Int)) = true := by simpa using he
        simp [s8_0, t8_0, optC_some, hi, h1, h2, he, hb,  wrap_nat (n := i) (by omega)]) (by simp [s8_0, t8_0]) xs.length 0 (n8_0 (xs, ys, false, 0, ())) (by omega) (by simp [n8_0]; omega)
    have hf := first_lists (q := fun x y => !decide (x = y)) (xs := xs) (ys := ys) (fun _ _ => rfl) hl' (p := fun i => match xs[i]?, ys[i]? with | some x, some y => !decide (x = y) | _, _ => false) (fun i x y h1 h2 => by simp only [h1, h2])
    rw [show ((xs.length : Int) != (ys.length : Int)) = false by simp [hl]]
    revert h hf
    generalize first _ 0 xs.length = o
    intro h hf
    cases o with
    | none =>
      have e0 : k8_0 xs ys false 0 0 = false := at_of h 0
      have e1 : k8_0 xs ys false 0 1 = true := at_of h 1
      rw [e0, e1, ← hf]
      exact ⟨rfl, rfl⟩
    | some j =>
      have e0 : k8_0 xs ys false 0 0 = true := at_of h 0
      have hw : w8_0 xs ys false 0 = _ := val_of h
      rw [e0, hw, ← hf]
      exact ⟨rfl, rfl⟩
  · rw [show ((xs.length : Int) != (ys.length : Int)) = true by simp [hl]]
    have : xs ≠ ys := fun e => hl (by rw [e])
    simp [this]
theorem markI (k : Int) (r : List Int) (hk : 0 ≤ k) (hk2 : k ≤ 1152921504606846976) (hr : r.length ≤ 1099511627776) : d11 k r = true ∧ v11 k r = (k + r.length, ramp k r.length) := by
  have h := march_iter (A := Int × List Int) (c := 0) (s := s11_0) (mk := fun a i => (a.1, 0, i, a.2, ())) (N := r.length) (Inv := fun i a => a.1 = k + i ∧ a.2 = ramp k i ++ r.drop i) (fun i a hi hI => by
    obtain ⟨k', r'⟩ := a
    obtain ⟨e1, e2⟩ := hI
    simp only at e1 e2
    subst e1; subst e2
    have hl : (ramp k i ++ r.drop i).length = r.length := by rw [List.length_append, ramp_length, List.length_drop]; omega
    refine ⟨(k + (i : Int) + 1, ramp k (i + 1) ++ r.drop (i + 1)), ?_, by simp only; omega, rfl⟩
    have h1 : i < (ramp k i ++ r.drop i).length := by omega
    have h2 : (ramp k i ++ r.drop i)[i]? = some (ramp k i ++ r.drop i)[i] := List.getElem?_eq_getElem h1
    have h3 : (i : Int) < ((ramp k i ++ r.drop i).length : Int) := by omega
    simp only [s11_0, t11_0, h3, decide_true, cond_true, if_pos (show (0 : Int) ≤ (i : Int) by omega), if_true, Int.toNat_natCast, h2, optC_some, ramp_set k r i hi]
    rw [wrap_in (n := k + (i : Int) + 1) (by omega) (by omega), wrap_nat (n := i) (by omega)]) (fun a hI => by
    obtain ⟨k', r'⟩ := a
    obtain ⟨e1, e2⟩ := hI
    simp only at e2
    have hl : r'.length = r.length := by rw [e2, List.length_append, ramp_length, List.length_drop]; omega
    simp [s11_0, t11_0, hl]) r.length 0 (k, r) (n11_0 (k, 0, 0, r, ())) (by omega) (by simp only [n11_0]; omega) ⟨by simp, by simp [ramp]⟩
  obtain ⟨⟨k', r'⟩, hi, e1, e2⟩ := h
  have ek : k11_0 k 0 0 r 0 = true := at_of hi 0
  have ew : w11_0 k 0 0 r = _ := val_of hi
  simp only at e1 e2
  unfold d11 v11
  rw [ek, ew]
  refine ⟨rfl, ?_⟩
  show (k', r') = _
  rw [e1, e2, List.drop_length, List.append_nil]
theorem heldI (k : Int) (n : Nat) (hk : 0 ≤ k) (hk2 : k ≤ 1152921504606846976) (hn : n ≤ 1099511627776) : d12 (ramp k n) k = true ∧ v12 (ramp k n) k = k + n := by
  have hl := ramp_length k n
  have h := march_iter (A := Int) (c := 1) (s := s12_0) (mk := fun a i => (ramp k n, a, 0, i, ())) (N := n) (Inv := fun i a => a = k + i) (fun i a hi hI => by
    subst hI
    have h1 := ramp_get k n i hi
    refine ⟨k + (i : Int) + 1, ?_, by omega⟩
    have h3 : (i : Int) < ((ramp k n).length : Int) := by omega
    have h4 : (k + (i : Int) != k + (i : Int)) = false := by simp
    simp only [s12_0, t12_0, h3, decide_true, cond_true, if_pos (show (0 : Int) ≤ (i : Int) by omega), Int.toNat_natCast, h1, optC_some, h4, cond_false]
    rw [wrap_in (n := k + (i : Int) + 1) (by omega) (by omega), wrap_nat (n := i) (by omega)]) (fun a hI => by simp [s12_0, t12_0, hl]) n 0 k (n12_0 (ramp k n, k, 0, 0, ())) (by omega) (by simp only [n12_0]; omega) (by simp)
  obtain ⟨k', hi, e1⟩ := h
  have e0 : k12_0 (ramp k n) k 0 0 0 = false := at_of hi 0
  have ek : k12_0 (ramp k n) k 0 0 1 = true := at_of hi 1
  have ew : w12_0 (ramp k n) k 0 0 = _ := val_of hi
  unfold d12 v12
  rw [e0, ek, ew]
  refine ⟨rfl, ?_⟩
  show k' = _
  rw [e1]
theorem mark16 (a1 : Int) (r0 : List (Ty.T y34)) (hk : 0 ≤ a1) (hk2 : a1 ≤ 1152921504606846976) (hr0 : r0.length ≤ 1048576) : d16 a1 r0 = true ∧ a1 ≤ (v16 a1 r0).1 ∧ (v16 a1 r0).1 ≤ a1 + 33554432 := by
  have h := march_iter (A := Int × List (Ty.T y34)) (c := 0) (s := s16_0) (mk := fun a i => (a.1, 0, i, a.2, ())) (N := r0.length) (Inv := fun i a => a.1 = a1 + 7 * i ∧ a.2.length = r0.length) (fun i a hi hI => by
    obtain ⟨k, r⟩ := a
    obtain ⟨e1, e2⟩ := hI
    simp only at e1 e2
    have hi' : i < r.length := by omega
    refine ⟨(k + 1 + 1 + 1 + 1 + 1 + 1 + 1, r.set i ((k, (k + 1, (k + 1 + 1, (k + 1 + 1 + 1, (k + 1 + 1 + 1 + 1, (k + 1 + 1 + 1 + 1 + 1, (Int.tmod (k + 1 + 1 + 1 + 1 + 1 + 1) 3 == 0))))))))), ?_, by simp only; omega, by simp only [List.length_set]; exact e2⟩
    simp [s16_0, t16_0, optC_some, hi', wrap_in (n := k + 1) (by omega) (by omega), wrap_in (n := k + 1 + 1) (by omega) (by omega), wrap_in (n := k + 1 + 1 + 1) (by omega) (by omega), wrap_in (n := k + 1 + 1 + 1 + 1) (by omega) (by omega), wrap_in (n := k + 1 + 1 + 1 + 1 + 1) (by omega) (by omega), wrap_in (n := k + 1 + 1 + 1 + 1 + 1 + 1) (by omega) (by omega), wrap_in (n := k + 1 + 1 + 1 + 1 + 1 + 1 + 1) (by omega) (by omega), wrap_nat (n := i) (by omega)]) (fun a hI => by
    obtain ⟨k, r⟩ := a
    obtain ⟨e1, e2⟩ := hI
    simp only at e2
    simp [s16_0, t16_0, e2]) r0.length 0 (a1, r0) (n16_0 (a1, 0, 0, r0, ())) (by omega) (by simp only [n16_0]; omega) ⟨by simp, rfl⟩
  obtain ⟨⟨k', r'⟩, hi, e1, e2⟩ := h
  have ek : k16_0 a1 0 0 r0 0 = true := at_of hi 0
  have ew : w16_0 a1 0 0 r0 = _ := val_of hi
  unfold d16 v16
  rw [ek, ew]
  simp only at e1
  refine ⟨rfl, ?_, ?_⟩
  · show a1 ≤ k'
    omega
  · show k' ≤ a1 + 33554432
    omega
theorem mark10 (a1 : Int) (r0 : List (Ty.T y41)) (hk : 0 ≤ a1) (hk2 : a1 ≤ 1152886320221126656) (hr0 : Ty.short (.sl 42 y41) r0) : d10 a1 r0 = true ∧ a1 ≤ (v10 a1 r0).1 ∧ (v10 a1 r0).1 ≤ a1 + 35184385720320 := by
  have hlen := hr0.1
  have h := march_iter (A := Int × List (Ty.T y41)) (c := 0) (s := s10_0) (mk := fun a i => (a.1, 0, i, a.2, ())) (N := r0.length) (Inv := fun i a => a1 ≤ a.1 ∧ a.1 ≤ a1 + 33554445 * i ∧ a.2.length = r0.length ∧ a.2.drop i = r0.drop i) (fun i a hi hI => by
    obtain ⟨k, r⟩ := a
    obtain ⟨e0, e1, e2, e3⟩ := hI
    simp only at e0 e1 e2 e3
    have hi' : i < r.length := by omega
    have hb1 : 33554445 * (i : Int) ≤ 35184385720320 - 33554445 := by omega
    have hx : Ty.short y41 (r[i]'hi') := by
      have h1 : r.drop i = (r[i]'hi') :: r.drop (i + 1) := List.drop_eq_getElem_cons hi'
      rw [h1] at e3
      exact hr0.2 _ (List.mem_of_mem_drop (e3 ▸ List.mem_cons_self))
    have m0 := mark16 (k + 1 + 1 + 1 + 1 + 1 + 1 + 1 + 1 + 1 + 1 + 1) (r[i]'hi').2.2.2.2.2.1 (by omega) (by omega) (hx.2.2.2.2.2.1.1)
    refine ⟨((v16 (k + 1 + 1 + 1 + 1 + 1 + 1 + 1 + 1 + 1 + 1 + 1) (r[i]'hi').2.2.2.2.2.1).1 + 1 + 1, r.set i ((k, (k + 1, (k + 1 + 1, (k + 1 + 1 + 1, ((k + 1 + 1 + 1 + 1, (k + 1 + 1 + 1 + 1 + 1, (k + 1 + 1 + 1 + 1 + 1 + 1, (k + 1 + 1 + 1 + 1 + 1 + 1 + 1, (k + 1 + 1 + 1 + 1 + 1 + 1 + 1 + 1, (k + 1 + 1 + 1 + 1 + 1 + 1 + 1 + 1 + 1, (Int.tmod (k + 1 + 1 + 1 + 1 + 1 + 1 + 1 + 1 + 1 + 1) 3 == 0))))))), ((v16 (k + 1 + 1 + 1 + 1 + 1 + 1 + 1 + 1 + 1 + 1 + 1) (r[i]'hi').2.2.2.2.2.1).2, ((v16 (k + 1 + 1 + 1 + 1 + 1 + 1 + 1 + 1 + 1 + 1 + 1) (r[i]'hi').2.2.2.2.2.1).1, (v16 (k + 1 + 1 + 1 + 1 + 1 + 1 + 1 + 1 + 1 + 1 + 1) (r[i]'hi').2.2.2.2.2.1).1 + 1))))))))), ?_, by simp only; have := m0.2.1; have := m0.2.2; omega, by simp only [Int.natCast_add, Int.mul_add]; have := m0.2.1; have := m0.2.2; omega, by simp only [List.length_set]; exact e2, ?_⟩
    · simp [s10_0, t10_0, e10_0, optC_some, hi', m0.1, wrap_in (n := k + 1) (by omega) (by omega), wrap_in (n := k + 1 + 1) (by omega) (by omega), wrap_in (n := k + 1 + 1 + 1) (by omega) (by omega), wrap_in (n := k + 1 + 1 + 1 + 1) (by omega) (by omega), wrap_in (n := k + 1 + 1 + 1 + 1 + 1) (by omega) (by omega), wrap_in (n := k + 1 + 1 + 1 + 1 + 1 + 1) (by omega) (by omega), wrap_in (n := k + 1 + 1 + 1 + 1 + 1 + 1 + 1) (by omega) (by omega), wrap_in (n := k + 1 + 1 + 1 + 1 + 1 + 1 + 1 + 1) (by omega) (by omega), wrap_in (n := k + 1 + 1 + 1 + 1 + 1 + 1 + 1 + 1 + 1) (by omega) (by omega), wrap_in (n := k + 1 + 1 + 1 + 1 + 1 + 1 + 1 + 1 + 1 + 1) (by omega) (by omega), wrap_in (n := k + 1 + 1 + 1 + 1 + 1 + 1 + 1 + 1 + 1 + 1 + 1) (by omega) (by omega), wrap_in (n := (v16 (k + 1 + 1 + 1 + 1 + 1 + 1 + 1 + 1 + 1 + 1 + 1) (r[i]'hi').2.2.2.2.2.1).1 + 1) (by have := m0.2.1; have := m0.2.2; omega) (by have := m0.2.1; have := m0.2.2; omega), wrap_in (n := (v16 (k + 1 + 1 + 1 + 1 + 1 + 1 + 1 + 1 + 1 + 1 + 1) (r[i]'hi').2.2.2.2.2.1).1 + 1 + 1) (by have := m0.2.1; have := m0.2.2; omega) (by have := m0.2.1; have := m0.2.2; omega), wrap_nat (n := i) (by omega)]
    · simp only [List.drop_set_of_lt (Nat.lt_succ_self i)]
      have h2 := congrArg (List.drop 1) e3
      rwa [List.drop_drop, List.drop_drop] at h2) (fun a hI => by
    obtain ⟨k, r⟩ := a
    obtain ⟨e0, e1, e2, e3⟩ := hI
    simp only at e2
    simp [s10_0, t10_0, e2]) r0.length 0 (a1, r0) (n10_0 (a1, 0, 0, r0, ())) (by omega) (by simp only [n10_0]; omega) ⟨by simp, by simp, rfl, rfl⟩
  obtain ⟨⟨k', r'⟩, hi, e0, e1, e2, e3⟩ := h
  have ek : k10_0 a1 0 0 r0 0 = true := at_of hi 0
  have ew : w10_0 a1 0 0 r0 = _ := val_of hi
  unfold d10 v10
  rw [ek, ew]
  simp only at e0 e1
  refine ⟨rfl, ?_, ?_⟩
  · show a1 ≤ k'
    omega
  · show k' ≤ a1 + 35184385720320
    omega
theorem law (a0 : List (Ty.T y37)) (w0 : Ty.ok (.sl 38 y37) a0) : d3 a0 = true ∧ v3 a0 = true := by
  unfold d3 v3
  have y0 := sz4 a0 w0 1048576 (by omega) (by omega)
  rw [y0.1]
  have z0 := y0.2
  by_cases g0 : v4 a0 1048576 < 0
  · rw [decide_eq_true g0]; exact ⟨rfl, rfl⟩
  · rw [decide_eq_false g0]
    have s0 := z0.2 (by omega)
    have t0_6 := to6 a0 s0
    have e0_6 : v6 a0 = a0 := t0_6.2
    have q0_9 := eq9 a0 s0
    have ms := cfS a0 s0.1
    have mi := cfI a0 s0.1
    have mt := mark10 1 a0 (by omega) (by omega) s0
    have k1 : decide ((v10 1 a0).1 < (0 : Int)) = false := decide_eq_false (by have := mt.2; omega)
    have q := same8 (cfs a0) (cfs a0) (by have := ms.2.2; omega)
    have m1 := markI 1 (cfs a0) (by omega) (by omega) (by have := ms.2.2; omega)
    have m2 := heldI 1 (cfs a0).length (by omega) (by omega) (by have := ms.2.2; omega)
    simp only [t0_6.1, e0_6, q0_9.1, q0_9.2, ms.1, ms.2.1, mi.1, mi.2.1, mt.1, k1, q.1, q.2, m1.1, m1.2, m2.1, m2.2]
    simp <;> omega
end Go.Proofs.Ytcddhifkfakcjaa.Vm
namespace Go.Proofs.Ytcddhifkfakcjaa.Pure
open Go Go.Proofs.Ytcddhifkfakcjaa.Lib Go.Proofs.Ytcddhifkfakcjaa.Vm
theorem fnExactChoicesFor : Go.Proofs.Ytcddhifkfakcjaa.fnExactChoicesFor.Pure := fun a0 w0 => by
  have h := law a0 w0
  show cond (d3 a0) (some (f3 (v3 a0))) none = _
  rw [h.1, h.2]
  rfl
end Go.Proofs.Ytcddhifkfakcjaa.Pure
