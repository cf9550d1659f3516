/- FnExactDeadlyIds: the program and the reference answer alike. No condition. -/
import Derived.Test.YtakmjjikiefheaaVmRowFnExactDeadlyIds
import Derived.Test.YtakmjjikiefheaaVmLibThree
namespace Go.Proofs.Ytakmjjikiefheaa.Vm
open Go Go.Proofs.Ytakmjjikiefheaa.Lib
set_option linter.unusedSimpArgs false
set_option linter.unusedVariables false
def SZ (r n : Int) (S : Prop) : Prop := r ≤ n ∧ (0 ≤ r → S)
theorem SZ.neg {n : Int} {S : Prop} (h0 : 0 ≤ n) : SZ (-1) n S := ⟨by omega, fun h => absurd h (by omega)⟩
theorem sz17 (x : List (Ty.T y49)) (ho : Ty.ok (.sl 60 y49) x) (n : Int) (h0 : 0 ≤ n) (h1 : n ≤ 1048576) : SZ (v17 x n) n (Ty.short (.sl 60 y49) x) := by
  have hl := ho.2
  unfold v17
  rw [wrap_in (by omega) (by omega)]
  by_cases h : n - (x.length : Int) < 0
  · rw [decide_eq_true h]; exact .neg h0
  · rw [decide_eq_false h]; exact ⟨show n - (x.length : Int) ≤ n by omega, fun _ => ⟨by omega, fun x _ => by simp [Ty.short]⟩⟩
theorem sz18 (x : List (Ty.T y70)) (ho : Ty.ok (.sl 73 y70) x) (n : Int) (h0 : 0 ≤ n) (h1 : n ≤ 1048576) : SZ (v18 x n) n (Ty.short (.sl 73 y70) x) := by
  have hl := ho.2
  unfold v18
  rw [wrap_in (by omega) (by omega)]
  by_cases h : n - (x.length : Int) < 0
  · rw [decide_eq_true h]; exact .neg h0
  · rw [decide_eq_false h]; exact ⟨show n - (x.length : Int) ≤ n by omega, fun _ => ⟨by omega, fun x _ => by simp [Ty.short]⟩⟩
theorem sz4 (x : Ty.T y24) (ho : Ty.ok y24 x) (n : Int) (h0 : 0 ≤ n) (h1 : n ≤ 1048576) : SZ (v4 x n) n (Ty.short y24 x) := by
  unfold v4
  have y0 := sz17 x.1 ho.1 n h0 h1
  have z0 := y0
  by_cases g0 : v17 x.1 n < 0
  · rw [decide_eq_true g0]; exact .neg h0
  · rw [decide_eq_false g0]
    have y1 := sz18 x.2.1 ho.2.1 (v17 x.1 n) (by omega) (by have := z0.1; omega)
    have z1 := y1
    by_cases g1 : v18 x.2.1 (v17 x.1 n) < 0
    · rw [decide_eq_true g1]; exact .neg h0
    · rw [decide_eq_false g1]
      exact ⟨show v18 x.2.1 (v17 x.1 n) ≤ n by have := z0.1; have := z1.1; omega, fun _ => ⟨(z0.2 (by omega)), ⟨(z1.2 (by omega)), (by simp [Ty.short])⟩⟩⟩
theorem sz5 (x : List (Ty.T y51)) (ho : Ty.ok (.sl 62 y51) x) (n : Int) (h0 : 0 ≤ n) (h1 : n ≤ 1048576) : SZ (v5 x n) n (Ty.short (.sl 62 y51) x) := by
  have hl := ho.2
  unfold v5
  rw [wrap_in (by omega) (by omega)]
  by_cases h : n - (x.length : Int) < 0
  · rw [decide_eq_true h]; exact .neg h0
  · rw [decide_eq_false h]; exact ⟨show n - (x.length : Int) ≤ n by omega, fun _ => ⟨by omega, fun x _ => by simp [Ty.short]⟩⟩
theorem to35 (x : Ty.T y49) : v35 x = x := rfl
theorem to22 (xs : List (Ty.T y49)) (hs : Ty.short (.sl 60 y49) xs) : d22 xs = true ∧ v22 xs = xs := by
  have hb := hs.1
  have h : ∀ (n : Nat) (hn : xs.length < n) (out : List (Ty.T y49)) (ho : out.length = xs.length), iter s22_0 n (xs, [], 0, out, ()) = some (0, (xs, [], (xs.length : Int), xs, ())) := fun n hn out ho => by
    have := map_iter (s := s22_0) (mk := fun i o => (xs, [], i, o, ())) (xs := xs) (conv := fun x => x) (fun i out x hx hl => by
      obtain ⟨hi, rfl⟩ := List.getElem?_eq_some_iff.1 hx
      skip
      simp [s22_0, t22_0, optC_some, hi, hl, to35, wrap_nat (n := i) (by omega)]) (fun out hl => by simp [s22_0, t22_0]) xs.length 0 out n (by omega) ho hn
    simpa using this
  have h := h (n22_0 (xs, [], 0, (List.replicate ((xs.length : Int)).toNat (Ty.zero y49)), ())) (by simp [n22_0]; omega) (List.replicate ((xs.length : Int)).toNat (Ty.zero y49)) (by simp)
  have hk : k22_0 xs [] 0 (List.replicate ((xs.length : Int)).toNat (Ty.zero y49)) 0 = true := at_of h 0
  have hw : w22_0 xs [] 0 (List.replicate ((xs.length : Int)).toNat (Ty.zero y49)) = (xs, [], (xs.length : Int), xs, ()) := val_of h
  constructor
  · show (_ && (_ && (cond (k22_0 xs [] 0 (List.replicate ((xs.length : Int)).toNat (Ty.zero y49)) 0) true false))) = true
    rw [hk]
    simp
    omega
  · show cond (k22_0 xs [] 0 (List.replicate ((xs.length : Int)).toNat (Ty.zero y49)) 0) (w22_0 xs [] 0 (List.replicate ((xs.length : Int)).toNat (Ty.zero y49))).2.2.2.1 [] = xs
    rw [hk, hw]
    rfl
theorem to36 (x : Ty.T y70) : v36 x = x := rfl
theorem to23 (xs : List (Ty.T y70)) (hs : Ty.short (.sl 73 y70) xs) : d23 xs = true ∧ v23 xs = xs := by
  have hb := hs.1
  have h : ∀ (n : Nat) (hn : xs.length < n) (out : List (Ty.T y70)) (ho : out.length = xs.length), iter s23_0 n (xs, [], 0, out, ()) = some (0, (xs, [], (xs.length : Int), xs, ())) := fun n hn out ho => by
    have := map_iter (s := s23_0) (mk := fun i o => (xs, [], i, o, ())) (xs := xs) (conv := fun x => x) (fun i out x hx hl => by
      obtain ⟨hi, rfl⟩ := List.getElem?_eq_some_iff.1 hx
      skip
      simp [s23_0, t23_0, optC_some, hi, hl, to36, wrap_nat (n := i) (by omega)]) (fun out hl => by simp [s23_0, t23_0]) xs.length 0 out n (by omega) ho hn
    simpa using this
  have h := h (n23_0 (xs, [], 0, (List.replicate ((xs.length : Int)).toNat (Ty.zero y70)), ())) (by simp [n23_0]; omega) (List.replicate ((xs.length : Int)).toNat (Ty.zero y70)) (by simp)
  have hk : k23_0 xs [] 0 (List.replicate ((xs.length : Int)).toNat (Ty.zero y70)) 0 = true := at_of h 0
  have hw : w23_0 xs [] 0 (List.replicate ((xs.length : Int)).toNat (Ty.zero y70)) = (xs, [], (xs.length : Int), xs, ()) := val_of h
  constructor
  · show (_ && (_ && (cond (k23_0 xs [] 0 (List.replicate ((xs.length : Int)).toNat (Ty.zero y70)) 0) true false))) = true
    rw [hk]
    simp
    omega
  · show cond (k23_0 xs [] 0 (List.replicate ((xs.length : Int)).toNat (Ty.zero y70)) 0) (w23_0 xs [] 0 (List.replicate ((xs.length : Int)).toNat (Ty.zero y70))).2.2.2.1 [] = xs
    rw [hk, hw]
    rfl
theorem to7 (x : Ty.T y24) (hs : Ty.short y24 x) : d7 x = true ∧ v7 x = (x.2.2.1, x.2.2.2, x.1, x.2.1) := by
  have h0 := to22 x.1 hs.1
  have h1 := to23 x.2.1 hs.2.1
  unfold d7 v7
  rw [h0.1, h0.2, h1.1, h1.2]
  exact ⟨rfl, rfl⟩
theorem to37 (x : Ty.T y47) : v37 x = x := rfl
theorem to24 (x : Ty.T y51) : v24 x = (x.1, x.2.1, x.2.2.1, x.2.2.2.1, x.2.2.2.2) := rfl
theorem to8 (xs : List (Ty.T y51)) (hs : Ty.short (.sl 62 y51) xs) : d8 xs = true ∧ v8 xs = xs := by
  have hb := hs.1
  have h : ∀ (n : Nat) (hn : xs.length < n) (out : List (Ty.T y51)) (ho : out.length = xs.length), iter s8_0 n (xs, [], 0, out, ()) = some (0, (xs, [], (xs.length : Int), xs, ())) := fun n hn out ho => by
    have := map_iter (s := s8_0) (mk := fun i o => (xs, [], i, o, ())) (xs := xs) (conv := fun x => x) (fun i out x hx hl => by
      obtain ⟨hi, rfl⟩ := List.getElem?_eq_some_iff.1 hx
      skip
      simp [s8_0, t8_0, optC_some, hi, hl, to24, wrap_nat (n := i) (by omega)]) (fun out hl => by simp [s8_0, t8_0]) xs.length 0 out n (by omega) ho hn
    simpa using this
  have h := h (n8_0 (xs, [], 0, (List.replicate ((xs.length : Int)).toNat (Ty.zero y51)), ())) (by simp [n8_0]; omega) (List.replicate ((xs.length : Int)).toNat (Ty.zero y51)) (by simp)
  have hk : k8_0 xs [] 0 (List.replicate ((xs.length : Int)).toNat (Ty.zero y51)) 0 = true := at_of h 0
  have hw : w8_0 xs [] 0 (List.replicate ((xs.length : Int)).toNat (Ty.zero y51)) = (xs, [], (xs.length : Int), xs, ()) := val_of h
  constructor
  · show (_ && (_ && (cond (k8_0 xs [] 0 (List.replicate ((xs.length : Int)).toNat (Ty.zero y51)) 0) true false))) = true
    rw [hk]
    simp
    omega
  · show cond (k8_0 xs [] 0 (List.replicate ((xs.length : Int)).toNat (Ty.zero y51)) 0) (w8_0 xs [] 0 (List.replicate ((xs.length : Int)).toNat (Ty.zero y51))).2.2.2.1 [] = xs
    rw [hk, hw]
    rfl
theorem eq10 (xs : List (Int)) (hs : Ty.short (.sl 3 (.int .i64)) xs) : d10 xs xs = true ∧ v10 xs xs = true := by
  have hb := hs.1
  have h := all_iter (s := s10_0) (mk := fun i => (xs, xs, false, i, ())) (c := 1) (N := xs.length) (fun i hi => by
    skip
    simp [s10_0, t10_0, optC_some, hi,  wrap_nat (n := i) (by omega)]) (by simp [s10_0, t10_0]) xs.length 0 (n10_0 (xs, xs, false, 0, ())) (by omega) (by simp [n10_0]; omega)
  have h0 : k10_0 xs xs false 0 0 = false := at_of h 0
  have h1 : k10_0 xs xs false 0 1 = true := at_of h 1
  unfold d10 v10
  rw [h0, h1]
  simp
theorem eq42 (x : Ty.T y49) : v42 x x = true := by simp [v42]
theorem eq28 (xs : List (Ty.T y49)) (hs : Ty.short (.sl 50 y49) xs) : d28 xs xs = true ∧ v28 xs xs = true := by
  have hb := hs.1
  have h := all_iter (s := s28_0) (mk := fun i => (xs, xs, false, i, ())) (c := 1) (N := xs.length) (fun i hi => by
    skip
    simp [s28_0, t28_0, optC_some, hi, eq42, wrap_nat (n := i) (by omega)]) (by simp [s28_0, t28_0]) xs.length 0 (n28_0 (xs, xs, false, 0, ())) (by omega) (by simp [n28_0]; omega)
  have h0 : k28_0 xs xs false 0 0 = false := at_of h 0
  have h1 : k28_0 xs xs false 0 1 = true := at_of h 1
  unfold d28 v28
  rw [h0, h1]
  simp
theorem eq43 (x : Ty.T y70) : v43 x x = true := by simp [v43]
theorem eq29 (xs : List (Ty.T y70)) (hs : Ty.short (.sl 71 y70) xs) : d29 xs xs = true ∧ v29 xs xs = true := by
  have hb := hs.1
  have h := all_iter (s := s29_0) (mk := fun i => (xs, xs, false, i, ())) (c := 1) (N := xs.length) (fun i hi => by
    skip
    simp [s29_0, t29_0, optC_some, hi, eq43, wrap_nat (n := i) (by omega)]) (by simp [s29_0, t29_0]) xs.length 0 (n29_0 (xs, xs, false, 0, ())) (by omega) (by simp [n29_0]; omega)
  have h0 : k29_0 xs xs false 0 0 = false := at_of h 0
  have h1 : k29_0 xs xs false 0 1 = true := at_of h 1
  unfold d29 v29
  rw [h0, h1]
  simp
theorem eq11 (x : Ty.T y33) (hs : Ty.short y33 x) : d11 x x = true ∧ v11 x x = true := by
  have h0 := eq28 x.1 hs.1
  have h1 := eq29 x.2.1 hs.2.1
  unfold d11 v11
  rw [h0.1, h0.2, h1.1, h1.2]
  simp
theorem eq44 (x : Ty.T y47) : v44 x x = true := by simp [v44]
theorem eq30 (x : Ty.T y51) : v30 x x = true := by simp [v30, eq42, eq44]
theorem eq12 (xs : List (Ty.T y51)) (hs : Ty.short (.sl 52 y51) xs) : d12 xs xs = true ∧ v12 xs xs = true := by
  have hb := hs.1
  have h := all_iter (s := s12_0) (mk := fun i => (xs, xs, false, i, ())) (c := 1) (N := xs.length) (fun i hi => by
    skip
    simp [s12_0, t12_0, optC_some, hi, eq30, wrap_nat (n := i) (by omega)]) (by simp [s12_0, t12_0]) xs.length 0 (n12_0 (xs, xs, false, 0, ())) (by omega) (by simp [n12_0]; omega)
  have h0 : k12_0 xs xs false 0 0 = false := at_of h 0
  have h1 : k12_0 xs xs false 0 1 = true := at_of h 1
  unfold d12 v12
  rw [h0, h1]
  simp
theorem pa (s : Ty.T y33) (id : Int) (hb : s.1.length ≤ 1048576) : d33 s id = true ∧ v33 s id = (match first (fun i => match s.1[i]? with | some x => (x.1 == id) | none => false) 0 s.1.length with | some j => (j : Int) | none => -1) := by
  have h := find_iter (s := s33_0) (mk := fun i => (id, 0, i, s, ())) (fin := fun i => (id, (i : Int), (i : Int), s, ())) (p := fun i => match s.1[i]? with | some x => (x.1 == id) | none => false) (N := s.1.length) (fun i hi => by
    have h1 := List.getElem?_eq_getElem hi
    simp only [h1]
    skip
    cases ht : (((s.1[i]).1 == id) : Bool) <;> simp [s33_0, t33_0, optC_some, hi, h1, ht,  wrap_nat (n := i) (by omega)]) (by simp [s33_0, t33_0]) s.1.length 0 (n33_0 (id, 0, 0, s, ())) (by omega) (by simp [n33_0]; omega)
  unfold d33 v33
  revert h
  generalize first _ 0 s.1.length = o
  intro h
  cases o with
  | none =>
    have e0 : k33_0 id 0 0 s 0 = false := at_of h 0
    have e1 : k33_0 id 0 0 s 1 = true := at_of h 1
    rw [e0, e1]
    exact ⟨rfl, rfl⟩
  | some j =>
    have e0 : k33_0 id 0 0 s 0 = true := at_of h 0
    have hw : w33_0 id 0 0 s = _ := val_of h
    rw [e0, hw]
    exact ⟨rfl, rfl⟩
theorem ia (s : List (Ty.T y49)) (id : Int) (hb : s.length ≤ 1048576) : d45c1 s id = true ∧ v45c1 s id = (match first (fun i => match s[i]? with | some x => (x.1 == id) | none => false) 0 s.length with | some j => (j : Int) | none => -1) := by
  have h := find_iter (s := s45c1_0) (mk := fun i => (s, id, 0, ((s).length : Int), i, ())) (fin := fun i => (s, id, (i : Int), ((s).length : Int), (i : Int), ())) (p := fun i => match s[i]? with | some x => (x.1 == id) | none => false) (N := s.length) (fun i hi => by
    have h1 := List.getElem?_eq_getElem hi
    simp only [h1]
    skip
    cases ht : (((s[i]).1 == id) : Bool) <;> simp [s45c1_0, t45c1_0, optC_some, hi, h1, ht, v46c1, wrap_nat (n := i) (by omega)]) (by simp [s45c1_0, t45c1_0]) s.length 0 (n45c1_0 (s, id, 0, ((s).length : Int), 0, ())) (by omega) (by simp [n45c1_0]; omega)
  unfold d45c1 v45c1
  revert h
  generalize first _ 0 s.length = o
  intro h
  cases o with
  | none =>
    have e0 : k45c1_0 s id 0 ((s).length : Int) 0 0 = false := at_of h 0
    have e1 : k45c1_0 s id 0 ((s).length : Int) 0 1 = true := at_of h 1
    rw [e0, e1]
    exact ⟨rfl, rfl⟩
  | some j =>
    have e0 : k45c1_0 s id 0 ((s).length : Int) 0 0 = true := at_of h 0
    have hw : w45c1_0 s id 0 ((s).length : Int) 0 = _ := val_of h
    rw [e0, hw]
    exact ⟨rfl, rfl⟩
theorem markI (k : Int) (r : List Int) (hk : 0 ≤ k) (hk2 : k ≤ 1152921504606846976) (hr : r.length ≤ 1099511627776) : d15 k r = true ∧ v15 k r = (k + r.length, ramp k r.length) := by
  have h := march_iter (A := Int × List Int) (c := 0) (s := s15_0) (mk := fun a i => (a.1, 0, i, a.2, ())) (N := r.length) (Inv := fun i a => a.1 = k + i ∧ a.2 = ramp k i ++ r.drop i) (fun i a hi hI => by
    obtain ⟨k', r'⟩ := a
    obtain ⟨e1, e2⟩ := hI
    simp only at e1 e2
    subst e1; subst e2
    have hl : (ramp k i ++ r.drop i).length = r.length := by rw [List.length_append, ramp_length, List.length_drop]; omega
    refine ⟨(k + (i : Int) + 1, ramp k (i + 1) ++ r.drop (i + 1)), ?_, by simp only; omega, rfl⟩
    have h1 : i < (ramp k i ++ r.drop i).length := by omega
    have h2 : (ramp k i ++ r.drop i)[i]? = some (ramp k i ++ r.drop i)[i] := List.getElem?_eq_getElem h1
    have h3 : (i : Int) < ((ramp k i ++ r.drop i).length : Int) := by omega
    simp only [s15_0, t15_0, h3, decide_true, cond_true, if_pos (show (0 : Int) ≤ (i : Int) by omega), if_true, Int.toNat_natCast, h2, optC_some, ramp_set k r i hi]
    rw [wrap_in (n := k + (i : Int) + 1) (by omega) (by omega), wrap_nat (n := i) (by omega)]) (fun a hI => by
    obtain ⟨k', r'⟩ := a
    obtain ⟨e1, e2⟩ := hI
    simp only at e2
    have hl : r'.length = r.length := by rw [e2, List.length_append, ramp_length, List.length_drop]; omega
    simp [s15_0, t15_0, hl]) r.length 0 (k, r) (n15_0 (k, 0, 0, r, ())) (by omega) (by simp only [n15_0]; omega) ⟨by simp, by simp [ramp]⟩
  obtain ⟨⟨k', r'⟩, hi, e1, e2⟩ := h
  have ek : k15_0 k 0 0 r 0 = true := at_of hi 0
  have ew : w15_0 k 0 0 r = _ := val_of hi
  simp only at e1 e2
  unfold d15 v15
  rw [ek, ew]
  refine ⟨rfl, ?_⟩
  show (k', r') = _
  rw [e1, e2, List.drop_length, List.append_nil]
theorem heldI (k : Int) (n : Nat) (hk : 0 ≤ k) (hk2 : k ≤ 1152921504606846976) (hn : n ≤ 1099511627776) : d16 (ramp k n) k = true ∧ v16 (ramp k n) k = k + n := by
  have hl := ramp_length k n
  have h := march_iter (A := Int) (c := 1) (s := s16_0) (mk := fun a i => (ramp k n, a, 0, i, ())) (N := n) (Inv := fun i a => a = k + i) (fun i a hi hI => by
    subst hI
    have h1 := ramp_get k n i hi
    refine ⟨k + (i : Int) + 1, ?_, by omega⟩
    have h3 : (i : Int) < ((ramp k n).length : Int) := by omega
    have h4 : (k + (i : Int) != k + (i : Int)) = false := by simp
    simp only [s16_0, t16_0, h3, decide_true, cond_true, if_pos (show (0 : Int) ≤ (i : Int) by omega), Int.toNat_natCast, h1, optC_some, h4, cond_false]
    rw [wrap_in (n := k + (i : Int) + 1) (by omega) (by omega), wrap_nat (n := i) (by omega)]) (fun a hI => by simp [s16_0, t16_0, hl]) n 0 k (n16_0 (ramp k n, k, 0, 0, ())) (by omega) (by simp only [n16_0]; omega) (by simp)
  obtain ⟨k', hi, e1⟩ := h
  have e0 : k16_0 (ramp k n) k 0 0 0 = false := at_of hi 0
  have ek : k16_0 (ramp k n) k 0 0 1 = true := at_of hi 1
  have ew : w16_0 (ramp k n) k 0 0 = _ := val_of hi
  unfold d16 v16
  rw [e0, ek, ew]
  refine ⟨rfl, ?_⟩
  show k' = _
  rw [e1]
theorem same10 (xs ys : List (Ty.T (.int .i64))) (hx : xs.length ≤ 1099511627776) : d10 xs ys = true ∧ v10 xs ys = decide (xs = ys) := by
  unfold d10 v10
  by_cases hl : (xs.length : Int) = (ys.length : Int)
  · have hl' : xs.length = ys.length := by omega
    have h := find_iter (s := s10_0) (mk := fun i => (xs, ys, false, i, ())) (fin := fun i => (xs, ys, false, (i : Int), ())) (p := fun i => match xs[i]?, ys[i]? with | some x, some y => !decide (x = y) | _, _ => false) (N := xs.length) (fun i hi => by
      have h1 := List.getElem?_eq_getElem hi
      have h2 := List.getElem?_eq_getElem (l := ys) (i := i) (by omega)
      simp only [h1, h2]
      skip
      by_cases he : xs[i] = ys[i]
      · simp [s10_0, t10_0, optC_some, hi, h1, h2, he,  wrap_nat (n := i) (by omega)]
      · have hb : ((xs[i] : Int) != (ys[i] : Int)) = true := by simpa using he
        simp [s10_0, t10_0, optC_some, hi, h1, h2, he, hb,  wrap_nat (n := i) (by omega)]) (by simp [s10_0, t10_0]) xs.length 0 (n10_0 (xs, ys, false, 0, ())) (by omega) (by simp [n10_0]; omega)
    have hf := first_lists (q := fun x y => !decide (x = y)) (xs := xs) (ys := ys) (fun _ _ => rfl) hl' (p := fun i => match xs[i]?, ys[i]? with | some x, some y => !decide (x = y) | _, _ => false) (fun i x y h1 h2 => by simp only [h1, h2])
    rw [show ((xs.length : Int) != (ys.length : Int)) = false by simp [hl]]
    revert h hf
    generalize first _ 0 xs.length = o
    intro h hf
    cases o with
    | none =>
      have e0 : k10_0 xs ys false 0 0 = false := at_of h 0
      have e1 : k10_0 xs ys false 0 1 = true := at_of h 1
      rw [e0, e1, ← hf]
      exact ⟨rfl, rfl⟩
    | some j =>
      have e0 : k10_0 xs ys false 0 0 = true := at_of h 0
      have hw : w10_0 xs ys false 0 = _ := val_of h
      rw [e0, hw, ← hf]
      exact ⟨rfl, rfl⟩
  · rw [show ((xs.length : Int) != (ys.length : Int)) = true by simp [hl]]
    have : xs ≠ ys := fun e => hl (by rw [e])
    simp [this]
theorem strict_eq : ∀ {l m : List Int}, l.Pairwise (· < ·) → m.Pairwise (· < ·) → (∀ y, y ∈ l ↔ y ∈ m) → l = m
  | [], [], _, _, _ => rfl
  | [], b :: m, _, _, h => absurd ((h b).2 List.mem_cons_self) (by simp)
  | a :: l, [], _, _, h => absurd ((h a).1 List.mem_cons_self) (by simp)
  | a :: l, b :: m, h1, h2, h => by
    rw [List.pairwise_cons] at h1 h2
    have hab : a = b := by
      rcases List.mem_cons.1 ((h a).1 List.mem_cons_self) with e | e
      · exact e
      · rcases List.mem_cons.1 ((h b).2 List.mem_cons_self) with e' | e'
        · exact e'.symm
        · have := h1.1 b e'; have := h2.1 a e; omega
    subst hab
    congr 1
    refine strict_eq h1.2 h2.2 fun y => ⟨fun hy => ?_, fun hy => ?_⟩
    · rcases List.mem_cons.1 ((h y).1 (List.mem_cons_of_mem _ hy)) with e | e
      · have := h1.1 y hy; omega
      · exact e
    · rcases List.mem_cons.1 ((h y).2 (List.mem_cons_of_mem _ hy)) with e | e
      · have := h2.1 y hy; omega
      · exact e
theorem cptUp (d : Array Int) (hs : ∀ i j, i ≤ j → j < d.size → d[i]! ≤ d[j]!) : ∀ m, m ≤ d.size → (Go.Lib.compactUpTo d m).Pairwise (· < ·) ∧ ∀ y, y ∈ Go.Lib.compactUpTo d m ↔ ∃ j, j < m ∧ d[j]! = y
  | 0, _ => ⟨by simp [Go.Lib.compactUpTo], fun y => by simp [Go.Lib.compactUpTo]⟩
  | m + 1, hm => by
    obtain ⟨i1, i2⟩ := cptUp d hs m (by omega)
    rw [Go.Lib.compactUpTo_succ]
    cases hk : Go.Lib.keeps d m
    · have hk := of_decide_eq_false hk
      have h0 : ¬ m = 0 := fun e => hk (.inl e)
      have h1 : d[m]! = d[m - 1]! := by
        by_cases h : d[m]! = d[m - 1]!
        · exact h
        · exact absurd (.inr h) hk
      simp only [Bool.false_eq_true, if_false, List.append_nil]
      refine ⟨i1, fun y => (i2 y).trans ⟨fun ⟨j, h2, h3⟩ => ⟨j, by omega, h3⟩, fun ⟨j, h2, h3⟩ => ?_⟩⟩
      by_cases hj : j = m
      · subst hj; exact ⟨j - 1, by omega, h1.symm.trans h3⟩
      · exact ⟨j, by omega, h3⟩
    · have hk := of_decide_eq_true hk
      simp only [if_true]
      refine ⟨?_, fun y => ?_⟩
      · rw [List.pairwise_append]
        refine ⟨i1, by simp, fun a ha b hb => ?_⟩
        rw [List.mem_singleton] at hb
        subst hb
        obtain ⟨j, h2, rfl⟩ := (i2 a).1 ha
        rcases hk with h0 | h0
        · omega
        · have := hs j (m - 1) (by omega) (by omega)
          have := hs (m - 1) m (by omega) (by omega)
          omega
      · rw [List.mem_append, List.mem_singleton, i2 y]
        refine ⟨fun h => ?_, fun ⟨j, h2, h3⟩ => ?_⟩
        · rcases h with ⟨j, h2, h3⟩ | h
          · exact ⟨j, by omega, h3⟩
          · exact ⟨m, by omega, h.symm⟩
        · by_cases hj : j = m
          · subst hj; exact .inr h3.symm
          · exact .inl ⟨j, by omega, h3⟩
theorem setI_facts (zs : List Int) : (setI zs).Pairwise (· < ·) ∧ ∀ y, y ∈ setI zs ↔ y ∈ zs := by
  have hp := List.pairwise_mergeSort (le := fun (x y : Int) => decide (x ≤ y)) (fun a b c h1 h2 => decide_eq_true (Int.le_trans (of_decide_eq_true h1) (of_decide_eq_true h2))) (fun a b => by
    rcases Int.le_total a b with h | h
    · rw [decide_eq_true h]; rfl
    · rw [decide_eq_true h, Bool.or_true]) zs
  have hm : ∀ y, y ∈ zs.mergeSort (fun x y => decide (x ≤ y)) ↔ y ∈ zs := fun y => List.mem_mergeSort
  unfold setI Go.Lib.compact
  revert hp hm
  generalize zs.mergeSort (fun x y => decide (x ≤ y)) = l
  intro hp hm
  have hg : ∀ j, j < l.length → l.toArray[j]! = l.getD j 0 := fun j hj => by simp [List.getD, hj]
  have q := cptUp l.toArray (fun i j hij hj => by
    have hj : j < l.length := by simpa using hj
    rw [hg i (by omega), hg j hj]
    simp only [List.getD, List.getElem?_eq_getElem (show i < l.length by omega), List.getElem?_eq_getElem hj, Option.getD_some]
    by_cases e : i = j
    · subst e; exact Int.le_refl _
    · exact of_decide_eq_true (List.pairwise_iff_getElem.1 hp i j (by omega) hj (by omega))) l.length (by simp)
  refine ⟨q.1, fun y => (q.2 y).trans (Iff.trans ⟨?_, ?_⟩ (hm y))⟩
  · rintro ⟨j, h1, h2⟩
    rw [← h2, hg j h1]
    simp only [List.getD, List.getElem?_eq_getElem h1, Option.getD_some]
    exact List.getElem_mem h1
  · intro h
    obtain ⟨j, h1, h2⟩ := List.mem_iff_getElem.1 h
    refine ⟨j, h1, ?_⟩
    rw [hg j h1]
    simp only [List.getD, List.getElem?_eq_getElem h1, Option.getD_some]
    exact h2
theorem wrap_pred (j : Nat) (h : (j : Int) ≤ 9223372036854775806) : IntKind.wrap .i64 (((j + 1 : Nat) : Int) - 1) = (j : Int) := by rw [wrap_in (by omega) (by omega)]; omega
theorem hasS (u : List (Ty.T (.int .i64))) (n : Int) (hb : u.length ≤ 1048576) : d34 u n = true ∧ v34 u n = (u.any fun x => x == n) := by
  have h := find_iter (s := s34_0) (mk := fun i => (u, n, false, i, ())) (fin := fun i => (u, n, true, (i : Int), ())) (p := fun i => match u[i]? with | some x => (x == n) | none => false) (N := u.length) (fun i hi => by
    have h1 := List.getElem?_eq_getElem hi
    simp only [h1]
    skip
    cases ht : ((u[i] : Int) == n) <;> simp [s34_0, t34_0, optC_some, hi, h1, ht,  wrap_nat (n := i) (by omega)]) (by simp [s34_0, t34_0]) u.length 0 (n34_0 (u, n, false, 0, ())) (by omega) (by simp [n34_0]; omega)
  have hf := first_any (p := fun x => (x == n)) (xs := u) (q := fun i => match u[i]? with | some x => (x == n) | none => false) (fun i x h1 => by simp only [h1])
  unfold d34 v34
  revert h hf
  generalize first _ 0 u.length = o
  intro h hf
  cases o with
  | none =>
    have e0 : k34_0 u n false 0 0 = false := at_of h 0
    have e1 : k34_0 u n false 0 1 = true := at_of h 1
    rw [e0, e1, ← hf]
    exact ⟨rfl, rfl⟩
  | some j =>
    have e0 : k34_0 u n false 0 0 = true := at_of h 0
    have hw : w34_0 u n false 0 = _ := val_of h
    rw [e0, hw, ← hf]
    exact ⟨rfl, rfl⟩
theorem setIn (h0 : List (Ty.T (.int .i64))) (h1 : List (Ty.T (.int .i64))) (h4 : Int) (h5 : List (Ty.T (.int .i64))) (h6 : Int) (h7 : Bool) (h8 : List (Ty.T (.int .i64))) (h9 : Int) (h10 : Int) (h11 : Int) (h12 : Bool) (h13 : Int) (i : Nat) (l : List (Ty.T (.int .i64))) (x : Ty.T (.int .i64)) (hx : h0[i]? = some x) (hb : l.length ≤ 2097152) : ∃ p : Nat, p ≤ l.length ∧ (∀ (j : Nat) (y : Int), p ≤ j → l[j]? = some y → x < y) ∧ (p = 0 ∨ ∃ y : Int, l[p - 1]? = some y ∧ ¬ x < y) ∧ iter s21_1 (n21_1 (h0, h1, (i : Int), (l.length : Int), h4, h5, h6, h7, h8, h9, h10, h11, h12, h13, l, ())) (h0, h1, (i : Int), (l.length : Int), h4, h5, h6, h7, h8, h9, h10, h11, h12, h13, l, ()) = some (0, (h0, h1, (i : Int), (p : Int), h4, h5, h6, h7, h8, h9, h10, h11, h12, h13, l, ())) := by
  obtain ⟨v', h1, p, hp, ha, hbb, rfl⟩ := run_iter (s := s21_1) (Q := fun v => ∃ p : Nat, p ≤ l.length ∧ (∀ (j : Nat) (y : Int), p ≤ j → l[j]? = some y → x < y) ∧ (p = 0 ∨ ∃ y : Int, l[p - 1]? = some y ∧ ¬ x < y) ∧ v = (h0, h1, (i : Int), (p : Int), h4, h5, h6, h7, h8, h9, h10, h11, h12, h13, l, ())) (fun k v => k ≤ l.length ∧ (∀ (j : Nat) (y : Int), k ≤ j → l[j]? = some y → x < y) ∧ v = (h0, h1, (i : Int), (k : Int), h4, h5, h6, h7, h8, h9, h10, h11, h12, h13, l, ())) (fun k v hI => by
    obtain ⟨hk, ha, rfl⟩ := hI
    cases k with
    | zero =>
      refine .inl ⟨_, ?_, 0, Nat.zero_le _, ha, .inl rfl, rfl⟩
      simp [s21_1, t21_1, g21_2, c21_2, t21_2]
    | succ k =>
      have hw : IntKind.wrap .i64 (((k + 1 : Nat) : Int) - 1) = (k : Int) := wrap_pred k (by omega)
      obtain ⟨y, hy⟩ : ∃ y, l[k]? = some y := ⟨l[k]'(by omega), List.getElem?_eq_getElem _⟩
      have g0 : ((k + 1 : Nat) : Int) > 0 := by omega
      have g1 : (0 : Int) ≤ (k : Int) := by omega
      have g2 : (k : Int) < (l.length : Int) := by omega
      have g3 : (0 : Int) ≤ (i : Int) := by omega
      by_cases hc : y > x
      · exact .inr ⟨k, _, rfl, by simp only [s21_1, t21_1, g21_2, c21_2, t21_2, decide_eq_true g0, cond_true, hw, if_pos g1, if_pos g2, decide_eq_true g1, decide_eq_true g2, Int.toNat_natCast, hy, optC_some, if_pos g3, decide_eq_true g3, hx, optD, optV, Option.isSome_some, Option.getD_some, Bool.and_true, decide_eq_true hc], by omega, fun j z hj hz => by
          by_cases e : j = k
          · subst e; rw [hy] at hz; cases hz; exact hc
          · exact ha j z (by omega) hz, rfl⟩
      · exact .inl ⟨_, by simp only [s21_1, t21_1, g21_2, c21_2, t21_2, decide_eq_true g0, cond_true, hw, if_pos g1, if_pos g2, decide_eq_true g1, decide_eq_true g2, Int.toNat_natCast, hy, optC_some, if_pos g3, decide_eq_true g3, hx, optD, optV, Option.isSome_some, Option.getD_some, Bool.and_true, decide_eq_false hc, cond_false], k + 1, hk, ha, .inr ⟨y, hy, hc⟩, rfl⟩) l.length (h0, h1, (i : Int), (l.length : Int), h4, h5, h6, h7, h8, h9, h10, h11, h12, h13, l, ()) (n21_1 (h0, h1, (i : Int), (l.length : Int), h4, h5, h6, h7, h8, h9, h10, h11, h12, h13, l, ())) ⟨Nat.le_refl _, fun j y hj hy => (by have := (List.getElem?_eq_some_iff.1 hy).1; omega), rfl⟩ (by simp only [n21_1]; omega)
  exact ⟨p, hp, ha, hbb, h1⟩
theorem setInK (h0 : List (Ty.T (.int .i64))) (h1 : List (Ty.T (.int .i64))) (h4 : Int) (h5 : List (Ty.T (.int .i64))) (h6 : Int) (h7 : Bool) (h8 : List (Ty.T (.int .i64))) (h9 : Int) (h10 : Int) (h11 : Int) (h12 : Bool) (h13 : Int) (i : Nat) (l : List (Ty.T (.int .i64))) (x : Ty.T (.int .i64)) (hx : h0[i]? = some x) (hb : l.length ≤ 2097152) : ∃ p : Nat, p ≤ l.length ∧ (∀ (j : Nat) (y : Int), p ≤ j → l[j]? = some y → x < y) ∧ (p = 0 ∨ ∃ y : Int, l[p - 1]? = some y ∧ ¬ x < y) ∧ k21_1 h0 h1 (i : Int) (l.length : Int) h4 h5 h6 h7 h8 h9 h10 h11 h12 h13 l 0 = true ∧ w21_1 h0 h1 (i : Int) (l.length : Int) h4 h5 h6 h7 h8 h9 h10 h11 h12 h13 l = (h0, h1, (i : Int), (p : Int), h4, h5, h6, h7, h8, h9, h10, h11, h12, h13, l, ()) := by
  obtain ⟨p, h1, ha, hc, h2⟩ := setIn h0 h1 h4 h5 h6 h7 h8 h9 h10 h11 h12 h13 i l x hx hb
  exact ⟨p, h1, ha, hc, at_of h2 0, val_of h2⟩
theorem ins_sorted {l : List Int} {x : Int} {p : Nat} (hl : l.Pairwise (· < ·)) (hx : x ∉ l) (hp : p ≤ l.length) (h1 : ∀ (j : Nat) (y : Int), p ≤ j → l[j]? = some y → x < y) (h2 : p = 0 ∨ ∃ y : Int, l[p - 1]? = some y ∧ ¬ x < y) : (l.take p ++ x :: l.drop p).Pairwise (· < ·) := by
  rw [List.pairwise_append, List.pairwise_cons]
  have hd : ∀ y ∈ l.drop p, x < y := fun y hy => by
    obtain ⟨j, hj⟩ := List.mem_iff_getElem?.1 hy
    rw [List.getElem?_drop] at hj
    exact h1 _ y (by omega) hj
  have ht : ∀ y ∈ l.take p, y < x := fun y hy => by
    rcases h2 with rfl | ⟨z, hz, hzx⟩
    · simp at hy
    · obtain ⟨j, hj, rfl⟩ := List.mem_iff_getElem.1 hy
      rw [List.length_take] at hj
      rw [List.getElem_take]
      obtain ⟨hzl, rfl⟩ := List.getElem?_eq_some_iff.1 hz
      have hne : l[p - 1] ≠ x := fun e => hx (e ▸ List.getElem_mem _)
      by_cases e : j = p - 1
      · subst e; omega
      · have := List.pairwise_iff_getElem.1 hl j (p - 1) (by omega) (by omega) (by omega)
        omega
  refine ⟨hl.sublist (List.take_sublist _ _), ⟨hd, hl.sublist (List.drop_sublist _ _)⟩, fun a ha b hb => ?_⟩
  rcases List.mem_cons.1 hb with rfl | hb
  · exact ht a ha
  · have := ht a ha; have := hd b hb; omega
theorem setOf (xs : List (Ty.T (.int .i64))) (hb : xs.length ≤ 1048577) : d21 xs = true ∧ v21 xs = setI xs := by
  have h := inv_iter (s := s21_0) (mk := fun k : Nat × List (Ty.T (.int .i64)) => (xs, [], (k.1 : Int), k.2, ())) (Inv := fun t k => k.1 = t ∧ k.2.length ≤ t ∧ List.Pairwise (α := Int) (· < ·) k.2 ∧ ∀ y : Int, List.Mem y k.2 ↔ List.Mem y (xs.take t)) (Q := fun v => ∃ l : List (Ty.T (.int .i64)), v = (xs, [], (xs.length : Int), l, ()) ∧ l = setI xs) (c := 0) (N := xs.length) (fun t k ht hI => by
    obtain ⟨r, l⟩ := k
    obtain ⟨hr, hlen, hs, hm⟩ := hI
    dsimp only at hr hlen hs hm
    subst hr
    have hx : xs[r]? = some xs[r] := List.getElem?_eq_getElem ht
    have hh := hasS l xs[r] (by omega)
    have g5 : (0 : Int) ≤ (r : Int) := by omega
    have g6 : (r : Int) < (xs.length : Int) := by omega
    have hw1 := wrap_nat (n := r) (by omega)
    cases hany : (l.any fun y => y == xs[r])
    · have hnm : ¬ List.Mem (xs[r] : Int) l := fun hmem => by
        have := List.any_eq_false.1 hany xs[r] hmem
        simp at this
      obtain ⟨p, hpl, ha, hc, hk, hw⟩ := setInK xs [] (r : Int) xs (xs.length : Int) true xs (r : Int) xs[r] xs[r] false (l.length : Int) r l xs[r] hx (by omega)
      have g7 : (0 : Int) ≤ (p : Int) := by omega
      have g8 : (p : Int) ≤ (l.length : Int) := by omega
      have z1 : ([] ++ ((l.drop 0).take p) : List (Ty.T (.int .i64))).length * 8 ≤ 140737488351232 := by simp only [List.nil_append, List.length_take, List.length_drop]; omega
      have z2 : (([] ++ ((l.drop 0).take p)) ++ [xs[r]] : List (Ty.T (.int .i64))).length * 8 ≤ 140737488351232 := by simp only [List.nil_append, List.length_append, List.length_cons, List.length_nil, List.length_take, List.length_drop]; omega
      have z3 : ((([] ++ ((l.drop 0).take p)) ++ [xs[r]]) ++ ((l.drop p).take (l.length - p)) : List (Ty.T (.int .i64))).length * 8 ≤ 140737488351232 := by simp only [List.nil_append, List.length_append, List.length_cons, List.length_nil, List.length_take, List.length_drop]; omega
      have e : (([] ++ ((l.drop 0).take p)) ++ [xs[r]]) ++ ((l.drop p).take (l.length - p)) = l.take p ++ xs[r] :: l.drop p := by
        rw [List.take_of_length_le (l := l.drop p) (by rw [List.length_drop]; omega)]
        simp
      refine ⟨(r + 1, (([] ++ ((l.drop 0).take p)) ++ [xs[r]]) ++ ((l.drop p).take (l.length - p))), ?_, rfl, ?_, ?_, fun y => ?_⟩
      · simp only [s21_0, t21_0, e21_0, decide_eq_true g6, cond_true, if_pos g5, Int.toNat_natCast, hx, optC_some, hh.1, hh.2, hany, cond_false, hk, hw]
        simp only [g21_3, c21_3, t21_3, if_pos g5, if_pos g7, if_pos g8, decide_eq_true g5, decide_eq_true g7, decide_eq_true g8, Int.toNat_natCast, hx, optC_some, optD, optV, if_pos z1, if_pos z2, if_pos z3, decide_eq_true z1, decide_eq_true z2, decide_eq_true z3, Bool.and_true, Option.isSome_some, Option.getD_some, cond_true, hw1]
      · show List.length _ ≤ _
        rw [e, List.length_append, List.length_cons, List.length_take, List.length_drop]
        omega
      · show List.Pairwise (α := Int) (· < ·) _
        rw [e]
        exact ins_sorted hs hnm hpl ha hc
      · show List.Mem y _ ↔ List.Mem y _
        rw [e, take_snoc hx]
        show y ∈ l.take p ++ xs[r] :: l.drop p ↔ y ∈ xs.take r ++ [xs[r]]
        have q : y ∈ l ↔ y ∈ l.take p ∨ y ∈ l.drop p := by
          rw [← List.mem_append, List.take_append_drop]
        have hm : y ∈ l ↔ y ∈ xs.take r := hm y
        rw [List.mem_append, List.mem_cons, List.mem_append, List.mem_singleton, ← hm, q]
        constructor
        · rintro (h | h | h)
          · exact .inl (.inl h)
          · exact .inr h
          · exact .inl (.inr h)
        · rintro ((h | h) | h)
          · exact .inl h
          · exact .inr (.inr h)
          · exact .inr (.inl h)
    · refine ⟨(r + 1, l), ?_, rfl, by show List.length l ≤ _; omega, hs, fun y => ?_⟩
      · simp only [s21_0, t21_0, decide_eq_true g6, cond_true, if_pos g5, Int.toNat_natCast, hx, optC_some, hh.1, hh.2, hany, hw1]
      · show List.Mem y _ ↔ List.Mem y _
        rw [take_snoc hx]
        show y ∈ l ↔ y ∈ xs.take r ++ [xs[r]]
        have hm1 : y ∈ l ↔ y ∈ xs.take r := hm y
        obtain ⟨z, hz, hzx⟩ := List.any_eq_true.1 hany
        have hzx : z = xs[r] := eq_of_beq hzx
        subst hzx
        rw [List.mem_append, List.mem_singleton, ← hm1]
        exact ⟨.inl, fun h => h.elim id fun e => e ▸ hz⟩)
    (fun k hI => by
      obtain ⟨r, l⟩ := k
      obtain ⟨hr, hlen, hs, hm⟩ := hI
      dsimp only at hr hlen hs hm
      subst hr
      refine ⟨_, by simp only [s21_0, t21_0, decide_eq_false (show ¬ ((xs.length : Int) < (xs.length : Int)) by omega), cond_false], l, rfl, ?_⟩
      have q := setI_facts xs
      refine strict_eq hs q.1 fun y => ?_
      have hm : y ∈ l ↔ y ∈ xs.take xs.length := hm y
      rw [List.take_of_length_le (Nat.le_refl _)] at hm
      exact hm.trans (q.2 y).symm) xs.length 0 (n21_0 (xs, [], ((0 : Nat) : Int), [], ())) (0, []) (by omega) (by simp only [n21_0]; omega) ⟨rfl, Nat.le_refl _, .nil, fun y => Iff.rfl⟩
  obtain ⟨v', h1, l, rfl, h2⟩ := h
  have hk : k21_0 xs [] 0 [] 0 = true := at_of h1 0
  have hw : w21_0 xs [] 0 [] = (xs, [], (xs.length : Int), l, ()) := val_of h1
  unfold d21 v21 t21
  try simp only [getD_cond, isSome_cond, getD_sm, getD_no, isSome_sm, isSome_no, getD_opt, isSome_opt, isSome_ite, isSome_ifz]
  rw [hk, hw]
  exact ⟨rfl, h2⟩
theorem pi (s : Ty.T y33) (id : Int) (hb : s.1.length ≤ 1048576) : d38 s id = true ∧ v38 s id = v33 s id := by
  have h1 := pa s id hb
  have h2 := ia s.1 id hb
  unfold d38 v38
  rw [h2.1, h2.2, h1.2]
  exact ⟨rfl, rfl⟩
theorem src (s : Ty.T y33) (e : Ty.T y47) (hb : s.1.length ≤ 1048576) : d20 s e = true ∧ d26 s e = true ∧ v26 s e = v20 s e := by
  have h1 := pa s e.2.1 hb
  have h2 := pi s e.2.1 hb
  have key : d20 s e = true := by
    unfold d20 t20
    try simp only [getD_cond, isSome_cond, getD_sm, getD_no, isSome_sm, isSome_no, getD_opt, isSome_opt, isSome_ite, isSome_ifz]
    rw [h1.1, h1.2]
    cases h : first (fun i => match s.1[i]? with | some x => (x.1 == e.2.1) | none => false) 0 s.1.length with
    | none => cases (e.1 != (1 : Int)) <;> rfl
    | some j =>
      obtain ⟨_, hj, _⟩ := first_some h
      have : s.1[j]? = some s.1[j] := List.getElem?_eq_getElem (by omega)
      cases (e.1 != (1 : Int)) with
      | true => rfl
      | false =>
        dsimp only
        rw [cond_false, decide_eq_false (by omega), cond_false, Int.toNat_natCast, this, decide_eq_true (by omega)]
        rfl
  refine ⟨key, ?_, ?_⟩
  · rw [← key]
    unfold d20 d26 t20 t26
    try simp only [getD_cond, isSome_cond, getD_sm, getD_no, isSome_sm, isSome_no, getD_opt, isSome_opt, isSome_ite, isSome_ifz]
    rw [h1.1, h2.1, h2.2]
  · unfold v20 v26 t20 t26
    try simp only [getD_cond, isSome_cond, getD_sm, getD_no, isSome_sm, isSome_no, getD_opt, isSome_opt, isSome_ite, isSome_ifz]
    rw [h1.1, h2.1, h2.2]
theorem trait (p : Ty.T y49) : v25 p 4 = v19 p 4 := rfl
noncomputable def dl (s : Ty.T y33) (k : List Int) (x : Ty.T y51) : List Int := cond (x.1 == (1 : Int)) (cond (decide (x.2.2.1 ≥ (1 : Int))) (cond (x.2.1.2.2.1 != (0 : Int)) (cond (v19 (v20 s x.2.1) 4) (k ++ [x.2.1.2.2.1]) k) k) k) k
theorem dl_len (s : Ty.T y33) (k : List Int) (x : Ty.T y51) : (dl s k x).length ≤ k.length + 1 := by
  unfold dl
  cases (x.1 == (1 : Int)) <;> cases decide (x.2.2.1 ≥ (1 : Int)) <;> cases (x.2.1.2.2.1 != (0 : Int)) <;> cases (v19 (v20 s x.2.1) 4) <;> simp
theorem dls_len (s : Ty.T y33) : ∀ (l : List (Ty.T y51)) (k : List Int), (l.foldl (dl s) k).length ≤ k.length + l.length
  | [], k => Nat.le_refl _
  | x :: l, k => by
    have := dls_len s l (dl s k x)
    have := dl_len s k x
    rw [List.foldl_cons, List.length_cons]
    omega
theorem stS (s : Ty.T y33) (l : List (Ty.T y51)) (hb : s.1.length ≤ 1048576) (hl : l.length ≤ 1048576) (k : List Int) (i : Nat) (x : Ty.T y51) (hx : l[i]? = some x) (hk : k.length ≤ i) : s6_0 (l, [], (i : Int), s, k, ()) = some (0, (l, [], ((i + 1 : Nat) : Int), s, dl s k x, ())) := by
  have hi := (List.getElem?_eq_some_iff.1 hx).1
  have h0 : (0 : Int) ≤ (i : Int) := by omega
  have hs := src s x.2.1 hb
  have hz : (k ++ [x.2.1.2.2.1] : List Int).length * 8 ≤ 140737488351232 := by simp only [List.length_append, List.length_cons, List.length_nil]; omega
  unfold s6_0 t6_0 dl
  dsimp only
  rw [decide_eq_true (show (i : Int) < (l.length : Int) by omega), cond_true]
  simp only [if_pos h0, Int.toNat_natCast, hx, optC_some, hs.1, cond_true, if_pos hz, wrap_nat (n := i) (by omega)]
  cases (x.1 == (1 : Int))
  · rfl
  · cases decide (x.2.2.1 ≥ (1 : Int))
    · rfl
    · cases (x.2.1.2.2.1 != (0 : Int))
      · rfl
      · cases (v19 (v20 s x.2.1) 4) <;> rfl
theorem stI (s : Ty.T y33) (l : List (Ty.T y51)) (hb : s.1.length ≤ 1048576) (hl : l.length ≤ 1048576) (k : List Int) (i : Nat) (x : Ty.T y51) (hx : l[i]? = some x) (hk : k.length ≤ i) : s9_0 ([], l, (l.length : Int), (i : Int), s, k, ()) = some (0, ([], l, (l.length : Int), ((i + 1 : Nat) : Int), s, dl s k x, ())) := by
  have hi := (List.getElem?_eq_some_iff.1 hx).1
  have h0 : (0 : Int) ≤ (i : Int) := by omega
  have hs := src s x.2.1 hb
  have hz : (k ++ [x.2.1.2.2.1] : List Int).length * 8 ≤ 140737488351232 := by simp only [List.length_append, List.length_cons, List.length_nil]; omega
  unfold s9_0 t9_0 dl
  dsimp only
  rw [decide_eq_true (show (i : Int) < (l.length : Int) by omega), cond_true]
  simp only [if_pos h0, Int.toNat_natCast, hx, optC_some, hs.2.1, hs.2.2, trait, cond_true, if_pos hz, wrap_nat (n := i) (by omega)]
  cases (x.1 == (1 : Int))
  · rfl
  · cases decide (x.2.2.1 ≥ (1 : Int))
    · rfl
    · cases (x.2.1.2.2.1 != (0 : Int))
      · rfl
      · cases (v19 (v20 s x.2.1) 4) <;> rfl
theorem both (s : Ty.T y33) (l : List (Ty.T y51)) (hb : s.1.length ≤ 1048576) (hl : l.length ≤ 1048576) : d6 s l = true ∧ d9 s l = true ∧ v9 s l = v6 s l ∧ (v6 s l).length ≤ 1048576 := by
  have h1 := fold_iter (s := s6_0) (mk := fun (k : List Int) i => (l, [], (i : Int), s, k, ())) (xs := l) (f := dl s) (Inv := fun i k => k.length ≤ i) (fun i x k hx hI => ⟨stS s l hb hl k i x hx hI, Nat.le_trans (dl_len s k x) (by omega)⟩) (fun k => by simp [s6_0, t6_0]) l.length 0 [] (n6_0 (l, [], ((0 : Nat) : Int), s, [], ())) (by omega) (by simp only [n6_0]; omega) (Nat.le_refl _)
  have h2 := fold_iter (s := s9_0) (mk := fun (k : List Int) i => ([], l, (l.length : Int), (i : Int), s, k, ())) (xs := l) (f := dl s) (Inv := fun i k => k.length ≤ i) (fun i x k hx hI => ⟨stI s l hb hl k i x hx hI, Nat.le_trans (dl_len s k x) (by omega)⟩) (fun k => by simp [s9_0, t9_0]) l.length 0 [] (n9_0 ([], l, (l.length : Int), ((0 : Nat) : Int), s, [], ())) (by omega) (by simp only [n9_0]; omega) (Nat.le_refl _)
  have k1 : k6_0 l [] 0 s [] 0 = true := at_of h1 0
  have w1 : w6_0 l [] 0 s [] = (l, [], (l.length : Int), s, (l.drop 0).foldl (dl s) [], ()) := val_of h1
  have k2 : k9_0 [] l (l.length : Int) 0 s [] 0 = true := at_of h2 0
  have w2 : w9_0 [] l (l.length : Int) 0 s [] = ([], l, (l.length : Int), (l.length : Int), s, (l.drop 0).foldl (dl s) [], ()) := val_of h2
  have hlen : ((l.drop 0).foldl (dl s) []).length ≤ 1048576 := by
    have := dls_len s (l.drop 0) []
    rw [List.length_drop] at this
    simp only [List.length_nil] at this
    omega
  have q := setOf ((l.drop 0).foldl (dl s) []) (by omega)
  unfold d6 d9 v6 v9
  rw [k1, w1, k2, w2]
  dsimp only
  have di : d27 ((l.drop 0).foldl (dl s) []) = true := decide_eq_true (by omega)
  rw [q.1, q.2, di]
  exact ⟨rfl, rfl, rfl, Nat.le_trans (setI_len _) hlen⟩
theorem mark31 (a1 : Int) (r0 : List (Ty.T y49)) (hk : 0 ≤ a1) (hk2 : a1 ≤ 1152921504606846976) (hr0 : r0.length ≤ 1048576) : d31 a1 r0 = true ∧ a1 ≤ (v31 a1 r0).1 ∧ (v31 a1 r0).1 ≤ a1 + 1099511627776 := by
  have h := march_iter (A := Int × List (Ty.T y49)) (c := 0) (s := s31_0) (mk := fun a i => (a.1, 0, i, a.2, ())) (N := r0.length) (Inv := fun i a => a.1 = a1 + 13 * i ∧ a.2.length = r0.length) (fun i a hi hI => by
    obtain ⟨k, r⟩ := a
    obtain ⟨e1, e2⟩ := hI
    simp only at e1 e2
    have hi' : i < r.length := by omega
    refine ⟨(k + 1 + 1 + 1 + 1 + 1 + 1 + 1 + 1 + 1 + 1 + 1 + 1 + 1, r.set i ((k, (k + 1, (k + 1 + 1, (k + 1 + 1 + 1, (k + 1 + 1 + 1 + 1, (k + 1 + 1 + 1 + 1 + 1, (k + 1 + 1 + 1 + 1 + 1 + 1, (k + 1 + 1 + 1 + 1 + 1 + 1 + 1, (k + 1 + 1 + 1 + 1 + 1 + 1 + 1 + 1, (k + 1 + 1 + 1 + 1 + 1 + 1 + 1 + 1 + 1, (k + 1 + 1 + 1 + 1 + 1 + 1 + 1 + 1 + 1 + 1, ((Int.tmod (k + 1 + 1 + 1 + 1 + 1 + 1 + 1 + 1 + 1 + 1 + 1) 3 == 0), (Int.tmod (k + 1 + 1 + 1 + 1 + 1 + 1 + 1 + 1 + 1 + 1 + 1 + 1) 3 == 0))))))))))))))), ?_, by simp only; omega, by simp only [List.length_set]; exact e2⟩
    simp [s31_0, t31_0, optC_some, hi', wrap_in (n := k + 1) (by omega) (by omega), wrap_in (n := k + 1 + 1) (by omega) (by omega), wrap_in (n := k + 1 + 1 + 1) (by omega) (by omega), wrap_in (n := k + 1 + 1 + 1 + 1) (by omega) (by omega), wrap_in (n := k + 1 + 1 + 1 + 1 + 1) (by omega) (by omega), wrap_in (n := k + 1 + 1 + 1 + 1 + 1 + 1) (by omega) (by omega), wrap_in (n := k + 1 + 1 + 1 + 1 + 1 + 1 + 1) (by omega) (by omega), wrap_in (n := k + 1 + 1 + 1 + 1 + 1 + 1 + 1 + 1) (by omega) (by omega), wrap_in (n := k + 1 + 1 + 1 + 1 + 1 + 1 + 1 + 1 + 1) (by omega) (by omega), wrap_in (n := k + 1 + 1 + 1 + 1 + 1 + 1 + 1 + 1 + 1 + 1) (by omega) (by omega), wrap_in (n := k + 1 + 1 + 1 + 1 + 1 + 1 + 1 + 1 + 1 + 1 + 1) (by omega) (by omega), wrap_in (n := k + 1 + 1 + 1 + 1 + 1 + 1 + 1 + 1 + 1 + 1 + 1 + 1) (by omega) (by omega), wrap_in (n := k + 1 + 1 + 1 + 1 + 1 + 1 + 1 + 1 + 1 + 1 + 1 + 1 + 1) (by omega) (by omega), wrap_nat (n := i) (by omega)]) (fun a hI => by
    obtain ⟨k, r⟩ := a
    obtain ⟨e1, e2⟩ := hI
    simp only at e2
    simp [s31_0, t31_0, e2]) r0.length 0 (a1, r0) (n31_0 (a1, 0, 0, r0, ())) (by omega) (by simp only [n31_0]; omega) ⟨by simp, rfl⟩
  obtain ⟨⟨k', r'⟩, hi, e1, e2⟩ := h
  have ek : k31_0 a1 0 0 r0 0 = true := at_of hi 0
  have ew : w31_0 a1 0 0 r0 = _ := val_of hi
  unfold d31 v31
  rw [ek, ew]
  simp only at e1
  refine ⟨rfl, ?_, ?_⟩
  · show a1 ≤ k'
    omega
  · show k' ≤ a1 + 1099511627776
    omega
theorem mark32 (a1 : Int) (r0 : List (Ty.T y70)) (hk : 0 ≤ a1) (hk2 : a1 ≤ 1152921504606846976) (hr0 : r0.length ≤ 1048576) : d32 a1 r0 = true ∧ a1 ≤ (v32 a1 r0).1 ∧ (v32 a1 r0).1 ≤ a1 + 1099511627776 := by
  have h := march_iter (A := Int × List (Ty.T y70)) (c := 0) (s := s32_0) (mk := fun a i => (a.1, 0, i, a.2, ())) (N := r0.length) (Inv := fun i a => a.1 = a1 + 3 * i ∧ a.2.length = r0.length) (fun i a hi hI => by
    obtain ⟨k, r⟩ := a
    obtain ⟨e1, e2⟩ := hI
    simp only at e1 e2
    have hi' : i < r.length := by omega
    refine ⟨(k + 1 + 1 + 1, r.set i ((k, (k + 1, (Int.tmod (k + 1 + 1) 3 == 0))))), ?_, by simp only; omega, by simp only [List.length_set]; exact e2⟩
    simp [s32_0, t32_0, optC_some, hi', wrap_in (n := k + 1) (by omega) (by omega), wrap_in (n := k + 1 + 1) (by omega) (by omega), wrap_in (n := k + 1 + 1 + 1) (by omega) (by omega), wrap_nat (n := i) (by omega)]) (fun a hI => by
    obtain ⟨k, r⟩ := a
    obtain ⟨e1, e2⟩ := hI
    simp only at e2
    simp [s32_0, t32_0, e2]) r0.length 0 (a1, r0) (n32_0 (a1, 0, 0, r0, ())) (by omega) (by simp only [n32_0]; omega) ⟨by simp, rfl⟩
  obtain ⟨⟨k', r'⟩, hi, e1, e2⟩ := h
  have ek : k32_0 a1 0 0 r0 0 = true := at_of hi 0
  have ew : w32_0 a1 0 0 r0 = _ := val_of hi
  unfold d32 v32
  rw [ek, ew]
  simp only at e1
  refine ⟨rfl, ?_, ?_⟩
  · show a1 ≤ k'
    omega
  · show k' ≤ a1 + 1099511627776
    omega
theorem mark13 (a0_2 : Int) (a0_3 : Int) (a1 : Int) (r0 : List (Ty.T y49)) (r1 : List (Ty.T y70)) (hk : 0 ≤ a1) (hk2 : a1 ≤ 1152920405095219200) (hr0 : r0.length ≤ 1048576) (hr1 : r1.length ≤ 1048576) : d13 a0_2 a0_3 a1 r0 r1 = true ∧ a1 ≤ (v13 a0_2 a0_3 a1 r0 r1).1 ∧ (v13 a0_2 a0_3 a1 r0 r1).1 ≤ a1 + 2199023255552 := by
  have m0 := mark31 a1 r0 (by omega) (by omega) hr0
  have m1 := mark32 (v31 a1 r0).1 r1 (by have := m0.2.1; have := m0.2.2; omega) (by have := m0.2.1; have := m0.2.2; omega) hr1
  unfold d13 v13
  rw [m0.1, m1.1]
  simp only [cond_true]
  refine ⟨trivial, ?_, ?_⟩ <;> (have := m0.2.1; have := m0.2.2; have := m1.2.1; have := m1.2.2; omega)
theorem mark14 (a1 : Int) (r0 : List (Ty.T y51)) (hk : 0 ≤ a1) (hk2 : a1 ≤ 1152921504606846976) (hr0 : r0.length ≤ 1048576) : d14 a1 r0 = true ∧ a1 ≤ (v14 a1 r0).1 ∧ (v14 a1 r0).1 ≤ a1 + 1099511627776 := by
  have h := march_iter (A := Int × List (Ty.T y51)) (c := 0) (s := s14_0) (mk := fun a i => (a.1, 0, i, a.2, ())) (N := r0.length) (Inv := fun i a => a.1 = a1 + 23 * i ∧ a.2.length = r0.length) (fun i a hi hI => by
    obtain ⟨k, r⟩ := a
    obtain ⟨e1, e2⟩ := hI
    simp only at e1 e2
    have hi' : i < r.length := by omega
    refine ⟨(k + 1 + 1 + 1 + 1 + 1 + 1 + 1 + 1 + 1 + 1 + 1 + 1 + 1 + 1 + 1 + 1 + 1 + 1 + 1 + 1 + 1 + 1 + 1, r.set i ((k, ((k + 1, (k + 1 + 1, (k + 1 + 1 + 1, (k + 1 + 1 + 1 + 1, (k + 1 + 1 + 1 + 1 + 1, (k + 1 + 1 + 1 + 1 + 1 + 1, (Int.tmod (k + 1 + 1 + 1 + 1 + 1 + 1 + 1) 3 == 0))))))), (k + 1 + 1 + 1 + 1 + 1 + 1 + 1 + 1, (k + 1 + 1 + 1 + 1 + 1 + 1 + 1 + 1 + 1, (k + 1 + 1 + 1 + 1 + 1 + 1 + 1 + 1 + 1 + 1, (k + 1 + 1 + 1 + 1 + 1 + 1 + 1 + 1 + 1 + 1 + 1, (k + 1 + 1 + 1 + 1 + 1 + 1 + 1 + 1 + 1 + 1 + 1 + 1, (k + 1 + 1 + 1 + 1 + 1 + 1 + 1 + 1 + 1 + 1 + 1 + 1 + 1, (k + 1 + 1 + 1 + 1 + 1 + 1 + 1 + 1 + 1 + 1 + 1 + 1 + 1 + 1, (k + 1 + 1 + 1 + 1 + 1 + 1 + 1 + 1 + 1 + 1 + 1 + 1 + 1 + 1 + 1, (k + 1 + 1 + 1 + 1 + 1 + 1 + 1 + 1 + 1 + 1 + 1 + 1 + 1 + 1 + 1 + 1, (k + 1 + 1 + 1 + 1 + 1 + 1 + 1 + 1 + 1 + 1 + 1 + 1 + 1 + 1 + 1 + 1 + 1, (k + 1 + 1 + 1 + 1 + 1 + 1 + 1 + 1 + 1 + 1 + 1 + 1 + 1 + 1 + 1 + 1 + 1 + 1, (k + 1 + 1 + 1 + 1 + 1 + 1 + 1 + 1 + 1 + 1 + 1 + 1 + 1 + 1 + 1 + 1 + 1 + 1 + 1, (k + 1 + 1 + 1 + 1 + 1 + 1 + 1 + 1 + 1 + 1 + 1 + 1 + 1 + 1 + 1 + 1 + 1 + 1 + 1 + 1, ((Int.tmod (k + 1 + 1 + 1 + 1 + 1 + 1 + 1 + 1 + 1 + 1 + 1 + 1 + 1 + 1 + 1 + 1 + 1 + 1 + 1 + 1 + 1) 3 == 0), (Int.tmod (k + 1 + 1 + 1 + 1 + 1 + 1 + 1 + 1 + 1 + 1 + 1 + 1 + 1 + 1 + 1 + 1 + 1 + 1 + 1 + 1 + 1 + 1) 3 == 0))))))))))))))))))), ?_, by simp only; omega, by simp only [List.length_set]; exact e2⟩
    simp [s14_0, t14_0, optC_some, hi', wrap_in (n := k + 1) (by omega) (by omega), wrap_in (n := k + 1 + 1) (by omega) (by omega), wrap_in (n := k + 1 + 1 + 1) (by omega) (by omega), wrap_in (n := k + 1 + 1 + 1 + 1) (by omega) (by omega), wrap_in (n := k + 1 + 1 + 1 + 1 + 1) (by omega) (by omega), wrap_in (n := k + 1 + 1 + 1 + 1 + 1 + 1) (by omega) (by omega), wrap_in (n := k + 1 + 1 + 1 + 1 + 1 + 1 + 1) (by omega) (by omega), wrap_in (n := k + 1 + 1 + 1 + 1 + 1 + 1 + 1 + 1) (by omega) (by omega), wrap_in (n := k + 1 + 1 + 1 + 1 + 1 + 1 + 1 + 1 + 1) (by omega) (by omega), wrap_in (n := k + 1 + 1 + 1 + 1 + 1 + 1 + 1 + 1 + 1 + 1) (by omega) (by omega), wrap_in (n := k + 1 + 1 + 1 + 1 + 1 + 1 + 1 + 1 + 1 + 1 + 1) (by omega) (by omega), wrap_in (n := k + 1 + 1 + 1 + 1 + 1 + 1 + 1 + 1 + 1 + 1 + 1 + 1) (by omega) (by omega), wrap_in (n := k + 1 + 1 + 1 + 1 + 1 + 1 + 1 + 1 + 1 + 1 + 1 + 1 + 1) (by omega) (by omega), wrap_in (n := k + 1 + 1 + 1 + 1 + 1 + 1 + 1 + 1 + 1 + 1 + 1 + 1 + 1 + 1) (by omega) (by omega), wrap_in (n := k + 1 + 1 + 1 + 1 + 1 + 1 + 1 + 1 + 1 + 1 + 1 + 1 + 1 + 1 + 1) (by omega) (by omega), wrap_in (n := k + 1 + 1 + 1 + 1 + 1 + 1 + 1 + 1 + 1 + 1 + 1 + 1 + 1 + 1 + 1 + 1) (by omega) (by omega), wrap_in (n := k + 1 + 1 + 1 + 1 + 1 + 1 + 1 + 1 + 1 + 1 + 1 + 1 + 1 + 1 + 1 + 1 + 1) (by omega) (by omega), wrap_in (n := k + 1 + 1 + 1 + 1 + 1 + 1 + 1 + 1 + 1 + 1 + 1 + 1 + 1 + 1 + 1 + 1 + 1 + 1) (by omega) (by omega), wrap_in (n := k + 1 + 1 + 1 + 1 + 1 + 1 + 1 + 1 + 1 + 1 + 1 + 1 + 1 + 1 + 1 + 1 + 1 + 1 + 1) (by omega) (by omega), wrap_in (n := k + 1 + 1 + 1 + 1 + 1 + 1 + 1 + 1 + 1 + 1 + 1 + 1 + 1 + 1 + 1 + 1 + 1 + 1 + 1 + 1) (by omega) (by omega), wrap_in (n := k + 1 + 1 + 1 + 1 + 1 + 1 + 1 + 1 + 1 + 1 + 1 + 1 + 1 + 1 + 1 + 1 + 1 + 1 + 1 + 1 + 1) (by omega) (by omega), wrap_in (n := k + 1 + 1 + 1 + 1 + 1 + 1 + 1 + 1 + 1 + 1 + 1 + 1 + 1 + 1 + 1 + 1 + 1 + 1 + 1 + 1 + 1 + 1) (by omega) (by omega), wrap_in (n := k + 1 + 1 + 1 + 1 + 1 + 1 + 1 + 1 + 1 + 1 + 1 + 1 + 1 + 1 + 1 + 1 + 1 + 1 + 1 + 1 + 1 + 1 + 1) (by omega) (by omega), wrap_nat (n := i) (by omega)]) (fun a hI => by
    obtain ⟨k, r⟩ := a
    obtain ⟨e1, e2⟩ := hI
    simp only at e2
    simp [s14_0, t14_0, e2]) r0.length 0 (a1, r0) (n14_0 (a1, 0, 0, r0, ())) (by omega) (by simp only [n14_0]; omega) ⟨by simp, rfl⟩
  obtain ⟨⟨k', r'⟩, hi, e1, e2⟩ := h
  have ek : k14_0 a1 0 0 r0 0 = true := at_of hi 0
  have ew : w14_0 a1 0 0 r0 = _ := val_of hi
  unfold d14 v14
  rw [ek, ew]
  simp only at e1
  refine ⟨rfl, ?_, ?_⟩
  · show a1 ≤ k'
    omega
  · show k' ≤ a1 + 1099511627776
    omega
theorem law (a0 : Ty.T y24) (a1 : List (Ty.T y51)) (w0 : Ty.ok y24 a0) (w1 : Ty.ok (.sl 62 y51) a1) : d3 a0 a1 = true ∧ v3 a0 a1 = true := by
  unfold d3 v3
  have y0 := sz4 a0 w0 1048576 (by omega) (by omega)
  have z0 := y0
  by_cases g0 : v4 a0 1048576 < 0
  · rw [decide_eq_true g0]; exact ⟨rfl, rfl⟩
  · rw [decide_eq_false g0]
    have s0 := z0.2 (by omega)
    have y1 := sz5 a1 w1 (v4 a0 1048576) (by omega) (by have := z0.1; omega)
    have z1 := y1
    by_cases g1 : v5 a1 (v4 a0 1048576) < 0
    · rw [decide_eq_true g1]; exact ⟨rfl, rfl⟩
    · rw [decide_eq_false g1]
      have s1 := z1.2 (by omega)
      have t0_7 := to7 a0 s0
      have q0_11 := eq11 a0 s0
      have t1_8 := to8 a1 s1
      have e1_8 : v8 a1 = a1 := t1_8.2
      have q1_12 := eq12 a1 s1
      have m13 := mark13 a0.2.2.1 a0.2.2.2 1 a0.1 a0.2.1 (by omega) (by omega) s0.1.1 s0.2.1.1
      have m14 := mark14 (v13 a0.2.2.1 a0.2.2.2 1 a0.1 a0.2.1).1 a1 (by have := m13.2; omega) (by have := m13.2; omega) s1.1
      have k1 : decide ((v14 (v13 a0.2.2.1 a0.2.2.2 1 a0.1 a0.2.1).1 a1).1 < (0 : Int)) = false := decide_eq_false (by have := m13.2; have := m14.2; omega)
      have m := both a0 a1 s0.1.1 s1.1
      have q := same10 (v6 a0 a1) (v6 a0 a1) (by have := m.2.2.2; omega)
      have mi := markI 1 (v6 a0 a1) (by omega) (by omega) (by have := m.2.2.2; omega)
      have hi := heldI 1 (v6 a0 a1).length (by omega) (by omega) (by have := m.2.2.2; omega)
      simp only [t0_7.1, t0_7.2, pair_eta, q0_11.1, q0_11.2, t1_8.1, e1_8, q1_12.1, q1_12.2, m13.1, m14.1, k1, e3_0, e3_1, e3_2, e3_3, e3_4, e3_5, e3_6, e3_7, e3_8, e3_9, g3_0, c3_0, t3_0, m.1, m.2.1, m.2.2.1, q.1, q.2, mi.1, mi.2, hi.1, hi.2]
      simp <;> omega
end Go.Proofs.Ytakmjjikiefheaa.Vm
namespace Go.Proofs.Ytakmjjikiefheaa.Pure
open Go Go.Proofs.Ytakmjjikiefheaa.Lib Go.Proofs.Ytakmjjikiefheaa.Vm
theorem fnExactDeadlyIds : Go.Proofs.Ytakmjjikiefheaa.fnExactDeadlyIds.Pure := fun a0 a1 w0 w1 => by
  have h := law a0 a1 w0 w1
  show cond (d3 a0 a1) (some (f3 (v3 a0 a1))) none = _
  rw [h.1, h.2]
  rfl
end Go.Proofs.Ytakmjjikiefheaa.Pure
