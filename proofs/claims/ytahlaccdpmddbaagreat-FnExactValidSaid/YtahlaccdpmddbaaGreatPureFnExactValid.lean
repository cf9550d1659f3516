/- FnExactValid: the program and the reference answer alike. No condition. -/
import Derived.Test.YtahlaccdpmddbaaGreatVmRowFnExactValid
import Derived.Test.YtahlaccdpmddbaaGreatVmLibThree
namespace Go.Proofs.YtahlaccdpmddbaaGreat.Vm
open Go Go.Proofs.YtahlaccdpmddbaaGreat.Lib
set_option linter.unusedSimpArgs false
set_option linter.unusedVariables false
def SZ (r n : Int) (S : Prop) : Prop := r ≤ n ∧ (0 ≤ r → S)
theorem SZ.neg {n : Int} {S : Prop} (h0 : 0 ≤ n) : SZ (-1) n S := ⟨by omega, fun h => absurd h (by omega)⟩
theorem sz94 (x : List (Ty.T y63)) (ho : Ty.ok (.sl 210 y63) x) (n : Int) (h0 : 0 ≤ n) (h1 : n ≤ 1048576) : SZ (v94 x n) n (Ty.short (.sl 210 y63) x) := by
  have hl := ho.2
  unfold v94
  rw [wrap_in (by omega) (by omega)]
  by_cases h : n - (x.length : Int) < 0
  · rw [decide_eq_true h]; exact .neg h0
  · rw [decide_eq_false h]; exact ⟨show n - (x.length : Int) ≤ n by omega, fun _ => ⟨by omega, fun x _ => by simp [Ty.short]⟩⟩
theorem sz95 (x : List (Ty.T y190)) (ho : Ty.ok (.sl 212 y190) x) (n : Int) (h0 : 0 ≤ n) (h1 : n ≤ 1048576) : SZ (v95 x n) n (Ty.short (.sl 212 y190) x) := by
  have hl := ho.2
  unfold v95
  rw [wrap_in (by omega) (by omega)]
  by_cases h : n - (x.length : Int) < 0
  · rw [decide_eq_true h]; exact .neg h0
  · rw [decide_eq_false h]; exact ⟨show n - (x.length : Int) ≤ n by omega, fun _ => ⟨by omega, fun x _ => by simp [Ty.short]⟩⟩
theorem sz11 (x : Ty.T y24) (ho : Ty.ok y24 x) (n : Int) (h0 : 0 ≤ n) (h1 : n ≤ 1048576) : SZ (v11 x n) n (Ty.short y24 x) := by
  unfold v11
  have y0 := sz94 x.1 ho.1 n h0 h1
  have z0 := y0
  by_cases g0 : v94 x.1 n < 0
  · rw [decide_eq_true g0]; exact .neg h0
  · rw [decide_eq_false g0]
    have y1 := sz95 x.2.1 ho.2.1 (v94 x.1 n) (by omega) (by have := z0.1; omega)
    have z1 := y1
    by_cases g1 : v95 x.2.1 (v94 x.1 n) < 0
    · rw [decide_eq_true g1]; exact .neg h0
    · rw [decide_eq_false g1]
      exact ⟨show v95 x.2.1 (v94 x.1 n) ≤ n by have := z0.1; have := z1.1; omega, fun _ => ⟨(z0.2 (by omega)), ⟨(z1.2 (by omega)), (by simp [Ty.short])⟩⟩⟩
theorem sz108 (x : List (Ty.T y27)) (ho : Ty.ok (.sl 28 y27) x) (n : Int) (h0 : 0 ≤ n) (h1 : n ≤ 1048576) : SZ (v108 x n) n (Ty.short (.sl 28 y27) x) := by
  have hl := ho.2
  unfold v108
  rw [wrap_in (by omega) (by omega)]
  by_cases h : n - (x.length : Int) < 0
  · rw [decide_eq_true h]; exact .neg h0
  · rw [decide_eq_false h]; exact ⟨show n - (x.length : Int) ≤ n by omega, fun _ => ⟨by omega, fun x _ => by simp [Ty.short]⟩⟩
theorem sz193 (x : Ty.T y129) (ho : Ty.ok y129 x) (n : Int) (h0 : 0 ≤ n) (h1 : n ≤ 1048576) : SZ (v193 x n) n (Ty.short y129 x) := by
  unfold v193
  have y0 := sz108 x.2.2.2.2.2.2 ho.2.2.2.2.2.2 n h0 h1
  have z0 := y0
  by_cases g0 : v108 x.2.2.2.2.2.2 n < 0
  · rw [decide_eq_true g0]; exact .neg h0
  · rw [decide_eq_false g0]
    exact ⟨show v108 x.2.2.2.2.2.2 n ≤ n by have := z0.1; omega, fun _ => ⟨(by simp [Ty.short]), ⟨(by simp [Ty.short]), ⟨(by simp [Ty.short]), ⟨(by simp [Ty.short]), ⟨(by simp [Ty.short]), ⟨(by simp [Ty.short]), (z0.2 (by omega))⟩⟩⟩⟩⟩⟩⟩
theorem sz96 (x : Ty.T y131) (ho : Ty.ok y131 x) (n : Int) (h0 : 0 ≤ n) (h1 : n ≤ 1048576) : SZ (v96 x n) n (Ty.short y131 x) := by
  unfold v96
  have y0 := sz193 x.2.2.2.2.2.2.1 ho.2.2.2.2.2.2.1 n h0 h1
  have z0 := y0
  by_cases g0 : v193 x.2.2.2.2.2.2.1 n < 0
  · rw [decide_eq_true g0]; exact .neg h0
  · rw [decide_eq_false g0]
    exact ⟨show v193 x.2.2.2.2.2.2.1 n ≤ n by have := z0.1; omega, fun _ => ⟨(by simp [Ty.short]), ⟨(by simp [Ty.short]), ⟨(by simp [Ty.short]), ⟨(by simp [Ty.short]), ⟨(by simp [Ty.short]), ⟨(by simp [Ty.short]), ⟨(z0.2 (by omega)), (by simp [Ty.short])⟩⟩⟩⟩⟩⟩⟩⟩
theorem sz12 (xs : List (Ty.T y131)) (ho : Ty.ok (.sl 132 y131) xs) (n : Int) (h0 : 0 ≤ n) (h1 : n ≤ 1048576) : d12 xs n = true ∧ SZ (v12 xs n) n (Ty.short (.sl 132 y131) xs) := by
  have hl := ho.2
  unfold d12 v12
  rw [wrap_in (n := n - (xs.length : Int)) (by omega) (by omega)]
  by_cases h : n - (xs.length : Int) < 0
  · rw [decide_eq_true h]; exact ⟨rfl, .neg h0⟩
  · rw [decide_eq_false h]
    have key := sz_iter (s := s12_0) (mk := fun n r i => (xs, n, r, i, ())) (xs := xs) (g := v96) (S := Ty.short y131) (B := 1048576) (fun x hx n h0 h1 => sz96 x (ho.1 x hx) n h0 h1) (fun i x n r hn0 hn1 hx => by
      have hxm : x ∈ xs := List.mem_of_getElem? hx
      obtain ⟨hi, rfl⟩ := List.getElem?_eq_some_iff.1 hx
      skip
      simp [s12_0, t12_0, optC_some, hi,  wrap_nat (n := i) (by omega), Bool.cond_decide]) (fun n r => by simp [s12_0, t12_0]) xs.length 0 (n - (xs.length : Int)) 0 (n12_0 (xs, n - (xs.length : Int), 0, 0, ())) (by omega) (by simp [n12_0]; omega) (by omega) (by omega)
    rcases key with ⟨n', i', hk⟩ | ⟨n', hk, g0, g1, g2⟩
    · have e0 : k12_0 xs (n - (xs.length : Int)) 0 0 0 = true := at_of hk 0
      have ew : w12_0 xs (n - (xs.length : Int)) 0 0 = (xs, n', -1, i', ()) := val_of hk
      rw [e0, ew]
      exact ⟨rfl, .neg h0⟩
    · have e0 : k12_0 xs (n - (xs.length : Int)) 0 0 0 = false := at_of hk 0
      have e1 : k12_0 xs (n - (xs.length : Int)) 0 0 1 = true := at_of hk 1
      have ew : w12_0 xs (n - (xs.length : Int)) 0 0 = (xs, n', 0, (xs.length : Int), ()) := val_of hk
      rw [e0, e1, ew]
      refine ⟨rfl, ?_, fun _ => ⟨by omega, fun x hx => ?_⟩⟩
      · show n' ≤ n
        omega
      · obtain ⟨j, hj⟩ := List.getElem?_of_mem hx
        exact g2 j x (Nat.zero_le _) hj
theorem to195 (x : Ty.T y63) : v195 x = x := rfl
theorem to99 (xs : List (Ty.T y63)) (hs : Ty.short (.sl 210 y63) xs) : d99 xs = true ∧ v99 xs = xs := by
  have hb := hs.1
  have h : ∀ (n : Nat) (hn : xs.length < n) (out : List (Ty.T y63)) (ho : out.length = xs.length), iter s99_0 n (xs, [], 0, out, ()) = some (0, (xs, [], (xs.length : Int), xs, ())) := fun n hn out ho => by
    have := map_iter (s := s99_0) (mk := fun i o => (xs, [], i, o, ())) (xs := xs) (conv := fun x => x) (fun i out x hx hl => by
      obtain ⟨hi, rfl⟩ := List.getElem?_eq_some_iff.1 hx
      skip
      simp [s99_0, t99_0, optC_some, hi, hl, to195, wrap_nat (n := i) (by omega)]) (fun out hl => by simp [s99_0, t99_0]) xs.length 0 out n (by omega) ho hn
    simpa using this
  have h := h (n99_0 (xs, [], 0, (List.replicate ((xs.length : Int)).toNat (Ty.zero y63)), ())) (by simp [n99_0]; omega) (List.replicate ((xs.length : Int)).toNat (Ty.zero y63)) (by simp)
  have hk : k99_0 xs [] 0 (List.replicate ((xs.length : Int)).toNat (Ty.zero y63)) 0 = true := at_of h 0
  have hw : w99_0 xs [] 0 (List.replicate ((xs.length : Int)).toNat (Ty.zero y63)) = (xs, [], (xs.length : Int), xs, ()) := val_of h
  constructor
  · show (_ && (_ && (cond (k99_0 xs [] 0 (List.replicate ((xs.length : Int)).toNat (Ty.zero y63)) 0) true false))) = true
    rw [hk]
    simp
    omega
  · show cond (k99_0 xs [] 0 (List.replicate ((xs.length : Int)).toNat (Ty.zero y63)) 0) (w99_0 xs [] 0 (List.replicate ((xs.length : Int)).toNat (Ty.zero y63))).2.2.2.1 [] = xs
    rw [hk, hw]
    rfl
theorem to196 (x : Ty.T y190) : v196 x = x := rfl
theorem to100 (xs : List (Ty.T y190)) (hs : Ty.short (.sl 212 y190) xs) : d100 xs = true ∧ v100 xs = xs := by
  have hb := hs.1
  have h : ∀ (n : Nat) (hn : xs.length < n) (out : List (Ty.T y190)) (ho : out.length = xs.length), iter s100_0 n (xs, [], 0, out, ()) = some (0, (xs, [], (xs.length : Int), xs, ())) := fun n hn out ho => by
    have := map_iter (s := s100_0) (mk := fun i o => (xs, [], i, o, ())) (xs := xs) (conv := fun x => x) (fun i out x hx hl => by
      obtain ⟨hi, rfl⟩ := List.getElem?_eq_some_iff.1 hx
      skip
      simp [s100_0, t100_0, optC_some, hi, hl, to196, wrap_nat (n := i) (by omega)]) (fun out hl => by simp [s100_0, t100_0]) xs.length 0 out n (by omega) ho hn
    simpa using this
  have h := h (n100_0 (xs, [], 0, (List.replicate ((xs.length : Int)).toNat (Ty.zero y190)), ())) (by simp [n100_0]; omega) (List.replicate ((xs.length : Int)).toNat (Ty.zero y190)) (by simp)
  have hk : k100_0 xs [] 0 (List.replicate ((xs.length : Int)).toNat (Ty.zero y190)) 0 = true := at_of h 0
  have hw : w100_0 xs [] 0 (List.replicate ((xs.length : Int)).toNat (Ty.zero y190)) = (xs, [], (xs.length : Int), xs, ()) := val_of h
  constructor
  · show (_ && (_ && (cond (k100_0 xs [] 0 (List.replicate ((xs.length : Int)).toNat (Ty.zero y190)) 0) true false))) = true
    rw [hk]
    simp
    omega
  · show cond (k100_0 xs [] 0 (List.replicate ((xs.length : Int)).toNat (Ty.zero y190)) 0) (w100_0 xs [] 0 (List.replicate ((xs.length : Int)).toNat (Ty.zero y190))).2.2.2.1 [] = xs
    rw [hk, hw]
    rfl
theorem to15 (x : Ty.T y24) (hs : Ty.short y24 x) : d15 x = true ∧ v15 x = (x.2.2.1, x.2.2.2, x.1, x.2.1) := by
  have h0 := to99 x.1 hs.1
  have h1 := to100 x.2.1 hs.2.1
  unfold d15 v15
  rw [h0.1, h0.2, h1.1, h1.2]
  exact ⟨rfl, rfl⟩
theorem to197 (x : Ty.T y102) : v197 x = x := rfl
theorem to198 (x : Ty.T y104) : v198 x = x := rfl
theorem to17 (x : Ty.T y27) : v17 x = x := rfl
theorem to112 (xs : List (Ty.T y27)) (hs : Ty.short (.sl 28 y27) xs) : d112 xs = true ∧ v112 xs = xs := by
  have hb := hs.1
  have h : ∀ (n : Nat) (hn : xs.length < n) (out : List (Ty.T y27)) (ho : out.length = xs.length), iter s112_0 n (xs, [], 0, out, ()) = some (0, (xs, [], (xs.length : Int), xs, ())) := fun n hn out ho => by
    have := map_iter (s := s112_0) (mk := fun i o => (xs, [], i, o, ())) (xs := xs) (conv := fun x => x) (fun i out x hx hl => by
      obtain ⟨hi, rfl⟩ := List.getElem?_eq_some_iff.1 hx
      skip
      simp [s112_0, t112_0, optC_some, hi, hl, to17, wrap_nat (n := i) (by omega)]) (fun out hl => by simp [s112_0, t112_0]) xs.length 0 out n (by omega) ho hn
    simpa using this
  have h := h (n112_0 (xs, [], 0, (List.replicate ((xs.length : Int)).toNat (Ty.zero y27)), ())) (by simp [n112_0]; omega) (List.replicate ((xs.length : Int)).toNat (Ty.zero y27)) (by simp)
  have hk : k112_0 xs [] 0 (List.replicate ((xs.length : Int)).toNat (Ty.zero y27)) 0 = true := at_of h 0
  have hw : w112_0 xs [] 0 (List.replicate ((xs.length : Int)).toNat (Ty.zero y27)) = (xs, [], (xs.length : Int), xs, ()) := val_of h
  constructor
  · show (_ && (_ && (cond (k112_0 xs [] 0 (List.replicate ((xs.length : Int)).toNat (Ty.zero y27)) 0) true false))) = true
    rw [hk]
    simp
    omega
  · show cond (k112_0 xs [] 0 (List.replicate ((xs.length : Int)).toNat (Ty.zero y27)) 0) (w112_0 xs [] 0 (List.replicate ((xs.length : Int)).toNat (Ty.zero y27))).2.2.2.1 [] = xs
    rw [hk, hw]
    rfl
theorem to199 (x : Ty.T y129) (hs : Ty.short y129 x) : d199 x = true ∧ v199 x = (x.1, x.2.1, x.2.2.1, x.2.2.2.1, x.2.2.2.2.1, x.2.2.2.2.2.1, x.2.2.2.2.2.2) := by
  have h0 := to112 x.2.2.2.2.2.2 hs.2.2.2.2.2.2
  unfold d199 v199
  rw [h0.1, h0.2]
  exact ⟨rfl, rfl⟩
theorem to101 (x : Ty.T y131) (hs : Ty.short y131 x) : d101 x = true ∧ v101 x = (x.1, x.2.1, x.2.2.1, x.2.2.2.1, x.2.2.2.2.1, x.2.2.2.2.2.1, x.2.2.2.2.2.2.1.1, x.2.2.2.2.2.2.1.2.1, x.2.2.2.2.2.2.1.2.2.1, x.2.2.2.2.2.2.1.2.2.2.1, x.2.2.2.2.2.2.1.2.2.2.2.1, x.2.2.2.2.2.2.1.2.2.2.2.2.1, x.2.2.2.2.2.2.2.1, x.2.2.2.2.2.2.2.2, x.2.2.2.2.2.2.1.2.2.2.2.2.2) := by
  have h0 : True ∧ v197 x.2.2.2.2.1 = _ := ⟨trivial, to197 x.2.2.2.2.1⟩
  have h1 : True ∧ v198 x.2.2.2.2.2.1 = _ := ⟨trivial, to198 x.2.2.2.2.2.1⟩
  have h2 := to199 x.2.2.2.2.2.2.1 hs.2.2.2.2.2.2.1
  unfold d101 v101
  rw [h0.2, h1.2, h2.1, h2.2]
  exact ⟨rfl, rfl⟩
theorem to16 (xs : List (Ty.T y131)) (hs : Ty.short (.sl 132 y131) xs) : d16 xs = true ∧ v16 xs = xs := by
  have hb := hs.1
  have h : ∀ (n : Nat) (hn : xs.length < n) (out : List (Ty.T y108)) (ho : out.length = xs.length), iter s16_0 n (xs, [], 0, out, ()) = some (0, (xs, [], (xs.length : Int), xs, ())) := fun n hn out ho => by
    have := map_iter (s := s16_0) (mk := fun i o => (xs, [], i, o, ())) (xs := xs) (conv := fun x => x) (fun i out x hx hl => by
      obtain ⟨hi, rfl⟩ := List.getElem?_eq_some_iff.1 hx
      have h0 := to101 xs[i] (hs.2 _ (List.getElem_mem hi))
      simp [s16_0, t16_0, optC_some, hi, hl, h0.1, h0.2, wrap_nat (n := i) (by omega)]) (fun out hl => by simp [s16_0, t16_0]) xs.length 0 out n (by omega) ho hn
    simpa using this
  have h := h (n16_0 (xs, [], 0, (List.replicate ((xs.length : Int)).toNat (Ty.zero y108)), ())) (by simp [n16_0]; omega) (List.replicate ((xs.length : Int)).toNat (Ty.zero y108)) (by simp)
  have hk : k16_0 xs [] 0 (List.replicate ((xs.length : Int)).toNat (Ty.zero y108)) 0 = true := at_of h 0
  have hw : w16_0 xs [] 0 (List.replicate ((xs.length : Int)).toNat (Ty.zero y108)) = (xs, [], (xs.length : Int), xs, ()) := val_of h
  constructor
  · show (_ && (_ && (cond (k16_0 xs [] 0 (List.replicate ((xs.length : Int)).toNat (Ty.zero y108)) 0) true false))) = true
    rw [hk]
    simp
    omega
  · show cond (k16_0 xs [] 0 (List.replicate ((xs.length : Int)).toNat (Ty.zero y108)) 0) (w16_0 xs [] 0 (List.replicate ((xs.length : Int)).toNat (Ty.zero y108))).2.2.2.1 [] = xs
    rw [hk, hw]
    rfl
theorem eq202 (x : Ty.T y63) : v202 x x = true := by simp [v202]
theorem eq104 (xs : List (Ty.T y63)) (hs : Ty.short (.sl 64 y63) xs) : d104 xs xs = true ∧ v104 xs xs = true := by
  have hb := hs.1
  have h := all_iter (s := s104_0) (mk := fun i => (xs, xs, false, i, ())) (c := 1) (N := xs.length) (fun i hi => by
    skip
    simp [s104_0, t104_0, optC_some, hi, eq202, wrap_nat (n := i) (by omega)]) (by simp [s104_0, t104_0]) xs.length 0 (n104_0 (xs, xs, false, 0, ())) (by omega) (by simp [n104_0]; omega)
  have h0 : k104_0 xs xs false 0 0 = false := at_of h 0
  have h1 : k104_0 xs xs false 0 1 = true := at_of h 1
  unfold d104 v104
  rw [h0, h1]
  simp
theorem eq203 (x : Ty.T y190) : v203 x x = true := by simp [v203]
theorem eq105 (xs : List (Ty.T y190)) (hs : Ty.short (.sl 191 y190) xs) : d105 xs xs = true ∧ v105 xs xs = true := by
  have hb := hs.1
  have h := all_iter (s := s105_0) (mk := fun i => (xs, xs, false, i, ())) (c := 1) (N := xs.length) (fun i hi => by
    skip
    simp [s105_0, t105_0, optC_some, hi, eq203, wrap_nat (n := i) (by omega)]) (by simp [s105_0, t105_0]) xs.length 0 (n105_0 (xs, xs, false, 0, ())) (by omega) (by simp [n105_0]; omega)
  have h0 : k105_0 xs xs false 0 0 = false := at_of h 0
  have h1 : k105_0 xs xs false 0 1 = true := at_of h 1
  unfold d105 v105
  rw [h0, h1]
  simp
theorem eq20 (x : Ty.T y36) (hs : Ty.short y36 x) : d20 x x = true ∧ v20 x x = true := by
  have h0 := eq104 x.1 hs.1
  have h1 := eq105 x.2.1 hs.2.1
  unfold d20 v20
  rw [h0.1, h0.2, h1.1, h1.2]
  simp
theorem eq204 (x : Ty.T y102) : v204 x x = true := by simp [v204]
theorem eq205 (x : Ty.T y104) : v205 x x = true := by simp [v205]
theorem eq207 (x : Ty.T y27) : v207 x x = true := by simp [v207]
theorem eq114 (xs : List (Ty.T y27)) (hs : Ty.short (.sl 41 y27) xs) : d114 xs xs = true ∧ v114 xs xs = true := by
  have hb := hs.1
  have h := all_iter (s := s114_0) (mk := fun i => (xs, xs, false, i, ())) (c := 1) (N := xs.length) (fun i hi => by
    skip
    simp [s114_0, t114_0, optC_some, hi, eq207, wrap_nat (n := i) (by omega)]) (by simp [s114_0, t114_0]) xs.length 0 (n114_0 (xs, xs, false, 0, ())) (by omega) (by simp [n114_0]; omega)
  have h0 : k114_0 xs xs false 0 0 = false := at_of h 0
  have h1 : k114_0 xs xs false 0 1 = true := at_of h 1
  unfold d114 v114
  rw [h0, h1]
  simp
theorem eq206 (x : Ty.T y106) (hs : Ty.short y106 x) : d206 x x = true ∧ v206 x x = true := by
  have h0 := eq114 x.2.2.2.2.2.2 hs.2.2.2.2.2.2
  unfold d206 v206
  rw [h0.1, h0.2]
  simp
theorem eq106 (x : Ty.T y108) (hs : Ty.short y108 x) : d106 x x = true ∧ v106 x x = true := by
  have h2 := eq206 x.2.2.2.2.2.2.1 hs.2.2.2.2.2.2.1
  unfold d106 v106
  rw [h2.1, h2.2, eq204, eq205]
  simp
theorem eq21 (xs : List (Ty.T y108)) (hs : Ty.short (.sl 109 y108) xs) : d21 xs xs = true ∧ v21 xs xs = true := by
  have hb := hs.1
  have h := all_iter (s := s21_0) (mk := fun i => (xs, xs, false, i, ())) (c := 1) (N := xs.length) (fun i hi => by
    have h0 := eq106 xs[i] (hs.2 _ (List.getElem_mem hi))
    simp [s21_0, t21_0, optC_some, hi, h0.1, h0.2, wrap_nat (n := i) (by omega)]) (by simp [s21_0, t21_0]) xs.length 0 (n21_0 (xs, xs, false, 0, ())) (by omega) (by simp [n21_0]; omega)
  have h0 : k21_0 xs xs false 0 0 = false := at_of h 0
  have h1 : k21_0 xs xs false 0 1 = true := at_of h 1
  unfold d21 v21
  rw [h0, h1]
  simp
theorem sz97 (x : Ty.T y134) (ho : Ty.ok y134 x) (n : Int) (h0 : 0 ≤ n) (h1 : n ≤ 1048576) : SZ (v97 x n) n (Ty.short y134 x) := by
  unfold v97
  have y0 := sz108 x.2.2.2.2.2.1 ho.2.2.2.2.2.1 n h0 h1
  have z0 := y0
  by_cases g0 : v108 x.2.2.2.2.2.1 n < 0
  · rw [decide_eq_true g0]; exact .neg h0
  · rw [decide_eq_false g0]
    exact ⟨show v108 x.2.2.2.2.2.1 n ≤ n by have := z0.1; omega, fun _ => ⟨(by simp [Ty.short]), ⟨(by simp [Ty.short]), ⟨(by simp [Ty.short]), ⟨(by simp [Ty.short]), ⟨(by simp [Ty.short]), ⟨(z0.2 (by omega)), (by simp [Ty.short])⟩⟩⟩⟩⟩⟩⟩
theorem sz13 (xs : List (Ty.T y134)) (ho : Ty.ok (.sl 135 y134) xs) (n : Int) (h0 : 0 ≤ n) (h1 : n ≤ 1048576) : d13 xs n = true ∧ SZ (v13 xs n) n (Ty.short (.sl 135 y134) xs) := by
  have hl := ho.2
  unfold d13 v13
  rw [wrap_in (n := n - (xs.length : Int)) (by omega) (by omega)]
  by_cases h : n - (xs.length : Int) < 0
  · rw [decide_eq_true h]; exact ⟨rfl, .neg h0⟩
  · rw [decide_eq_false h]
    have key := sz_iter (s := s13_0) (mk := fun n r i => (xs, n, r, i, ())) (xs := xs) (g := v97) (S := Ty.short y134) (B := 1048576) (fun x hx n h0 h1 => sz97 x (ho.1 x hx) n h0 h1) (fun i x n r hn0 hn1 hx => by
      have hxm : x ∈ xs := List.mem_of_getElem? hx
      obtain ⟨hi, rfl⟩ := List.getElem?_eq_some_iff.1 hx
      skip
      simp [s13_0, t13_0, optC_some, hi,  wrap_nat (n := i) (by omega), Bool.cond_decide]) (fun n r => by simp [s13_0, t13_0]) xs.length 0 (n - (xs.length : Int)) 0 (n13_0 (xs, n - (xs.length : Int), 0, 0, ())) (by omega) (by simp [n13_0]; omega) (by omega) (by omega)
    rcases key with ⟨n', i', hk⟩ | ⟨n', hk, g0, g1, g2⟩
    · have e0 : k13_0 xs (n - (xs.length : Int)) 0 0 0 = true := at_of hk 0
      have ew : w13_0 xs (n - (xs.length : Int)) 0 0 = (xs, n', -1, i', ()) := val_of hk
      rw [e0, ew]
      exact ⟨rfl, .neg h0⟩
    · have e0 : k13_0 xs (n - (xs.length : Int)) 0 0 0 = false := at_of hk 0
      have e1 : k13_0 xs (n - (xs.length : Int)) 0 0 1 = true := at_of hk 1
      have ew : w13_0 xs (n - (xs.length : Int)) 0 0 = (xs, n', 0, (xs.length : Int), ()) := val_of hk
      rw [e0, e1, ew]
      refine ⟨rfl, ?_, fun _ => ⟨by omega, fun x hx => ?_⟩⟩
      · show n' ≤ n
        omega
      · obtain ⟨j, hj⟩ := List.getElem?_of_mem hx
        exact g2 j x (Nat.zero_le _) hj
theorem sz109 (x : List (Ty.T (.int .i64))) (ho : Ty.ok (.sl 3 (.int .i64)) x) (n : Int) (h0 : 0 ≤ n) (h1 : n ≤ 1048576) : SZ (v109 x n) n (Ty.short (.sl 3 (.int .i64)) x) := by
  have hl := ho.2
  unfold v109
  rw [wrap_in (by omega) (by omega)]
  by_cases h : n - (x.length : Int) < 0
  · rw [decide_eq_true h]; exact .neg h0
  · rw [decide_eq_false h]; exact ⟨show n - (x.length : Int) ≤ n by omega, fun _ => ⟨by omega, fun x _ => by simp [Ty.short]⟩⟩
theorem sz23 (x : Ty.T y51) (ho : Ty.ok y51 x) (n : Int) (h0 : 0 ≤ n) (h1 : n ≤ 1048576) : d23 x n = true ∧ SZ (v23 x n) n (Ty.short y51 x) := by
  unfold d23 v23
  have y0 := sz108 x.1 ho.1 n h0 h1
  have z0 := y0
  by_cases g0 : v108 x.1 n < 0
  · rw [decide_eq_true g0]; exact ⟨rfl, .neg h0⟩
  · rw [decide_eq_false g0]
    have y1 := sz12 x.2.1 ho.2.1 (v108 x.1 n) (by omega) (by have := z0.1; omega)
    rw [y1.1]
    have z1 := y1.2
    by_cases g1 : v12 x.2.1 (v108 x.1 n) < 0
    · rw [decide_eq_true g1]; exact ⟨rfl, .neg h0⟩
    · rw [decide_eq_false g1]
      have y2 := sz109 x.2.2.1 ho.2.2.1 (v12 x.2.1 (v108 x.1 n)) (by omega) (by have := z0.1; have := z1.1; omega)
      have z2 := y2
      by_cases g2 : v109 x.2.2.1 (v12 x.2.1 (v108 x.1 n)) < 0
      · rw [decide_eq_true g2]; exact ⟨rfl, .neg h0⟩
      · rw [decide_eq_false g2]
        have y3 := sz13 x.2.2.2 ho.2.2.2 (v109 x.2.2.1 (v12 x.2.1 (v108 x.1 n))) (by omega) (by have := z0.1; have := z1.1; have := z2.1; omega)
        rw [y3.1]
        have z3 := y3.2
        by_cases g3 : v13 x.2.2.2 (v109 x.2.2.1 (v12 x.2.1 (v108 x.1 n))) < 0
        · rw [decide_eq_true g3]; exact ⟨rfl, .neg h0⟩
        · rw [decide_eq_false g3]
          exact ⟨rfl, ⟨show v13 x.2.2.2 (v109 x.2.2.1 (v12 x.2.1 (v108 x.1 n))) ≤ n by have := z0.1; have := z1.1; have := z2.1; have := z3.1; omega, fun _ => ⟨(z0.2 (by omega)), ⟨(z1.2 (by omega)), ⟨(z2.2 (by omega)), (z3.2 (by omega))⟩⟩⟩⟩⟩
theorem to113 (xs : List (Int)) (hs : Ty.short (.sl 3 (.int .i64)) xs) : d113 xs = true ∧ v113 xs = xs := by
  have hb := hs.1
  have h : ∀ (n : Nat) (hn : xs.length < n) (out : List (Int)) (ho : out.length = xs.length), iter s113_0 n (xs, [], 0, out, ()) = some (0, (xs, [], (xs.length : Int), xs, ())) := fun n hn out ho => by
    have := map_iter (s := s113_0) (mk := fun i o => (xs, [], i, o, ())) (xs := xs) (conv := fun x => x) (fun i out x hx hl => by
      obtain ⟨hi, rfl⟩ := List.getElem?_eq_some_iff.1 hx
      skip
      simp [s113_0, t113_0, optC_some, hi, hl,  wrap_nat (n := i) (by omega)]) (fun out hl => by simp [s113_0, t113_0]) xs.length 0 out n (by omega) ho hn
    simpa using this
  have h := h (n113_0 (xs, [], 0, (List.replicate ((xs.length : Int)).toNat (Ty.zero (.int .i64))), ())) (by simp [n113_0]; omega) (List.replicate ((xs.length : Int)).toNat (Ty.zero (.int .i64))) (by simp)
  have hk : k113_0 xs [] 0 (List.replicate ((xs.length : Int)).toNat (Ty.zero (.int .i64))) 0 = true := at_of h 0
  have hw : w113_0 xs [] 0 (List.replicate ((xs.length : Int)).toNat (Ty.zero (.int .i64))) = (xs, [], (xs.length : Int), xs, ()) := val_of h
  constructor
  · show (_ && (_ && (cond (k113_0 xs [] 0 (List.replicate ((xs.length : Int)).toNat (Ty.zero (.int .i64))) 0) true false))) = true
    rw [hk]
    simp
    omega
  · show cond (k113_0 xs [] 0 (List.replicate ((xs.length : Int)).toNat (Ty.zero (.int .i64))) 0) (w113_0 xs [] 0 (List.replicate ((xs.length : Int)).toNat (Ty.zero (.int .i64)))).2.2.2.1 [] = xs
    rw [hk, hw]
    rfl
theorem to102 (x : Ty.T y134) (hs : Ty.short y134 x) : d102 x = true ∧ v102 x = (x.1, x.2.1, x.2.2.1, x.2.2.2.1, x.2.2.2.2.1, x.2.2.2.2.2.2.1, x.2.2.2.2.2.2.2, x.2.2.2.2.2.1) := by
  have h0 : True ∧ v17 x.2.2.2.2.1 = _ := ⟨trivial, to17 x.2.2.2.2.1⟩
  have h1 := to112 x.2.2.2.2.2.1 hs.2.2.2.2.2.1
  unfold d102 v102
  rw [h0.2, h1.1, h1.2]
  exact ⟨rfl, rfl⟩
theorem to18 (xs : List (Ty.T y134)) (hs : Ty.short (.sl 135 y134) xs) : d18 xs = true ∧ v18 xs = xs := by
  have hb := hs.1
  have h : ∀ (n : Nat) (hn : xs.length < n) (out : List (Ty.T y66)) (ho : out.length = xs.length), iter s18_0 n (xs, [], 0, out, ()) = some (0, (xs, [], (xs.length : Int), xs, ())) := fun n hn out ho => by
    have := map_iter (s := s18_0) (mk := fun i o => (xs, [], i, o, ())) (xs := xs) (conv := fun x => x) (fun i out x hx hl => by
      obtain ⟨hi, rfl⟩ := List.getElem?_eq_some_iff.1 hx
      have h0 := to102 xs[i] (hs.2 _ (List.getElem_mem hi))
      simp [s18_0, t18_0, optC_some, hi, hl, h0.1, h0.2, wrap_nat (n := i) (by omega)]) (fun out hl => by simp [s18_0, t18_0]) xs.length 0 out n (by omega) ho hn
    simpa using this
  have h := h (n18_0 (xs, [], 0, (List.replicate ((xs.length : Int)).toNat (Ty.zero y66)), ())) (by simp [n18_0]; omega) (List.replicate ((xs.length : Int)).toNat (Ty.zero y66)) (by simp)
  have hk : k18_0 xs [] 0 (List.replicate ((xs.length : Int)).toNat (Ty.zero y66)) 0 = true := at_of h 0
  have hw : w18_0 xs [] 0 (List.replicate ((xs.length : Int)).toNat (Ty.zero y66)) = (xs, [], (xs.length : Int), xs, ()) := val_of h
  constructor
  · show (_ && (_ && (cond (k18_0 xs [] 0 (List.replicate ((xs.length : Int)).toNat (Ty.zero y66)) 0) true false))) = true
    rw [hk]
    simp
    omega
  · show cond (k18_0 xs [] 0 (List.replicate ((xs.length : Int)).toNat (Ty.zero y66)) 0) (w18_0 xs [] 0 (List.replicate ((xs.length : Int)).toNat (Ty.zero y66))).2.2.2.1 [] = xs
    rw [hk, hw]
    rfl
theorem to25 (x : Ty.T y51) (hs : Ty.short y51 x) : d25 x = true ∧ v25 x = (x.1, x.2.1, x.2.2.1, x.2.2.2) := by
  have h0 := to112 x.1 hs.1
  have h1 := to16 x.2.1 hs.2.1
  have h2 := to113 x.2.2.1 hs.2.2.1
  have h3 := to18 x.2.2.2 hs.2.2.2
  unfold d25 v25
  rw [h0.1, h0.2, h1.1, h1.2, h2.1, h2.2, h3.1, h3.2]
  exact ⟨rfl, rfl⟩
theorem eq107 (x : Ty.T y66) (hs : Ty.short y66 x) : d107 x x = true ∧ v107 x x = true := by
  have h1 := eq114 x.2.2.2.2.2.1 hs.2.2.2.2.2.1
  unfold d107 v107
  rw [h1.1, h1.2, eq207]
  simp
theorem eq22 (xs : List (Ty.T y66)) (hs : Ty.short (.sl 67 y66) xs) : d22 xs xs = true ∧ v22 xs xs = true := by
  have hb := hs.1
  have h := all_iter (s := s22_0) (mk := fun i => (xs, xs, false, i, ())) (c := 1) (N := xs.length) (fun i hi => by
    have h0 := eq107 xs[i] (hs.2 _ (List.getElem_mem hi))
    simp [s22_0, t22_0, optC_some, hi, h0.1, h0.2, wrap_nat (n := i) (by omega)]) (by simp [s22_0, t22_0]) xs.length 0 (n22_0 (xs, xs, false, 0, ())) (by omega) (by simp [n22_0]; omega)
  have h0 : k22_0 xs xs false 0 0 = false := at_of h 0
  have h1 : k22_0 xs xs false 0 1 = true := at_of h 1
  unfold d22 v22
  rw [h0, h1]
  simp
theorem eq115 (xs : List (Int)) (hs : Ty.short (.sl 3 (.int .i64)) xs) : d115 xs xs = true ∧ v115 xs xs = true := by
  have hb := hs.1
  have h := all_iter (s := s115_0) (mk := fun i => (xs, xs, false, i, ())) (c := 1) (N := xs.length) (fun i hi => by
    skip
    simp [s115_0, t115_0, optC_some, hi,  wrap_nat (n := i) (by omega)]) (by simp [s115_0, t115_0]) xs.length 0 (n115_0 (xs, xs, false, 0, ())) (by omega) (by simp [n115_0]; omega)
  have h0 : k115_0 xs xs false 0 0 = false := at_of h 0
  have h1 : k115_0 xs xs false 0 1 = true := at_of h 1
  unfold d115 v115
  rw [h0, h1]
  simp
theorem eq27 (x : Ty.T y56) (hs : Ty.short y56 x) : d27 x x = true ∧ v27 x x = true := by
  have h0 := eq114 x.1 hs.1
  have h1 := eq21 x.2.1 hs.2.1
  have h2 := eq115 x.2.2.1 hs.2.2.1
  have h3 := eq22 x.2.2.2 hs.2.2.2
  unfold d27 v27
  rw [h0.1, h0.2, h1.1, h1.2, h2.1, h2.2, h3.1, h3.2]
  simp
theorem evOk' (a : Int) (b : Int) (c : Int) (d : Int) (n : Int) (z : Int) (t : Bool) : v53 ((a, b, c, d, n, z, t) : Ty.T y27) = v157 ((a, b, c, d, n, z, t) : Ty.T y27) := by
  simp only [v53, t53, v157, t157, v239, v165, v159, v160, v161, v164, v162, v163]
  dsimp only [Ty.T]
  have cc : ∀ (p q r : Bool), cond p q r = true ↔ (p = true ∧ q = true) ∨ (p = false ∧ r = true) := by decide
  have cf : ∀ (p q r : Bool), cond p q r = false ↔ (p = true ∧ q = false) ∨ (p = false ∧ r = false) := by decide
  by_cases h1 : a = 1
  · subst h1; rw [Bool.eq_iff_iff]; cases t <;> simp [cc, cf, *] <;> omega
  by_cases h2 : a = 2
  · subst h2; rw [Bool.eq_iff_iff]; cases t <;> simp [cc, cf, *] <;> omega
  by_cases h3 : a = 3
  · subst h3; rw [Bool.eq_iff_iff]; cases t <;> simp [cc, cf, *] <;> omega
  by_cases h4 : a = 4
  · subst h4; rw [Bool.eq_iff_iff]; cases t <;> simp [cc, cf, *] <;> omega
  by_cases h5 : a = 5
  · subst h5; rw [Bool.eq_iff_iff]; cases t <;> simp [cc, cf, *] <;> omega
  by_cases h6 : a = 6
  · subst h6; rw [Bool.eq_iff_iff]; cases t <;> simp [cc, cf, *] <;> omega
  rw [Bool.eq_iff_iff]; cases t <;> simp [cc, cf, *] <;> omega
theorem evOk (e : Ty.T y27) : v53 e = v157 e := by
  obtain ⟨a, b, c, d, n, z, t⟩ := e
  exact evOk' a b c d n z t
theorem evNo' (a b c d z : Int) (t : Bool) : v157 ((a, b, c, d, -1, z, t) : Ty.T y27) = false := by
  simp only [v157, t157, v239]
  dsimp only [Ty.T]
  have cc : ∀ (p q r : Bool), cond p q r = true ↔ (p = true ∧ q = true) ∨ (p = false ∧ r = true) := by decide
  have cf : ∀ (p q r : Bool), cond p q r = false ↔ (p = true ∧ q = false) ∨ (p = false ∧ r = false) := by decide
  cases t <;> simp [cc, cf]
theorem partOk (e : Ty.T y27) : v322 e = v328 e := by
  obtain ⟨a, b, c, d, n, z, t⟩ := e
  have h := evNo' a b c d z t
  simp only [v322, v328, evOk]
  by_cases hn : n = (-1 : Int)
  · subst hn
    rw [h]
    cases (a == (2 : Int)) <;> simp [bne, *]
  · have h1 : (n == (-1 : Int)) = false := by simpa using hn
    simp only [h1]
    cases (v157 (a, b, c, d, n, z, t)) <;> cases (a == (2 : Int)) <;> simp [bne, *]
theorem patOk' (k : Int) (w : Int) (s : Int) (p : Int) (l : Int) (t : Int) (z : Int) : v283 ((k, w, s, p, l, t, z) : Ty.T y102) = v297 ((k, w, s, p, l, t, z) : Ty.T y102) := by
  simp only [v283, t283, v297, t297, v239, v165, v159, v320, v250]
  dsimp only [Ty.T]
  have cc : ∀ (p q r : Bool), cond p q r = true ↔ (p = true ∧ q = true) ∨ (p = false ∧ r = true) := by decide
  have cf : ∀ (p q r : Bool), cond p q r = false ↔ (p = true ∧ q = false) ∨ (p = false ∧ r = false) := by decide
  by_cases h1 : k = 1
  · subst h1; rw [Bool.eq_iff_iff]; simp [cc, cf, *] <;> omega
  by_cases h2 : k = 2
  · subst h2; rw [Bool.eq_iff_iff]; simp [cc, cf, *] <;> omega
  by_cases h3 : k = 3
  · subst h3; rw [Bool.eq_iff_iff]; simp [cc, cf, *] <;> omega
  by_cases h4 : k = 4
  · subst h4; rw [Bool.eq_iff_iff]; simp [cc, cf, *] <;> omega
  by_cases h5 : k = 5
  · subst h5; rw [Bool.eq_iff_iff]; simp [cc, cf, *] <;> omega
  by_cases h6 : k = 6
  · subst h6; rw [Bool.eq_iff_iff]; simp [cc, cf, *] <;> omega
  rw [Bool.eq_iff_iff]; simp [cc, cf, *] <;> omega
theorem patOk (e : Ty.T y102) : v283 e = v297 e := by
  obtain ⟨k, w, s, p, l, t, z⟩ := e
  exact patOk' k w s p l t z
theorem guardOk' (k : Int) (n : Int) : v284 ((k, n) : Ty.T y104) = v298 ((k, n) : Ty.T y104) := by
  simp only [v284, t284, v298, t298, v239, v165, v173]
  dsimp only [Ty.T]
  have cc : ∀ (p q r : Bool), cond p q r = true ↔ (p = true ∧ q = true) ∨ (p = false ∧ r = true) := by decide
  have cf : ∀ (p q r : Bool), cond p q r = false ↔ (p = true ∧ q = false) ∨ (p = false ∧ r = false) := by decide
  by_cases h0 : k = 0
  · subst h0; rw [Bool.eq_iff_iff]; simp [cc, cf, *] <;> omega
  by_cases h1 : k = 1
  · subst h1; rw [Bool.eq_iff_iff]; simp [cc, cf, *] <;> omega
  by_cases h2 : k = 2
  · subst h2; rw [Bool.eq_iff_iff]; simp [cc, cf, *] <;> omega
  by_cases h3 : k = 3
  · subst h3; rw [Bool.eq_iff_iff]; simp [cc, cf, *] <;> omega
  by_cases h4 : k = 4
  · subst h4; rw [Bool.eq_iff_iff]; simp [cc, cf, *] <;> omega
  by_cases h5 : k = 5
  · subst h5; rw [Bool.eq_iff_iff]; simp [cc, cf, *] <;> omega
  rw [Bool.eq_iff_iff]; simp [cc, cf, *] <;> omega
theorem guardOk (e : Ty.T y104) : v284 e = v298 e := by
  obtain ⟨k, n⟩ := e
  exact guardOk' k n
theorem specAct (a : Ty.T y106) (hb : a.2.2.2.2.2.2.length ≤ 1048576) : (a.2.2.2.2.2.2.any (fun x => !v328 x) = true ∧ k299_6 false 0 a 0 = true ∧ ∃ j : Nat, w299_6 false 0 a = (false, (j : Int), a, ())) ∨ (a.2.2.2.2.2.2.any (fun x => !v328 x) = false ∧ k299_6 false 0 a 0 = false ∧ k299_6 false 0 a 1 = true ∧ w299_6 false 0 a = (false, (a.2.2.2.2.2.2.length : Int), a, ())) := by
  have h := find_iter (s := s299_6) (mk := fun i => (false, i, a, ())) (fin := fun i => (false, (i : Int), a, ())) (p := fun i => match a.2.2.2.2.2.2[i]? with | some x => !v328 x | none => false) (N := a.2.2.2.2.2.2.length) (fun i hi => by
    have h1 := List.getElem?_eq_getElem hi
    simp only [h1]
    skip
    cases ht : (v328 a.2.2.2.2.2.2[i] : Bool) <;> simp [s299_6, t299_6, optC_some, hi, h1, ht,  wrap_nat (n := i) (by omega)]) (by simp [s299_6, t299_6]) a.2.2.2.2.2.2.length 0 (n299_6 (false, 0, a, ())) (by omega) (by simp only [n299_6]; omega)
  have hf := first_any (p := fun x => !v328 x) (xs := a.2.2.2.2.2.2) (q := fun i => match a.2.2.2.2.2.2[i]? with | some x => !v328 x | none => false) (fun i x h1 => by simp only [h1])
  revert h hf
  generalize first _ 0 a.2.2.2.2.2.2.length = o
  intro h hf
  cases o with
  | none => exact .inr ⟨hf.symm, at_of h 0, at_of h 1, val_of h⟩
  | some j => exact .inl ⟨hf.symm, at_of h 0, j, val_of h⟩
theorem implAct' (l : List (Ty.T y27)) (hb : l.length ≤ 1048576) : (l.any (fun x => !v328 x) = true ∧ k249c1_0 l 0 ((l).length : Int) 0 0 = true ∧ ∃ j : Nat, w249c1_0 l 0 ((l).length : Int) 0 = (l, (j : Int), ((l).length : Int), (j : Int), ())) ∨ (l.any (fun x => !v328 x) = false ∧ k249c1_0 l 0 ((l).length : Int) 0 0 = false ∧ k249c1_0 l 0 ((l).length : Int) 0 1 = true ∧ w249c1_0 l 0 ((l).length : Int) 0 = (l, 0, ((l).length : Int), (l.length : Int), ())) := by
  have h := find_iter (s := s249c1_0) (mk := fun i => (l, 0, ((l).length : Int), i, ())) (fin := fun i => (l, (i : Int), ((l).length : Int), (i : Int), ())) (p := fun i => match l[i]? with | some x => !v328 x | none => false) (N := l.length) (fun i hi => by
    have h1 := List.getElem?_eq_getElem hi
    simp only [h1]
    skip
    cases ht : (v328 l[i] : Bool) <;> simp [s249c1_0, t249c1_0, optC_some, hi, h1, ht, v321, partOk, wrap_nat (n := i) (by omega)]) (by simp [s249c1_0, t249c1_0]) l.length 0 (n249c1_0 (l, 0, ((l).length : Int), 0, ())) (by omega) (by simp only [n249c1_0]; omega)
  have hf := first_any (p := fun x => !v328 x) (xs := l) (q := fun i => match l[i]? with | some x => !v328 x | none => false) (fun i x h1 => by simp only [h1])
  revert h hf
  generalize first _ 0 l.length = o
  intro h hf
  cases o with
  | none => exact .inr ⟨hf.symm, at_of h 0, at_of h 1, val_of h⟩
  | some j => exact .inl ⟨hf.symm, at_of h 0, j, val_of h⟩
theorem implAct (l : List (Ty.T y27)) (hb : l.length ≤ 1048576) : d166c1 l = true ∧ v166c1 l = l.any (fun x => !v328 x) := by
  unfold d166c1 v166c1 d249c1 v249c1
  rcases implAct' l hb with ⟨hB, e0, j, hw⟩ | ⟨hB, e0, e1, hw⟩
  · rw [e0, hw, hB]
    exact ⟨rfl, decide_eq_true (show ((j : Int)) ≥ 0 by omega)⟩
  · rw [e0, e1, hB]
    exact ⟨rfl, rfl⟩
theorem actFits' (k n p s z kind : Int) (b : Bool) (l : List (Ty.T y27)) : v286 ((k, n, p, s, z, b, l) : Ty.T y106) kind = v271 ((k, n, p, s, z, b, l) : Ty.T y106) kind := by
  simp only [v286, t286, v271, t271, v239, v165, v320]
  dsimp only [Ty.T]
  have cc : ∀ (p q r : Bool), cond p q r = true ↔ (p = true ∧ q = true) ∨ (p = false ∧ r = true) := by decide
  have cf : ∀ (p q r : Bool), cond p q r = false ↔ (p = true ∧ q = false) ∨ (p = false ∧ r = false) := by decide
  by_cases h1 : k = 1
  · subst h1; rw [Bool.eq_iff_iff]; simp [cc, cf] <;> omega
  by_cases h2 : k = 2
  · subst h2; rw [Bool.eq_iff_iff]; simp [cc, cf] <;> omega
  by_cases h3 : k = 3
  · subst h3; rw [Bool.eq_iff_iff]; simp [cc, cf] <;> omega
  by_cases h4 : k = 4
  · subst h4; rw [Bool.eq_iff_iff]; simp [cc, cf] <;> omega
  by_cases h5 : k = 5
  · subst h5; rw [Bool.eq_iff_iff]; simp [cc, cf] <;> omega
  by_cases h6 : k = 6
  · subst h6; rw [Bool.eq_iff_iff]; simp [cc, cf] <;> omega
  by_cases h7 : k = 7
  · subst h7; rw [Bool.eq_iff_iff]; simp [cc, cf] <;> omega
  by_cases h8 : k = 8
  · subst h8; rw [Bool.eq_iff_iff]; simp [cc, cf] <;> omega
  by_cases h9 : k = 9
  · subst h9; rw [Bool.eq_iff_iff]; simp [cc, cf] <;> omega
  rw [Bool.eq_iff_iff]; simp [cc, cf, *] <;> omega
theorem actFits (a : Ty.T y106) (kind : Int) : v286 a kind = v271 a kind := by
  obtain ⟨k, n, p, s, z, b, l⟩ := a
  exact actFits' k n p s z kind b l
theorem actOk' (k n p s z : Int) (b : Bool) (l : List (Ty.T y27)) (hb : l.length ≤ 1048576) : d299 ((k, n, p, s, z, b, l) : Ty.T y106) = true ∧ d285 ((k, n, p, s, z, b, l) : Ty.T y106) = true ∧ v285 ((k, n, p, s, z, b, l) : Ty.T y106) = v299 ((k, n, p, s, z, b, l) : Ty.T y106) := by
  have hi := implAct l hb
  have hs := specAct ((k, n, p, s, z, b, l) : Ty.T y106) hb
  dsimp only at hs
  have cc : ∀ (p q r : Bool), cond p q r = true ↔ (p = true ∧ q = true) ∨ (p = false ∧ r = true) := by decide
  have cf : ∀ (p q r : Bool), cond p q r = false ↔ (p = true ∧ q = false) ∨ (p = false ∧ r = false) := by decide
  rcases hs with ⟨hB, e0, j, hw⟩ | ⟨hB, e0, e1, hw⟩
  · simp only [d299, t299, d285, t285, v299, v285, c299_0, t299_0, c299_1, t299_1, c299_2, t299_2, c299_3, t299_3, c299_4, t299_4, c299_5, t299_5, c299_7, t299_7, c285_0, t285_0, c285_1, t285_1, c285_2, t285_2, c285_3, t285_3, g285_3, id, getD_cond, isSome_cond, getD_sm, getD_no, isSome_sm, isSome_no, getD_opt, isSome_opt, isSome_ite, isSome_ifz, v327, v239, v165, v160, v164, v163, hi.1, hi.2, hB, e0, hw]
    dsimp only [Ty.T]
    have hl : 0 ≤ (List.length (α := Ty.T y27) l : Int) := by omega
    generalize (List.length (α := Ty.T y27) l : Int) = m at hl
    by_cases h1 : k = 1
    · subst h1; refine ⟨by simp, by simp, ?_⟩; rw [Bool.eq_iff_iff]; cases b <;> simp [cc, cf, *] <;> omega
    by_cases h2 : k = 2
    · subst h2; refine ⟨by simp, by simp, ?_⟩; rw [Bool.eq_iff_iff]; cases b <;> simp [cc, cf, *] <;> omega
    by_cases h3 : k = 3
    · subst h3; refine ⟨by simp, by simp, ?_⟩; rw [Bool.eq_iff_iff]; cases b <;> simp [cc, cf, *] <;> omega
    by_cases h4 : k = 4
    · subst h4; refine ⟨by simp, by simp, ?_⟩; rw [Bool.eq_iff_iff]; cases b <;> simp [cc, cf, *] <;> omega
    by_cases h5 : k = 5
    · subst h5; refine ⟨by simp, by simp, ?_⟩; rw [Bool.eq_iff_iff]; cases b <;> simp [cc, cf, *] <;> omega
    by_cases h6 : k = 6
    · subst h6; refine ⟨by simp, by simp, ?_⟩; rw [Bool.eq_iff_iff]; cases b <;> simp [cc, cf, *] <;> omega
    by_cases h7 : k = 7
    · subst h7; refine ⟨by simp, by simp, ?_⟩; rw [Bool.eq_iff_iff]; cases b <;> simp [cc, cf, *] <;> omega
    by_cases h8 : k = 8
    · subst h8; refine ⟨by simp, by simp, ?_⟩; rw [Bool.eq_iff_iff]; cases b <;> simp [cc, cf, *] <;> omega
    by_cases h9 : k = 9
    · subst h9; refine ⟨by simp, by simp, ?_⟩; rw [Bool.eq_iff_iff]; cases b <;> simp [cc, cf, *] <;> omega
    refine ⟨by simp [*], by simp [*], ?_⟩; rw [Bool.eq_iff_iff]; cases b <;> simp [cc, cf, *] <;> omega
  · simp only [d299, t299, d285, t285, v299, v285, c299_0, t299_0, c299_1, t299_1, c299_2, t299_2, c299_3, t299_3, c299_4, t299_4, c299_5, t299_5, c299_7, t299_7, c285_0, t285_0, c285_1, t285_1, c285_2, t285_2, c285_3, t285_3, g285_3, id, getD_cond, isSome_cond, getD_sm, getD_no, isSome_sm, isSome_no, getD_opt, isSome_opt, isSome_ite, isSome_ifz, v327, v239, v165, v160, v164, v163, hi.1, hi.2, hB, e0, e1, hw]
    dsimp only [Ty.T]
    have hl : 0 ≤ (List.length (α := Ty.T y27) l : Int) := by omega
    generalize (List.length (α := Ty.T y27) l : Int) = m at hl
    by_cases h1 : k = 1
    · subst h1; refine ⟨by simp, by simp, ?_⟩; rw [Bool.eq_iff_iff]; cases b <;> simp [cc, cf, *] <;> omega
    by_cases h2 : k = 2
    · subst h2; refine ⟨by simp, by simp, ?_⟩; rw [Bool.eq_iff_iff]; cases b <;> simp [cc, cf, *] <;> omega
    by_cases h3 : k = 3
    · subst h3; refine ⟨by simp, by simp, ?_⟩; rw [Bool.eq_iff_iff]; cases b <;> simp [cc, cf, *] <;> omega
    by_cases h4 : k = 4
    · subst h4; refine ⟨by simp, by simp, ?_⟩; rw [Bool.eq_iff_iff]; cases b <;> simp [cc, cf, *] <;> omega
    by_cases h5 : k = 5
    · subst h5; refine ⟨by simp, by simp, ?_⟩; rw [Bool.eq_iff_iff]; cases b <;> simp [cc, cf, *] <;> omega
    by_cases h6 : k = 6
    · subst h6; refine ⟨by simp, by simp, ?_⟩; rw [Bool.eq_iff_iff]; cases b <;> simp [cc, cf, *] <;> omega
    by_cases h7 : k = 7
    · subst h7; refine ⟨by simp, by simp, ?_⟩; rw [Bool.eq_iff_iff]; cases b <;> simp [cc, cf, *] <;> omega
    by_cases h8 : k = 8
    · subst h8; refine ⟨by simp, by simp, ?_⟩; rw [Bool.eq_iff_iff]; cases b <;> simp [cc, cf, *] <;> omega
    by_cases h9 : k = 9
    · subst h9; refine ⟨by simp, by simp, ?_⟩; rw [Bool.eq_iff_iff]; cases b <;> simp [cc, cf, *] <;> omega
    refine ⟨by simp [*], by simp [*], ?_⟩; rw [Bool.eq_iff_iff]; cases b <;> simp [cc, cf, *] <;> omega
theorem actOk (a : Ty.T y106) (hb : a.2.2.2.2.2.2.length ≤ 1048576) : d299 a = true ∧ d285 a = true ∧ v285 a = v299 a := by
  obtain ⟨k, n, p, s, z, b, l⟩ := a
  exact actOk' k n p s z b l hb
theorem effectOk' (i1 i2 i3 i4 : Int) (p : Ty.T y102) (g : Ty.T y104) (a : Ty.T y106) (u l : Int) (hb : a.2.2.2.2.2.2.length ≤ 1048576) : d242 ((i1, i2, i3, i4, p, g, a, u, l) : Ty.T y108) = true ∧ d227 ((i1, i2, i3, i4, p, g, a, u, l) : Ty.T y108) = true ∧ v227 ((i1, i2, i3, i4, p, g, a, u, l) : Ty.T y108) = v242 ((i1, i2, i3, i4, p, g, a, u, l) : Ty.T y108) := by
  have ha := actOk a hb
  simp only [d242, t242, d227, t227, v242, v227, v239, v165, v160, v164, patOk, guardOk, actFits, ha.1, ha.2.1, ha.2.2, getD_cond, isSome_cond, getD_sm, getD_no, isSome_sm, isSome_no, getD_opt, isSome_opt, isSome_ite, isSome_ifz]
  generalize v297 p = b1
  generalize v298 g = b2
  generalize v271 a p.1 = b3
  generalize v299 a = b4
  generalize (a.1 == (2 : Int)) = b5
  dsimp only [Ty.T]
  have cc : ∀ (p q r : Bool), cond p q r = true ↔ (p = true ∧ q = true) ∨ (p = false ∧ r = true) := by decide
  have cf : ∀ (p q r : Bool), cond p q r = false ↔ (p = true ∧ q = false) ∨ (p = false ∧ r = false) := by decide
  cases b5
  · cases b1 <;> cases b2 <;> cases b3 <;> cases b4 <;> (refine ⟨by simp, by simp, ?_⟩; rw [Bool.eq_iff_iff]; simp [cc, cf] <;> omega)
  · cases b1 <;> cases b2 <;> cases b3 <;> cases b4 <;> (refine ⟨by simp, by simp, ?_⟩; rw [Bool.eq_iff_iff]; simp [cc, cf] <;> omega)
theorem effectOk (e : Ty.T y108) (hb : e.2.2.2.2.2.2.1.2.2.2.2.2.2.length ≤ 1048576) : d242 e = true ∧ d227 e = true ∧ v227 e = v242 e := by
  obtain ⟨i1, i2, i3, i4, p, g, a, u, l⟩ := e
  exact effectOk' i1 i2 i3 i4 p g a u l hb
theorem sim_iter {V W : Type} {s1 : V → Option (Nat × V)} {s2 : W → Option (Nat × W)} {mk1 : Int → V} {mk2 : Int → W} {fin1 : Nat → V} {fin2 : Nat → W} {N : Nat}
    (h : ∀ i : Nat, i < N → (s1 (mk1 (i : Int)) = some (0, mk1 ((i + 1 : Nat) : Int)) ∧ s2 (mk2 (i : Int)) = some (0, mk2 ((i + 1 : Nat) : Int))) ∨ (s1 (mk1 (i : Int)) = some (1, fin1 i) ∧ s2 (mk2 (i : Int)) = some (1, fin2 i)))
    (e1 : s1 (mk1 (N : Int)) = some (2, mk1 (N : Int))) (e2 : s2 (mk2 (N : Int)) = some (2, mk2 (N : Int))) : ∀ (k i n m : Nat), i + k = N → k < n → k < m →
    (∃ j, iter s1 n (mk1 (i : Int)) = some (0, fin1 j) ∧ iter s2 m (mk2 (i : Int)) = some (0, fin2 j)) ∨ (iter s1 n (mk1 (i : Int)) = some (1, mk1 (N : Int)) ∧ iter s2 m (mk2 (i : Int)) = some (1, mk2 (N : Int)))
  | 0, i, n, m, hk, hn, hm => by
    obtain ⟨n, rfl⟩ : ∃ x, n = x + 1 := ⟨n - 1, by omega⟩
    obtain ⟨m, rfl⟩ : ∃ x, m = x + 1 := ⟨m - 1, by omega⟩
    have : i = N := by omega
    subst this
    exact .inr ⟨by rw [iter, e1]; rfl, by rw [iter, e2]; rfl⟩
  | k + 1, i, n, m, hk, hn, hm => by
    obtain ⟨n, rfl⟩ : ∃ x, n = x + 1 := ⟨n - 1, by omega⟩
    obtain ⟨m, rfl⟩ : ∃ x, m = x + 1 := ⟨m - 1, by omega⟩
    rcases h i (by omega) with ⟨a, b⟩ | ⟨a, b⟩
    · rw [iter, a, iter, b]
      exact sim_iter h e1 e2 k (i + 1) n m (by omega) (by omega) (by omega)
    · exact .inl ⟨i, by rw [iter, a]; rfl, by rw [iter, b]; rfl⟩
theorem wrap_pred (j : Nat) (h : (j : Int) ≤ 9223372036854775806) : IntKind.wrap .i64 (((j + 1 : Nat) : Int) - 1) = (j : Int) := by rw [wrap_in (by omega) (by omega)]; omega
theorem pieceOk' (a : Int) (b : Int) (c : Int) (d : Int) (e : Int) (f : Int) (g : Int) (h : Int) (p : Int) (q : Int) (r : Int) (s : Bool) (t : Bool) : v170 ((a, b, c, d, e, f, g, h, p, q, r, s, t) : Ty.T y63) = v240 ((a, b, c, d, e, f, g, h, p, q, r, s, t) : Ty.T y63) := by
  simp only [v170, t170, v240, t240, v239, v165, v160, v164, v163, v169, v250, v159]
  dsimp only [Ty.T]
  have cc : ∀ (p q r : Bool), cond p q r = true ↔ (p = true ∧ q = true) ∨ (p = false ∧ r = true) := by decide
  have cf : ∀ (p q r : Bool), cond p q r = false ↔ (p = true ∧ q = false) ∨ (p = false ∧ r = false) := by decide
  rw [Bool.eq_iff_iff]; cases s <;> cases t <;> simp [cc, cf, *] <;> omega
theorem pieceOk (e : Ty.T y63) : v170 e = v240 e := by
  obtain ⟨a, b, c, d, e, f, g, h, p, q, r, s, t⟩ := e
  exact pieceOk' a b c d e f g h p q r s t
theorem pieceLow (p : Ty.T y63) (h : v240 p = true) : (0 : Int) ≤ p.2.1 ∧ (0 : Int) ≤ p.2.2.1 := by
  simp only [v240, t240, v239] at h
  have cc : ∀ (p q r : Bool), cond p q r = true ↔ (p = true ∧ q = true) ∨ (p = false ∧ r = true) := by decide
  have cf : ∀ (p q r : Bool), cond p q r = false ↔ (p = true ∧ q = false) ∨ (p = false ∧ r = false) := by decide
  simp [cc, cf] at h
  dsimp only [Ty.T] at h ⊢
  omega
theorem side' (x m : Int) (hx : 0 ≤ x) (hm : 0 ≤ m) (hm2 : m ≤ 1048576) : v165 x 0 (IntKind.wrap .i64 (m - 1)) = !decide (x ≥ m) := by
  rw [wrap_in (by omega) (by omega)]
  simp only [v165]
  rw [Bool.eq_iff_iff]
  have cc : ∀ (p q r : Bool), cond p q r = true ↔ (p = true ∧ q = true) ∨ (p = false ∧ r = true) := by decide
  have cf : ∀ (p q r : Bool), cond p q r = false ↔ (p = true ∧ q = false) ∨ (p = false ∧ r = false) := by decide
  simp [cc, cf]
  omega
theorem statePs (a : Ty.T y36) (hb : a.1.length ≤ 1048576) (hl : a.2.1.length ≤ 1048576) : (∃ j : Nat, iter s155_0 (n155_0 (false, 0, a, ())) (false, 0, a, ()) = some (0, (false, (j : Int), a, ())) ∧ iter s56_0 (n56_0 (false, a.1, ((a.1).length : Int), 0, a, ())) (false, a.1, ((a.1).length : Int), 0, a, ()) = some (0, (false, a.1, ((a.1).length : Int), (j : Int), a, ()))) ∨ (iter s155_0 (n155_0 (false, 0, a, ())) (false, 0, a, ()) = some (1, (false, (a.1.length : Int), a, ())) ∧ iter s56_0 (n56_0 (false, a.1, ((a.1).length : Int), 0, a, ())) (false, a.1, ((a.1).length : Int), 0, a, ()) = some (1, (false, a.1, ((a.1).length : Int), (a.1.length : Int), a, ()))) := by
  refine sim_iter (s1 := s155_0) (s2 := s56_0) (mk1 := fun i => (false, i, a, ())) (mk2 := fun i => (false, a.1, ((a.1).length : Int), i, a, ())) (fin1 := fun i => (false, (i : Int), a, ())) (fin2 := fun i => (false, a.1, ((a.1).length : Int), (i : Int), a, ())) (N := a.1.length) (fun i hi => ?_) (by simp [s155_0, t155_0]) (by simp [s56_0, t56_0]) a.1.length 0 _ _ (by omega) (by simp only [n155_0]; omega) (by simp only [n56_0]; omega)
  have h1 : a.1[i]? = some a.1[i] := List.getElem?_eq_getElem hi
  have h3 : (i : Int) < (a.1.length : Int) := by omega
  generalize a.1[i] = p at h1
  cases hp : v240 p with
  | false =>
    refine .inr ⟨?_, ?_⟩
    · simp only [s155_0, t155_0, decide_eq_true h3, cond_true, if_pos (show (0 : Int) ≤ (i : Int) by omega), Int.toNat_natCast, h1, optC_some, hp, Bool.not_false]
    · simp only [s56_0, t56_0, decide_eq_true h3, cond_true, if_pos (show (0 : Int) ≤ (i : Int) by omega), Int.toNat_natCast, h1, optC_some, pieceOk, hp, Bool.not_false]
  | true =>
    have hlow := pieceLow p hp
    have hs1 := side' p.2.1 (a.2.1.length : Int) hlow.1 (by omega) (by omega)
    have hs2 := side' p.2.2.1 (a.2.1.length : Int) hlow.2 (by omega) (by omega)
    have hw := wrap_nat (n := i) (by omega)
    match i, hi, h1, h3, hw with
    | 0, hi, h1, h3, hw =>
      simp only [s155_0, t155_0, s56_0, t56_0, v168, decide_eq_true h3, cond_true, if_pos (show (0 : Int) ≤ ((0 : Nat) : Int) by omega), Int.toNat_natCast, h1, optC_some, pieceOk, hp, Bool.not_true, cond_false, hs1, hs2, Bool.not_not, decide_eq_false (show ¬ ((0 : Nat) : Int) > 0 by omega), hw]
      cases decide (p.2.1 ≥ (a.2.1.length : Int)) <;> cases decide (p.2.2.1 ≥ (a.2.1.length : Int)) <;> cases decide (p.2.2.2.2.1 > a.2.2.2) <;> first | exact .inl ⟨rfl, rfl⟩ | exact .inr ⟨rfl, rfl⟩
    | j + 1, hi, h1, h3, hw =>
      have h2 : a.1[j]? = some a.1[j] := List.getElem?_eq_getElem (by omega)
      generalize a.1[j] = q at h2
      simp only [s155_0, t155_0, s56_0, t56_0, v168, decide_eq_true h3, cond_true, if_pos (show (0 : Int) ≤ ((j + 1 : Nat) : Int) by omega), Int.toNat_natCast, h1, h2, optC_some, pieceOk, hp, Bool.not_true, cond_false, hs1, hs2, Bool.not_not, decide_eq_true (show ((j + 1 : Nat) : Int) > 0 by omega), wrap_pred j (by omega), if_pos (show (0 : Int) ≤ (j : Int) by omega), hw]
      cases decide (q.1 ≥ p.1) <;> cases decide (p.2.1 ≥ (a.2.1.length : Int)) <;> cases decide (p.2.2.1 ≥ (a.2.1.length : Int)) <;> cases decide (p.2.2.2.2.1 > a.2.2.2) <;> first | exact .inl ⟨rfl, rfl⟩ | exact .inr ⟨rfl, rfl⟩
theorem sideOk' (x y : Int) (t : Bool) : v172 ((x, y, t) : Ty.T y190) = !v241 ((x, y, t) : Ty.T y190) := by
  simp only [v172, v241, v239, v165, v173, v159]
  try dsimp only [Ty.T]
  have cc : ∀ (p q r : Bool), cond p q r = true ↔ (p = true ∧ q = true) ∨ (p = false ∧ r = true) := by decide
  have cf : ∀ (p q r : Bool), cond p q r = false ↔ (p = true ∧ q = false) ∨ (p = false ∧ r = false) := by decide
  rw [Bool.eq_iff_iff]
  simp [cc, cf]
  omega
theorem sideOk (s : Ty.T y190) : v172 s = !v241 s := sideOk' s.1 s.2.1 s.2.2
theorem specSides (a : Ty.T y36) (hb : a.2.1.length ≤ 1048576) : (a.2.1.any (fun x => !v241 x) = true ∧ k155_1 false 0 a 0 = true ∧ ∃ j : Nat, w155_1 false 0 a = (false, (j : Int), a, ())) ∨ (a.2.1.any (fun x => !v241 x) = false ∧ k155_1 false 0 a 0 = false ∧ k155_1 false 0 a 1 = true ∧ w155_1 false 0 a = (false, (a.2.1.length : Int), a, ())) := by
  have h := find_iter (s := s155_1) (mk := fun i => (false, i, a, ())) (fin := fun i => (false, (i : Int), a, ())) (p := fun i => match a.2.1[i]? with | some x => !v241 x | none => false) (N := a.2.1.length) (fun i hi => by
    have h1 := List.getElem?_eq_getElem hi
    simp only [h1]
    skip
    cases ht : (v241 a.2.1[i] : Bool) <;> simp [s155_1, t155_1, optC_some, hi, h1, ht,  wrap_nat (n := i) (by omega)]) (by simp [s155_1, t155_1]) a.2.1.length 0 (n155_1 (false, 0, a, ())) (by omega) (by simp only [n155_1]; omega)
  have hf := first_any (p := fun x => !v241 x) (xs := a.2.1) (q := fun i => match a.2.1[i]? with | some x => !v241 x | none => false) (fun i x h1 => by simp only [h1])
  revert h hf
  generalize first _ 0 a.2.1.length = o
  intro h hf
  cases o with
  | none => exact .inr ⟨hf.symm, at_of h 0, at_of h 1, val_of h⟩
  | some j => exact .inl ⟨hf.symm, at_of h 0, j, val_of h⟩
theorem implSides' (l : List (Ty.T y190)) (hb : l.length ≤ 1048576) : (l.any (fun x => !v241 x) = true ∧ k251c1_0 l 0 ((l).length : Int) 0 0 = true ∧ ∃ j : Nat, w251c1_0 l 0 ((l).length : Int) 0 = (l, (j : Int), ((l).length : Int), (j : Int), ())) ∨ (l.any (fun x => !v241 x) = false ∧ k251c1_0 l 0 ((l).length : Int) 0 0 = false ∧ k251c1_0 l 0 ((l).length : Int) 0 1 = true ∧ w251c1_0 l 0 ((l).length : Int) 0 = (l, 0, ((l).length : Int), (l.length : Int), ())) := by
  have h := find_iter (s := s251c1_0) (mk := fun i => (l, 0, ((l).length : Int), i, ())) (fin := fun i => (l, (i : Int), ((l).length : Int), (i : Int), ())) (p := fun i => match l[i]? with | some x => !v241 x | none => false) (N := l.length) (fun i hi => by
    have h1 := List.getElem?_eq_getElem hi
    simp only [h1]
    skip
    cases ht : (v241 l[i] : Bool) <;> simp [s251c1_0, t251c1_0, optC_some, hi, h1, ht, sideOk, wrap_nat (n := i) (by omega)]) (by simp [s251c1_0, t251c1_0]) l.length 0 (n251c1_0 (l, 0, ((l).length : Int), 0, ())) (by omega) (by simp only [n251c1_0]; omega)
  have hf := first_any (p := fun x => !v241 x) (xs := l) (q := fun i => match l[i]? with | some x => !v241 x | none => false) (fun i x h1 => by simp only [h1])
  revert h hf
  generalize first _ 0 l.length = o
  intro h hf
  cases o with
  | none => exact .inr ⟨hf.symm, at_of h 0, at_of h 1, val_of h⟩
  | some j => exact .inl ⟨hf.symm, at_of h 0, j, val_of h⟩
theorem implSides (l : List (Ty.T y190)) (hb : l.length ≤ 1048576) : d171c1 l = true ∧ v171c1 l = l.any (fun x => !v241 x) := by
  unfold d171c1 v171c1 d251c1 v251c1
  rcases implSides' l hb with ⟨hB, e0, j, hw⟩ | ⟨hB, e0, e1, hw⟩
  · rw [e0, hw, hB]
    exact ⟨rfl, decide_eq_true (show ((j : Int)) ≥ 0 by omega)⟩
  · rw [e0, e1, hB]
    exact ⟨rfl, rfl⟩
theorem stateOk (a : Ty.T y36) (hb : a.1.length ≤ 1048576) (hl : a.2.1.length ≤ 1048576) : d155 a = true ∧ d56 a = true ∧ v56 a = v155 a := by
  have hi := implSides a.2.1 hl
  unfold d155 d56 v155 v56 t155 t56
  try simp only [getD_cond, isSome_cond, getD_sm, getD_no, isSome_sm, isSome_no, getD_opt, isSome_opt, isSome_ite, isSome_ifz]
  simp only [v168, v169, v165, v239]
  rcases statePs a hb hl with ⟨j, x1, x2⟩ | ⟨x1, x2⟩
  · have e0 : k155_0 false 0 a 0 = true := at_of x1 0
    have f0 : k56_0 false a.1 ((a.1).length : Int) 0 a 0 = true := at_of x2 0
    have ew : w155_0 false 0 a = _ := val_of x1
    have fw : w56_0 false a.1 ((a.1).length : Int) 0 a = _ := val_of x2
    simp only [e0, f0, ew, fw]
    generalize decide ((a.1.length : Int) > (8 : Int)) = b1
    cases b1
    · refine ⟨?_, ?_, ?_⟩ <;> simp
    · exact ⟨rfl, rfl, rfl⟩
  · have e0 : k155_0 false 0 a 0 = false := at_of x1 0
    have e1 : k155_0 false 0 a 1 = true := at_of x1 1
    have f0 : k56_0 false a.1 ((a.1).length : Int) 0 a 0 = false := at_of x2 0
    have f1 : k56_0 false a.1 ((a.1).length : Int) 0 a 1 = true := at_of x2 1
    have ew : w155_0 false 0 a = _ := val_of x1
    have fw : w56_0 false a.1 ((a.1).length : Int) 0 a = _ := val_of x2
    simp only [e0, e1, f0, f1, ew, fw, hi.1, hi.2]
    rcases specSides a hl with ⟨hB, y0, k, hw⟩ | ⟨hB, y0, y1, hw⟩
    · simp only [y0, hw, hB]
      generalize decide ((a.1.length : Int) > (8 : Int)) = b1
      cases b1
      · refine ⟨?_, ?_, ?_⟩ <;> simp
      · exact ⟨rfl, rfl, rfl⟩
    · simp only [y0, y1, hw, hB]
      generalize decide ((a.1.length : Int) > (8 : Int)) = b1
      cases b1
      · refine ⟨?_, ?_, ?_⟩ <;> simp
      · exact ⟨rfl, rfl, rfl⟩
theorem tableL (l : List (Ty.T y108)) (hb : l.length ≤ 1048576) (hv : ∀ x ∈ l, x.2.2.2.2.2.2.1.2.2.2.2.2.2.length ≤ 1048576) : (∃ j : Nat, iter s156_0 (n156_0 (l, false, 0, ())) (l, false, 0, ()) = some (0, (l, false, (j : Int), ())) ∧ iter s136_0 (n136_0 (l, false, l, ((l).length : Int), 0, ())) (l, false, l, ((l).length : Int), 0, ()) = some (0, (l, false, l, ((l).length : Int), (j : Int), ()))) ∨ (iter s156_0 (n156_0 (l, false, 0, ())) (l, false, 0, ()) = some (1, (l, false, (l.length : Int), ())) ∧ iter s136_0 (n136_0 (l, false, l, ((l).length : Int), 0, ())) (l, false, l, ((l).length : Int), 0, ()) = some (1, (l, false, l, ((l).length : Int), (l.length : Int), ()))) := by
  refine sim_iter (s1 := s156_0) (s2 := s136_0) (mk1 := fun i => (l, false, i, ())) (mk2 := fun i => (l, false, l, ((l).length : Int), i, ())) (fin1 := fun i => (l, false, (i : Int), ())) (fin2 := fun i => (l, false, l, ((l).length : Int), (i : Int), ())) (N := l.length) (fun i hi => ?_) (by simp [s156_0, t156_0]) (by simp [s136_0, t136_0]) l.length 0 _ _ (by omega) (by simp only [n156_0]; omega) (by simp only [n136_0]; omega)
  have h1 : l[i]? = some l[i] := List.getElem?_eq_getElem hi
  have h3 : (i : Int) < (l.length : Int) := by omega
  have hq := effectOk l[i] (hv _ (List.getElem_mem hi))
  generalize l[i] = p at h1 hq
  have hw := wrap_nat (n := i) (by omega)
  match i, hi, h1, h3, hw with
  | 0, hi, h1, h3, hw =>
    simp only [s156_0, t156_0, s136_0, t136_0, decide_eq_true h3, cond_true, if_pos (show (0 : Int) ≤ ((0 : Nat) : Int) by omega), Int.toNat_natCast, h1, optC_some, hq.1, hq.2.1, hq.2.2, decide_eq_false (show ¬ ((0 : Nat) : Int) > 0 by omega), cond_false, hw]
    cases v242 p <;> first | exact .inl ⟨rfl, rfl⟩ | exact .inr ⟨rfl, rfl⟩
  | j + 1, hi, h1, h3, hw =>
    have h2 : l[j]? = some l[j] := List.getElem?_eq_getElem (by omega)
    generalize l[j] = q at h2
    simp only [s156_0, t156_0, s136_0, t136_0, decide_eq_true h3, cond_true, if_pos (show (0 : Int) ≤ ((j + 1 : Nat) : Int) by omega), Int.toNat_natCast, h1, h2, optC_some, hq.1, hq.2.1, hq.2.2, decide_eq_true (show ((j + 1 : Nat) : Int) > 0 by omega), wrap_pred j (by omega), if_pos (show (0 : Int) ≤ (j : Int) by omega), hw]
    cases v242 p <;> cases decide (q.1 ≥ p.1) <;> first | exact .inl ⟨rfl, rfl⟩ | exact .inr ⟨rfl, rfl⟩
theorem tableOk (l : List (Ty.T y108)) (hb : l.length ≤ 1048576) (hv : ∀ x ∈ l, x.2.2.2.2.2.2.1.2.2.2.2.2.2.length ≤ 1048576) : d156 l = true ∧ d136 l = true ∧ v136 l = v156 l := by
  unfold d156 d136 v156 v136
  rcases tableL l hb hv with ⟨j, x1, x2⟩ | ⟨x1, x2⟩
  · have e0 : k156_0 l false 0 0 = true := at_of x1 0
    have f0 : k136_0 l false l ((l).length : Int) 0 0 = true := at_of x2 0
    have ew : w156_0 l false 0 = _ := val_of x1
    have fw : w136_0 l false l ((l).length : Int) 0 = _ := val_of x2
    simp only [e0, f0, ew, fw]
    first | exact ⟨rfl, rfl, rfl⟩ | simp
  · have e0 : k156_0 l false 0 0 = false := at_of x1 0
    have e1 : k156_0 l false 0 1 = true := at_of x1 1
    have f0 : k136_0 l false l ((l).length : Int) 0 0 = false := at_of x2 0
    have f1 : k136_0 l false l ((l).length : Int) 0 1 = true := at_of x2 1
    have ew : w156_0 l false 0 = _ := val_of x1
    have fw : w136_0 l false l ((l).length : Int) 0 = _ := val_of x2
    simp only [e0, e1, f0, f1, ew, fw]
    first | exact ⟨rfl, rfl, rfl⟩ | simp
theorem hasS (u : List (Ty.T (.int .i64))) (n : Int) (hb : u.length ≤ 1048576) : d300 u n = true ∧ v300 u n = (u.any fun x => x == n) := by
  have h := find_iter (s := s300_0) (mk := fun i => (u, n, false, i, ())) (fin := fun i => (u, n, true, (i : Int), ())) (p := fun i => match u[i]? with | some x => (x == n) | none => false) (N := u.length) (fun i hi => by
    have h1 := List.getElem?_eq_getElem hi
    simp only [h1]
    skip
    cases ht : ((u[i] : Int) == n) <;> simp [s300_0, t300_0, optC_some, hi, h1, ht,  wrap_nat (n := i) (by omega)]) (by simp [s300_0, t300_0]) u.length 0 (n300_0 (u, n, false, 0, ())) (by omega) (by simp [n300_0]; omega)
  have hf := first_any (p := fun x => (x == n)) (xs := u) (q := fun i => match u[i]? with | some x => (x == n) | none => false) (fun i x h1 => by simp only [h1])
  unfold d300 v300
  revert h hf
  generalize first _ 0 u.length = o
  intro h hf
  cases o with
  | none =>
    have e0 : k300_0 u n false 0 0 = false := at_of h 0
    have e1 : k300_0 u n false 0 1 = true := at_of h 1
    rw [e0, e1, ← hf]
    exact ⟨rfl, rfl⟩
  | some j =>
    have e0 : k300_0 u n false 0 0 = true := at_of h 0
    have hw : w300_0 u n false 0 = _ := val_of h
    rw [e0, hw, ← hf]
    exact ⟨rfl, rfl⟩
theorem idxI (u : List (Ty.T (.int .i64))) (n : Int) (hb : u.length ≤ 1048576) : d252 u n = true ∧ v252 u n = (match first (fun i => match u[i]? with | some x => (n == x) | none => false) 0 u.length with | some j => (j : Int) | none => -1) := by
  have h := find_iter (s := s252_0) (mk := fun i => (u, n, 0, ((u).length : Int), i, ())) (fin := fun i => (u, n, (i : Int), ((u).length : Int), (i : Int), ())) (p := fun i => match u[i]? with | some x => (n == x) | none => false) (N := u.length) (fun i hi => by
    have h1 := List.getElem?_eq_getElem hi
    simp only [h1]
    skip
    cases ht : ((n == (u[i] : Int)) : Bool) <;> simp [s252_0, t252_0, optC_some, hi, h1, ht,  wrap_nat (n := i) (by omega)]) (by simp [s252_0, t252_0]) u.length 0 (n252_0 (u, n, 0, ((u).length : Int), 0, ())) (by omega) (by simp [n252_0]; omega)
  unfold d252 v252
  revert h
  generalize first _ 0 u.length = o
  intro h
  cases o with
  | none =>
    have e0 : k252_0 u n 0 ((u).length : Int) 0 0 = false := at_of h 0
    have e1 : k252_0 u n 0 ((u).length : Int) 0 1 = true := at_of h 1
    rw [e0, e1]
    exact ⟨rfl, rfl⟩
  | some j =>
    have e0 : k252_0 u n 0 ((u).length : Int) 0 0 = true := at_of h 0
    have hw : w252_0 u n 0 ((u).length : Int) 0 = _ := val_of h
    rw [e0, hw]
    exact ⟨rfl, rfl⟩
theorem hasI (u : List (Ty.T (.int .i64))) (n : Int) (hb : u.length ≤ 1048576) : d75 u n = true ∧ v75 u n = u.any fun x => x == n := by
  have h := idxI u n hb
  have e : (first (fun i => match u[i]? with | some x => n == x | none => false) 0 u.length).isSome = u.any fun x => n == x := first_any (fun i x h => by simp only [h])
  have e2 : (u.any fun x => n == x) = u.any fun x => x == n := by congr 1; funext x; exact Bool.beq_comm
  unfold d75 v75 d181 v181
  rw [h.1, h.2, ← e2, ← e]
  cases first (fun i => match u[i]? with | some x => n == x | none => false) 0 u.length with
  | none => exact ⟨by simp, by simp⟩
  | some j => exact ⟨by simp, by simp⟩
theorem cl177 (l : List (Ty.T y27)) (hb : l.length ≤ 1048576) : d177 l = true := decide_eq_true (show List.length l * _ ≤ _ by omega)
theorem cl135 (l : List (Ty.T (.int .i64))) (hb : l.length ≤ 1048576) : d135 l = true := decide_eq_true (show List.length l * _ ≤ _ by omega)
theorem cpI (e : Ty.T y108) (hb : e.2.2.2.2.2.2.1.2.2.2.2.2.2.length ≤ 1048576) : d226 e = true ∧ v226 e = ((e.1, e.2.1, e.2.2.1, e.2.2.2.1, e.2.2.2.2.1, e.2.2.2.2.2.1, e.2.2.2.2.2.2.1.1, e.2.2.2.2.2.2.1.2.1, e.2.2.2.2.2.2.1.2.2.1, e.2.2.2.2.2.2.1.2.2.2.1, e.2.2.2.2.2.2.1.2.2.2.2.1, e.2.2.2.2.2.2.1.2.2.2.2.2.1), e.2.2.2.2.2.2.2, e.2.2.2.2.2.2.1.2.2.2.2.2.2) := by
  have h := cl177 _ hb
  unfold d226 v226 t226
  try simp only [getD_cond, isSome_cond, getD_sm, getD_no, isSome_sm, isSome_no, getD_opt, isSome_opt, isSome_ite, isSome_ifz]
  rw [h]
  exact ⟨rfl, rfl⟩
theorem cpS (e : Ty.T y108) (hb : e.2.2.2.2.2.2.1.2.2.2.2.2.2.length ≤ 1048576) : d238 e = true ∧ v238 e = ((e.1, e.2.1, e.2.2.1, e.2.2.2.1, e.2.2.2.2.1, e.2.2.2.2.2.1, e.2.2.2.2.2.2.1.1, e.2.2.2.2.2.2.1.2.1, e.2.2.2.2.2.2.1.2.2.1, e.2.2.2.2.2.2.1.2.2.2.1, e.2.2.2.2.2.2.1.2.2.2.2.1, e.2.2.2.2.2.2.1.2.2.2.2.2.1), e.2.2.2.2.2.2.2, e.2.2.2.2.2.2.1.2.2.2.2.2.2) := by
  have h : d296 e.2.2.2.2.2.2.1 = true := by
    unfold d296
    simp only [List.nil_append, Bool.and_true]
    exact decide_eq_true (by omega)
  unfold d238 v238 t238
  try simp only [getD_cond, isSome_cond, getD_sm, getD_no, isSome_sm, isSome_no, getD_opt, isSome_opt, isSome_ite, isSome_ifz]
  rw [h]
  exact ⟨rfl, rfl⟩
theorem ctI (l : List (Ty.T y108)) (hb : l.length ≤ 1048576) (hv : ∀ x ∈ l, x.2.2.2.2.2.2.1.2.2.2.2.2.2.length ≤ 1048576) : d134 l = true ∧ v134 l = l := by
  have h := seq_iter (s := s134_0) (f := fun i => ([], l, ((l).length : Int), (i : Int), l.take i, ())) (c := 0) (N := l.length) (v' := ([], l, ((l).length : Int), (l.length : Int), l.take l.length, ())) (fun i hi => by
    have h1 : l[i]? = some l[i] := List.getElem?_eq_getElem hi
    have hw := wrap_nat (n := i) (by omega)
    have hc := cpI l[i] (hv _ (List.getElem_mem hi))
    have hz : ∀ x : Ty.T y108, (l.take i ++ [x]).length * 192 ≤ 140737488351232 := fun x => by simp only [List.length_append, List.length_cons, List.length_nil, List.length_take]; omega
    rw [take_snoc h1]
    simp only [s134_0, t134_0, decide_eq_true (show (i : Int) < (l.length : Int) by omega), cond_true, if_pos (show (0 : Int) ≤ (i : Int) by omega), Int.toNat_natCast, h1, optC_some, hw, hc.1, hc.2, if_pos (hz _)] <;> rfl) (by simp [s134_0, t134_0]) l.length 0 (n134_0 ([], l, ((l).length : Int), 0, [], ())) (by omega) (by simp only [n134_0]; omega)
  have hk : k134_0 [] l ((l).length : Int) 0 [] 0 = true := at_of h 0
  have hw : w134_0 [] l ((l).length : Int) 0 [] = _ := val_of h
  unfold d134 v134
  rw [hk, hw]
  exact ⟨rfl, by simp⟩
theorem ctS (l : List (Ty.T y108)) (hb : l.length ≤ 1048576) (hv : ∀ x ∈ l, x.2.2.2.2.2.2.1.2.2.2.2.2.2.length ≤ 1048576) : d154 l = true ∧ v154 l = l := by
  have h := seq_iter (s := s154_0) (f := fun i => (l, [], (i : Int), l.take i, ())) (c := 0) (N := l.length) (v' := (l, [], (l.length : Int), l.take l.length, ())) (fun i hi => by
    have h1 : l[i]? = some l[i] := List.getElem?_eq_getElem hi
    have hw := wrap_nat (n := i) (by omega)
    have hc := cpS l[i] (hv _ (List.getElem_mem hi))
    have hz : ∀ x : Ty.T y108, (l.take i ++ [x]).length * 192 ≤ 140737488351232 := fun x => by simp only [List.length_append, List.length_cons, List.length_nil, List.length_take]; omega
    rw [take_snoc h1]
    simp only [s154_0, t154_0, decide_eq_true (show (i : Int) < (l.length : Int) by omega), cond_true, if_pos (show (0 : Int) ≤ (i : Int) by omega), Int.toNat_natCast, h1, optC_some, hw, hc.1, hc.2, if_pos (hz _)] <;> rfl) (by simp [s154_0, t154_0]) l.length 0 (n154_0 (l, [], 0, [], ())) (by omega) (by simp only [n154_0]; omega)
  have hk : k154_0 l [] 0 [] 0 = true := at_of h 0
  have hw : w154_0 l [] 0 [] = _ := val_of h
  unfold d154 v154
  rw [hk, hw]
  exact ⟨rfl, by simp⟩
theorem cuI (l : List (Ty.T y66)) (hb : l.length ≤ 1048576) (hv : ∀ x ∈ l, x.2.2.2.2.2.1.length ≤ 1048576) : d141 l = true ∧ v141 l = l := by
  have h := seq_iter (s := s141_0) (f := fun i => ([], l, ((l).length : Int), (i : Int), l.take i, ())) (c := 0) (N := l.length) (v' := ([], l, ((l).length : Int), (l.length : Int), l.take l.length, ())) (fun i hi => by
    have h1 : l[i]? = some l[i] := List.getElem?_eq_getElem hi
    have hw := wrap_nat (n := i) (by omega)
    have hc := cl177 _ (hv _ (List.getElem_mem hi))
    have hz : ∀ x : Ty.T y66, (l.take i ++ [x]).length * 128 ≤ 140737488351232 := fun x => by simp only [List.length_append, List.length_cons, List.length_nil, List.length_take]; omega
    rw [take_snoc h1]
    simp only [s141_0, t141_0, decide_eq_true (show (i : Int) < (l.length : Int) by omega), cond_true, if_pos (show (0 : Int) ≤ (i : Int) by omega), Int.toNat_natCast, h1, optC_some, hw, hc, v177, if_pos (hz _)] <;> rfl) (by simp [s141_0, t141_0]) l.length 0 (n141_0 ([], l, ((l).length : Int), 0, [], ())) (by omega) (by simp only [n141_0]; omega)
  have hk : k141_0 [] l ((l).length : Int) 0 [] 0 = true := at_of h 0
  have hw : w141_0 [] l ((l).length : Int) 0 [] = _ := val_of h
  unfold d141 v141
  rw [hk, hw]
  exact ⟨rfl, by simp⟩
theorem pa (s : Ty.T y36) (id : Int) (hb : s.1.length ≤ 1048576) : d279 s id = true ∧ v279 s id = (match first (fun i => match s.1[i]? with | some x => (x.1 == id) | none => false) 0 s.1.length with | some j => (j : Int) | none => -1) := by
  have h := find_iter (s := s279_0) (mk := fun i => (id, 0, i, s, ())) (fin := fun i => (id, (i : Int), (i : Int), s, ())) (p := fun i => match s.1[i]? with | some x => (x.1 == id) | none => false) (N := s.1.length) (fun i hi => by
    have h1 := List.getElem?_eq_getElem hi
    simp only [h1]
    skip
    cases ht : (((s.1[i]).1 == id) : Bool) <;> simp [s279_0, t279_0, optC_some, hi, h1, ht,  wrap_nat (n := i) (by omega)]) (by simp [s279_0, t279_0]) s.1.length 0 (n279_0 (id, 0, 0, s, ())) (by omega) (by simp [n279_0]; omega)
  unfold d279 v279
  revert h
  generalize first _ 0 s.1.length = o
  intro h
  cases o with
  | none =>
    have e0 : k279_0 id 0 0 s 0 = false := at_of h 0
    have e1 : k279_0 id 0 0 s 1 = true := at_of h 1
    rw [e0, e1]
    exact ⟨rfl, rfl⟩
  | some j =>
    have e0 : k279_0 id 0 0 s 0 = true := at_of h 0
    have hw : w279_0 id 0 0 s = _ := val_of h
    rw [e0, hw]
    exact ⟨rfl, rfl⟩
theorem ia (s : List (Ty.T y63)) (id : Int) (hb : s.length ≤ 1048576) : d340c1 s id = true ∧ v340c1 s id = (match first (fun i => match s[i]? with | some x => (x.1 == id) | none => false) 0 s.length with | some j => (j : Int) | none => -1) := by
  have h := find_iter (s := s340c1_0) (mk := fun i => (s, id, 0, ((s).length : Int), i, ())) (fin := fun i => (s, id, (i : Int), ((s).length : Int), (i : Int), ())) (p := fun i => match s[i]? with | some x => (x.1 == id) | none => false) (N := s.length) (fun i hi => by
    have h1 := List.getElem?_eq_getElem hi
    simp only [h1]
    skip
    cases ht : (((s[i]).1 == id) : Bool) <;> simp [s340c1_0, t340c1_0, optC_some, hi, h1, ht, v341c1, wrap_nat (n := i) (by omega)]) (by simp [s340c1_0, t340c1_0]) s.length 0 (n340c1_0 (s, id, 0, ((s).length : Int), 0, ())) (by omega) (by simp [n340c1_0]; omega)
  unfold d340c1 v340c1
  revert h
  generalize first _ 0 s.length = o
  intro h
  cases o with
  | none =>
    have e0 : k340c1_0 s id 0 ((s).length : Int) 0 0 = false := at_of h 0
    have e1 : k340c1_0 s id 0 ((s).length : Int) 0 1 = true := at_of h 1
    rw [e0, e1]
    exact ⟨rfl, rfl⟩
  | some j =>
    have e0 : k340c1_0 s id 0 ((s).length : Int) 0 0 = true := at_of h 0
    have hw : w340c1_0 s id 0 ((s).length : Int) 0 = _ := val_of h
    rw [e0, hw]
    exact ⟨rfl, rfl⟩
theorem pi (s : Ty.T y36) (id : Int) (hb : s.1.length ≤ 1048576) : d326 s id = true ∧ v326 s id = v279 s id := by
  have h1 := pa s id hb
  have h2 := ia s.1 id hb
  unfold d326 v326
  rw [h2.1, h2.2, h1.2]
  exact ⟨rfl, rfl⟩
theorem paR (s : Ty.T y36) (id : Int) (hb : s.1.length ≤ 1048576) : v279 s id < 0 ∨ (0 ≤ v279 s id ∧ ∃ p, s.1[(v279 s id).toNat]? = some p ∧ p.1 = id) := by
  rw [(pa s id hb).2]
  cases h : first (fun i => match s.1[i]? with | some x => (x.1 == id) | none => false) 0 s.1.length with
  | none => exact .inl (by decide)
  | some j =>
    obtain ⟨_, hj, hp⟩ := first_some h
    have e : s.1[j]? = some s.1[j] := List.getElem?_eq_getElem (by omega)
    refine .inr ⟨by show (0 : Int) ≤ (j : Int); omega, s.1[j], by show s.1[((j : Nat) : Int).toNat]? = _; rw [Int.toNat_natCast]; exact e, ?_⟩
    simp only [e] at hp
    exact eq_of_beq hp
theorem src (s : Ty.T y36) (e : Ty.T y27) (hb : s.1.length ≤ 1048576) : d315 s e = true ∧ d329 s e = true ∧ v329 s e = v315 s e := by
  have h1 := pa s e.2.1 hb
  have h2 := pi s e.2.1 hb
  have key : d315 s e = true := by
    unfold d315 t315
    try simp only [getD_cond, isSome_cond, getD_sm, getD_no, isSome_sm, isSome_no, getD_opt, isSome_opt, isSome_ite, isSome_ifz]
    rw [h1.1]
    rcases paR s e.2.1 hb with h | ⟨h, p, hp, _⟩
    · cases (e.1 != (1 : Int)) <;> simp [h]
    · cases (e.1 != (1 : Int)) <;> simp [hp, optD, h]
  refine ⟨key, ?_, ?_⟩
  · rw [← key]
    unfold d315 d329 t315 t329
    try simp only [getD_cond, isSome_cond, getD_sm, getD_no, isSome_sm, isSome_no, getD_opt, isSome_opt, isSome_ite, isSome_ifz]
    rw [h1.1, h2.1, h2.2]
  · unfold v315 v329 t315 t329
    try simp only [getD_cond, isSome_cond, getD_sm, getD_no, isSome_sm, isSome_no, getD_opt, isSome_opt, isSome_ite, isSome_ifz]
    rw [h1.1, h2.1, h2.2]
theorem isSide (s : Ty.T y36) (x : Int) : v168 s x = v239 x 0 (IntKind.wrap .i64 (((s.2.1).length : Int) - (1 : Int))) := by
  simp only [v168, v239, v165]
theorem tgt (s : Ty.T y36) (e : Ty.T y27) (hb : s.1.length ≤ 1048576) : d270 s e = true ∧ d292 s e = true ∧ v292 s e = v270 s e := by
  have h1 := pa s e.2.2.1 hb
  have h2 := pi s e.2.2.1 hb
  unfold d270 d292 v270 v292
  rw [h1.1, h2.1, h2.2, isSide]
  cases (e.2.2.1 == (0 : Int))
  · rcases paR s e.2.2.1 hb with h | ⟨h, p, hp, _⟩
    · simp [h]
    · simp [hp, optD, h]
  · cases v239 e.2.2.2.1 0 (IntKind.wrap .i64 (((s.2.1).length : Int) - (1 : Int))) <;> exact ⟨rfl, rfl, rfl⟩
theorem tgtF (s : Ty.T y36) (x : Int) (p : Ty.T y102) (e : Ty.T y27) (hb : s.1.length ≤ 1048576) : d333 s x p e = true ∧ d304 s x p e = true ∧ v304 s x p e = v333 s x p e := by
  have h := tgt s e hb
  unfold d333 d304 v333 v304 t333 t304
  try simp only [getD_cond, isSome_cond, getD_sm, getD_no, isSome_sm, isSome_no, getD_opt, isSome_opt, isSome_ite, isSome_ifz]
  rw [h.1, h.2.1, h.2.2]
  refine ⟨?_, ?_, rfl⟩ <;> simp
theorem srcF (s : Ty.T y36) (p : Ty.T y102) (e : Ty.T y27) (hb : s.1.length ≤ 1048576) : d334 s p e = true ∧ d305 s p e = true ∧ v305 s p e = v334 s p e := by
  have h := src s e hb
  unfold d334 d305 v334 v305
  rw [h.1, h.2.1, h.2.2]
  refine ⟨?_, ?_, rfl⟩ <;> simp
theorem patF (s : Ty.T y36) (x : Int) (p : Ty.T y102) (e : Ty.T y27) (hb : s.1.length ≤ 1048576) : d312 s x p e = true ∧ d256 s x p e = true ∧ v256 s x p e = v312 s x p e := by
  have h1 := tgtF s x p e hb
  have h2 := srcF s p e hb
  unfold d312 d256 v312 v256
  rw [h1.1, h1.2.1, h1.2.2, h2.1, h2.2.1, h2.2.2, patOk, evOk]
  refine ⟨?_, ?_, rfl⟩ <;> simp
theorem gone (e : Ty.T y27) : v54 e = v244 e := rfl
theorem lives (e : Ty.T y108) (t : Int) : v253 e t = v309 e t := rfl
theorem near (e : Ty.T y108) (v : Ty.T y27) : v254 e v = v310 e v := rfl
theorem chooser (s : Ty.T y36) (e : Ty.T y27) (hb : s.1.length ≤ 1048576) : d213 s e = true ∧ d230 s e = true ∧ v230 s e = v213 s e := by
  have h := tgt s e hb
  unfold d213 d230 v213 v230
  rw [h.1, h.2.1, h.2.2]
  cases hc : (v270 s e == (-1 : Int)) <;> simp [bne, hc]
def manyF (side : Int) (k : Int) (x : Ty.T y63) : Int := cond (x.2.2.2.1 == (2 : Int)) (cond (x.2.2.1 == side) (IntKind.wrap .i64 (k + 1)) k) k
def bentF (side : Int) (k : Int) (x : Ty.T y63) : Int := cond (x.2.2.2.1 == (2 : Int)) (cond (x.2.2.1 == side) (cond x.2.2.2.2.2.2.2.2.2.2.2.2 (IntKind.wrap .i64 (k + 1)) k) k) k
theorem manyS (s : Ty.T y36) (side : Int) (hb : s.1.length ≤ 1048576) : d331 s side = true ∧ v331 s side = s.1.foldl (manyF side) 0 := by
  have h := fold_iter (s := s331_0) (mk := fun (k : Int) i => (side, 0, k, i, s, ())) (xs := s.1) (f := (manyF side)) (Inv := fun _ _ => True) (fun i x k hx hI => by
    obtain ⟨hi, rfl⟩ := List.getElem?_eq_some_iff.1 hx
    refine ⟨?_, trivial⟩
    skip
    cases c1 : ((s.1[i]).2.2.2.1 == (2 : Int)) <;> cases c2 : ((s.1[i]).2.2.1 == side) <;> cases c3 : (s.1[i]).2.2.2.2.2.2.2.2.2.2.2.2 <;> simp [s331_0, t331_0, optC_some, hi, manyF, c1, c2, c3, wrap_nat (n := i) (by omega)]) (fun k => by simp [s331_0, t331_0]) s.1.length 0 0 (n331_0 (side, 0, 0, 0, s, ())) (by omega) (by simp [n331_0]; omega) trivial
  have hk : k331_0 side 0 0 0 s 0 = true := at_of h 0
  have hw : w331_0 side 0 0 0 s = _ := val_of h
  unfold d331 v331
  rw [hk, hw]
  exact ⟨rfl, rfl⟩
theorem bentS (s : Ty.T y36) (side : Int) (hb : s.1.length ≤ 1048576) : d332 s side = true ∧ v332 s side = s.1.foldl (bentF side) 0 := by
  have h := fold_iter (s := s332_0) (mk := fun (k : Int) i => (side, 0, k, i, s, ())) (xs := s.1) (f := (bentF side)) (Inv := fun _ _ => True) (fun i x k hx hI => by
    obtain ⟨hi, rfl⟩ := List.getElem?_eq_some_iff.1 hx
    refine ⟨?_, trivial⟩
    skip
    cases c1 : ((s.1[i]).2.2.2.1 == (2 : Int)) <;> cases c2 : ((s.1[i]).2.2.1 == side) <;> cases c3 : (s.1[i]).2.2.2.2.2.2.2.2.2.2.2.2 <;> simp [s332_0, t332_0, optC_some, hi, bentF, c1, c2, c3, wrap_nat (n := i) (by omega)]) (fun k => by simp [s332_0, t332_0]) s.1.length 0 0 (n332_0 (side, 0, 0, 0, s, ())) (by omega) (by simp [n332_0]; omega) trivial
  have hk : k332_0 side 0 0 0 s 0 = true := at_of h 0
  have hw : w332_0 side 0 0 0 s = _ := val_of h
  unfold d332 v332
  rw [hk, hw]
  exact ⟨rfl, rfl⟩
theorem bentI (s : Ty.T y36) (side : Int) (hb : s.1.length ≤ 1048576) : d303 s side = true ∧ v303 s side = s.1.foldl (bentF side) 0 := by
  have h := fold_iter (s := s303_0) (mk := fun (k : Int) i => (side, 0, k, s.1, ((s.1).length : Int), i, ())) (xs := s.1) (f := (bentF side)) (Inv := fun _ _ => True) (fun i x k hx hI => by
    obtain ⟨hi, rfl⟩ := List.getElem?_eq_some_iff.1 hx
    refine ⟨?_, trivial⟩
    skip
    cases c1 : ((s.1[i]).2.2.2.1 == (2 : Int)) <;> cases c2 : ((s.1[i]).2.2.1 == side) <;> cases c3 : (s.1[i]).2.2.2.2.2.2.2.2.2.2.2.2 <;> simp [s303_0, t303_0, optC_some, hi, bentF, c1, c2, c3, wrap_nat (n := i) (by omega)]) (fun k => by simp [s303_0, t303_0]) s.1.length 0 0 (n303_0 (side, 0, 0, s.1, ((s.1).length : Int), 0, ())) (by omega) (by simp [n303_0]; omega) trivial
  have hk : k303_0 side 0 0 s.1 ((s.1).length : Int) 0 0 = true := at_of h 0
  have hw : w303_0 side 0 0 s.1 ((s.1).length : Int) 0 = _ := val_of h
  unfold d303 v303
  rw [hk, hw]
  exact ⟨rfl, rfl⟩
theorem many_wrap (side : Int) (l : List (Ty.T y63)) : ∀ k : Int, 0 ≤ k → k + l.length ≤ 9223372036854775807 → l.foldl (manyF side) k = k + (((l.filter fun x => (x.2.2.2.1 == (2 : Int)) && (x.2.2.1 == side)).length : Nat) : Int) := by
  induction l with
  | nil => intro k _ _; simp
  | cons x l ih =>
    intro k h0 hk
    simp only [List.length_cons] at hk
    have e : IntKind.wrap .i64 (k + 1) = k + 1 := wrap_in (by omega) (by omega)
    simp only [List.foldl_cons, manyF, List.filter_cons, e]
    cases c1 : (x.2.2.2.1 == (2 : Int)) <;> cases c2 : (x.2.2.1 == side) <;> simp only [cond_true, cond_false, Bool.and_true, Bool.and_false, if_true, Bool.false_eq_true, if_false, List.length_cons]
    · exact ih k h0 (by omega)
    · exact ih k h0 (by omega)
    · exact ih k h0 (by omega)
    · rw [ih (k + 1) (by omega) (by omega)]; omega
theorem onF (s : Ty.T y36) (side : Int) (hs : ¬ side = -1) (hb : s.1.length ≤ 1048576) : d302 s side = true ∧ v302 s side = (s.1.filter fun x => (x.2.2.2.1 == (2 : Int)) && (x.2.2.1 == side)).map (·.1) := by
  have h := seq_iter (s := s302_0) (f := fun i => (side, [], s.1, ((s.1).length : Int), (i : Int), ((s.1.take i).filter fun x => (x.2.2.2.1 == (2 : Int)) && (x.2.2.1 == side)).map (·.1), ())) (c := 0) (N := s.1.length) (v' := (side, [], s.1, ((s.1).length : Int), (s.1.length : Int), ((s.1.take s.1.length).filter fun x => (x.2.2.2.1 == (2 : Int)) && (x.2.2.1 == side)).map (·.1), ())) (fun i hi => by
    have h1 : s.1[i]? = some s.1[i] := List.getElem?_eq_getElem hi
    have hw := wrap_nat (n := i) (by omega)
    have hn : (side == (-1 : Int)) = false := by simpa using hs
    have hz : ∀ x : Int, (@HAppend.hAppend (List Int) (List Int) (List Int) _ (((s.1.take i).filter fun x => (x.2.2.2.1 == (2 : Int)) && (x.2.2.1 == side)).map (·.1)) [x]).length * 8 ≤ 140737488351232 := fun x => by
      have := List.length_filter_le (fun x : Ty.T y63 => (x.2.2.2.1 == (2 : Int)) && (x.2.2.1 == side)) (s.1.take i)
      simp only [List.length_append, List.length_cons, List.length_nil, List.length_map, List.length_take] at this ⊢
      omega
    rw [filter_snoc h1]
    cases c1 : ((s.1[i]).2.2.2.1 == (2 : Int)) <;> cases c2 : ((s.1[i]).2.2.1 == side) <;> simp only [s302_0, t302_0, decide_eq_true (show (i : Int) < (s.1.length : Int) by omega), cond_true, cond_false, if_pos (show (0 : Int) ≤ (i : Int) by omega), Int.toNat_natCast, h1, optC_some, hw, hn, c1, c2, Bool.and_true, Bool.and_false, if_pos (hz _), List.append_nil, List.map_append, List.map_cons, List.map_nil] <;> rfl) (by simp [s302_0, t302_0]) s.1.length 0 (n302_0 (side, [], s.1, ((s.1).length : Int), 0, [], ())) (by omega) (by simp only [n302_0]; omega)
  have hk : k302_0 side [] s.1 ((s.1).length : Int) 0 [] 0 = true := at_of h 0
  have hw : w302_0 side [] s.1 ((s.1).length : Int) 0 [] = _ := val_of h
  unfold d302 v302
  rw [hk, hw]
  exact ⟨rfl, by simp⟩
theorem holds (s : Ty.T y36) (x : Int) (g : Ty.T y104) (hb : s.1.length ≤ 1048576) (hl : s.2.1.length ≤ 1048576) : d311 s x g = true ∧ d255 s x g = true ∧ v255 s x g = v311 s x g := by
  have h1 := manyS s x hb
  have h2 := bentS s x hb
  have h3 := bentI s x hb
  unfold d311 d255 v311 v255 t311
  try simp only [getD_cond, isSome_cond, getD_sm, getD_no, isSome_sm, isSome_no, getD_opt, isSome_opt, isSome_ite, isSome_ifz]
  rw [guardOk, isSide, h1.1, h1.2, h2.1, h2.2, h3.1, h3.2]
  cases v298 g
  · exact ⟨rfl, rfl, rfl⟩
  · cases hS : v239 x 0 (IntKind.wrap .i64 (((s.2.1).length : Int) - (1 : Int)))
    · exact ⟨rfl, rfl, rfl⟩
    · rw [wrap_in (by omega) (by omega)] at hS
      simp only [v239] at hS
      have cc : ∀ (p q r : Bool), cond p q r = true ↔ (p = true ∧ q = true) ∨ (p = false ∧ r = true) := by decide
      have cf : ∀ (p q r : Bool), cond p q r = false ↔ (p = true ∧ q = false) ∨ (p = false ∧ r = false) := by decide
      simp [cc, cf] at hS
      have h0 : 0 ≤ x := hS.1
      have hx : ∃ y, s.2.1[x.toNat]? = some y := ⟨s.2.1[x.toNat]'(by omega), List.getElem?_eq_getElem _⟩
      obtain ⟨y, hy⟩ := hx
      have h4 := onF s x (by omega) hb
      have h5 := many_wrap x s.1 0 (by omega) (by omega)
      rw [h4.1, h4.2, hy, h5]
      simp only [optD, optV, h0, decide_true, Bool.true_and, Bool.not_true, cond_false, cond_true, List.length_map, Int.zero_add]
      refine ⟨?_, ?_, rfl⟩ <;> simp
theorem bound (a : Int) : v173 a = v280 a := by
  unfold v173 v280
  by_cases h1 : (2147483647 : Int) < a <;> by_cases h2 : a < (-2147483647 : Int) <;> simp only [h1, h2, gt_iff_lt, decide_true, decide_false, if_true, if_false, cond_true, cond_false] <;> (try split) <;> omega
theorem upto (a b : Int) : v192 a b = v148 a b := by
  unfold v192 v148
  by_cases h1 : b < a <;> simp only [h1, gt_iff_lt, decide_true, decide_false, if_true, if_false, cond_true, cond_false]
  · by_cases h2 : b < 0 <;> simp only [h2, decide_true, decide_false, cond_true, cond_false] <;> split <;> omega
  · by_cases h2 : a < 0 <;> simp only [h2, decide_true, decide_false, cond_true, cond_false] <;> split <;> omega
theorem plus (a b : Int) : v220 a b = v222 a b := by unfold v220 v222; simp only [bound]
theorem less (a b : Int) : v219 a b = v221 a b := by unfold v219 v221; simp only [bound]
theorem twice (a : Int) : v338 a = v335 a := by unfold v338 v335; simp only [bound]
theorem half (a : Int) : v339 a = v336 a := by unfold v339 v336; simp only [bound]
theorem withN (e : Ty.T y27) (n : Int) : v323 e n = v272 e n := by unfold v323 v272; rw [upto]
theorem amount (a : Ty.T y106) (n : Int) : v324 a n = v313 a n := by unfold v324 v313; simp only [upto, plus, twice, half]
noncomputable def partF (e x : Ty.T y27) : Ty.T y27 := cond (x.2.2.2.2.1 == (-1 : Int)) (x.1, x.2.1, x.2.2.1, x.2.2.2.1, v148 e.2.2.2.2.1 2147483647, x.2.2.2.2.2) x
theorem partS9 (a : Ty.T y106) (h : ¬ a.1 = 9) (e : Ty.T y27) : d273 a e = true ∧ v273 a e = [] := by
  have hb : (a.1 == (9 : Int)) = false := by simpa using h
  have h : iter s273_0 (n273_0 ([], 0, a, e, [], ())) ([], 0, a, e, [], ()) = some (0, ([], 0, a, e, [], ())) := by
    rw [show n273_0 ([], 0, a, e, [], ()) = (n273_0 ([], 0, a, e, [], ()) - 1) + 1 by simp only [n273_0]; omega]
    have : s273_0 ([], 0, a, e, [], ()) = some (1, ([], 0, a, e, [], ())) := by
      simp only [s273_0, t273_0, hb, cond_false]
      cases decide ((0 : Int) < (a.2.2.2.2.2.2.length : Int)) <;> rfl
    rw [iter, this]
    rfl
  have hk : k273_0 [] 0 a e [] 0 = true := at_of h 0
  have hw : w273_0 [] 0 a e [] = _ := val_of h
  unfold d273 v273
  rw [hk, hw]
  exact ⟨rfl, rfl⟩
theorem partS (a : Ty.T y106) (h9 : a.1 = 9) (e : Ty.T y27) (hb : a.2.2.2.2.2.2.length ≤ 1048576) : d273 a e = true ∧ v273 a e = a.2.2.2.2.2.2.map (partF e) := by
  have h := seq_iter (s := s273_0) (f := fun i => ([], (i : Int), a, e, (a.2.2.2.2.2.2.take i).map (partF e), ())) (c := 0) (N := a.2.2.2.2.2.2.length) (v' := ([], (a.2.2.2.2.2.2.length : Int), a, e, (a.2.2.2.2.2.2.take a.2.2.2.2.2.2.length).map (partF e), ())) (fun i hi => by
    have h1 : a.2.2.2.2.2.2[i]? = some a.2.2.2.2.2.2[i] := List.getElem?_eq_getElem hi
    have hw := wrap_nat (n := i) (by omega)
    have hz : ∀ x : Ty.T y27, (@HAppend.hAppend (List (Ty.T y27)) (List (Ty.T y27)) (List (Ty.T y27)) _ ((a.2.2.2.2.2.2.take i).map (partF e)) [x]).length * 56 ≤ 140737488351232 := fun x => by
      simp only [List.length_append, List.length_cons, List.length_nil, List.length_map, List.length_take]
      omega
    rw [take_snoc h1, List.map_append, List.map_cons, List.map_nil]
    cases c1 : ((a.2.2.2.2.2.2[i]).2.2.2.2.1 == (-1 : Int)) <;> simp only [s273_0, t273_0, decide_eq_true (show (i : Int) < (a.2.2.2.2.2.2.length : Int) by omega), cond_true, cond_false, if_pos (show (0 : Int) ≤ (i : Int) by omega), Int.toNat_natCast, h1, optC_some, hw, c1, h9, beq_self_eq_true, if_pos (hz _), partF] <;> rfl) (by simp [s273_0, t273_0]) a.2.2.2.2.2.2.length 0 (n273_0 ([], 0, a, e, [], ())) (by omega) (by simp only [n273_0]; omega)
  have hk : k273_0 [] 0 a e [] 0 = true := at_of h 0
  have hw : w273_0 [] 0 a e [] = _ := val_of h
  unfold d273 v273
  rw [hk, hw]
  exact ⟨rfl, by simp⟩
theorem partI9 (a : Ty.T y106) (h : ¬ a.1 = 9) (e : Ty.T y27) : d325 a e = true ∧ v325 a e = [] := by
  have hb : (a.1 != (9 : Int)) = true := by simpa using h
  unfold d325 v325
  rw [hb]
  exact ⟨rfl, rfl⟩
theorem partI (a : Ty.T y106) (h9 : a.1 = 9) (e : Ty.T y27) (hb : a.2.2.2.2.2.2.length ≤ 1048576) : d325 a e = true ∧ v325 a e = a.2.2.2.2.2.2.map (partF e) := by
  have hb9 : (a.1 != (9 : Int)) = false := by rw [h9]; rfl
  have h := seq_iter (s := s325_0) (f := fun i => ([], a.2.2.2.2.2.2, ((a.2.2.2.2.2.2).length : Int), (i : Int), e, (a.2.2.2.2.2.2.take i).map (partF e), ())) (c := 0) (N := a.2.2.2.2.2.2.length) (v' := ([], a.2.2.2.2.2.2, ((a.2.2.2.2.2.2).length : Int), (a.2.2.2.2.2.2.length : Int), e, (a.2.2.2.2.2.2.take a.2.2.2.2.2.2.length).map (partF e), ())) (fun i hi => by
    have h1 : a.2.2.2.2.2.2[i]? = some a.2.2.2.2.2.2[i] := List.getElem?_eq_getElem hi
    have hw := wrap_nat (n := i) (by omega)
    have hz : ∀ x : Ty.T y27, (@HAppend.hAppend (List (Ty.T y27)) (List (Ty.T y27)) (List (Ty.T y27)) _ ((a.2.2.2.2.2.2.take i).map (partF e)) [x]).length * 56 ≤ 140737488351232 := fun x => by
      simp only [List.length_append, List.length_cons, List.length_nil, List.length_map, List.length_take]
      omega
    rw [take_snoc h1, List.map_append, List.map_cons, List.map_nil]
    cases c1 : ((a.2.2.2.2.2.2[i]).2.2.2.2.1 == (-1 : Int)) <;> simp only [s325_0, t325_0, decide_eq_true (show (i : Int) < (a.2.2.2.2.2.2.length : Int) by omega), cond_true, cond_false, if_pos (show (0 : Int) ≤ (i : Int) by omega), Int.toNat_natCast, h1, optC_some, hw, c1, upto, if_pos (hz _), partF] <;> rfl) (by simp [s325_0, t325_0]) a.2.2.2.2.2.2.length 0 (n325_0 ([], a.2.2.2.2.2.2, ((a.2.2.2.2.2.2).length : Int), 0, e, [], ())) (by omega) (by simp only [n325_0]; omega)
  have hk : k325_0 [] a.2.2.2.2.2.2 ((a.2.2.2.2.2.2).length : Int) 0 e [] 0 = true := at_of h 0
  have hw : w325_0 [] a.2.2.2.2.2.2 ((a.2.2.2.2.2.2).length : Int) 0 e [] = _ := val_of h
  unfold d325 v325
  rw [hk, hw]
  rw [hb9]
  exact ⟨rfl, by simp⟩
theorem parts (a : Ty.T y106) (e : Ty.T y27) (hb : a.2.2.2.2.2.2.length ≤ 1048576) : d273 a e = true ∧ d325 a e = true ∧ v325 a e = v273 a e := by
  by_cases h : a.1 = 9
  · have h1 := partS a h e hb
    have h2 := partI a h e hb
    exact ⟨h1.1, h2.1, by rw [h1.2, h2.2]⟩
  · have h1 := partS9 a h e
    have h2 := partI9 a h e
    exact ⟨h1.1, h2.1, by rw [h1.2, h2.2]⟩
theorem partsLen (a : Ty.T y106) (e : Ty.T y27) (hb : a.2.2.2.2.2.2.length ≤ 1048576) : (v273 a e).length ≤ a.2.2.2.2.2.2.length := by
  by_cases h : a.1 = 9
  · rw [(partS a h e hb).2]; simp
  · rw [(partS9 a h e).2]; simp
theorem fits (s : Ty.T y36) (x : Ty.T y108) (e : Ty.T y27) (hb : s.1.length ≤ 1048576) (hl : s.2.1.length ≤ 1048576) (hv : x.2.2.2.2.2.2.1.2.2.2.2.2.2.length ≤ 1048576) : d269 s x e = true ∧ d182 s x e = true ∧ v182 s x e = v269 s x e := by
  have h1 := effectOk x hv
  have h2 := holds s x.2.1 x.2.2.2.2.2.1 hb hl
  have h3 := patF s x.2.1 x.2.2.2.2.1 e hb
  unfold d269 d182 v269 v182
  rw [h1.1, h1.2.1, h1.2.2, lives, near, h2.1, h2.2.1, h2.2.2, h3.1, h3.2.1, h3.2.2]
  refine ⟨?_, ?_, rfl⟩ <;> simp
theorem fitsOk (s : Ty.T y36) (x : Ty.T y108) (e : Ty.T y27) (hv : x.2.2.2.2.2.2.1.2.2.2.2.2.2.length ≤ 1048576) (h : v269 s x e = true) : v242 x = true := by
  unfold v269 at h
  rw [(effectOk x hv).1] at h
  cases hc : v242 x with
  | true => rfl
  | false => rw [hc] at h; cases h
theorem okClass (x : Ty.T y108) (h : v242 x = true) : @LE.le Int _ 0 x.2.2.2.1 ∧ @LE.le Int _ x.2.2.2.1 4 := by
  cases hc : v239 x.2.2.2.1 0 4 with
  | true =>
    simp only [v239] at hc
    have cc : ∀ (p q r : Bool), cond p q r = true ↔ (p = true ∧ q = true) ∨ (p = false ∧ r = true) := by decide
    have cf : ∀ (p q r : Bool), cond p q r = false ↔ (p = true ∧ q = false) ∨ (p = false ∧ r = false) := by decide
    simpa [cc, cf] using hc
  | false =>
    exfalso
    simp only [v242, t242, hc, getD_cond, isSome_cond, getD_sm, getD_no, isSome_sm, isSome_no, getD_opt, isSome_opt, isSome_ite, isSome_ifz] at h
    cases h1 : v239 x.1 1 99 <;> cases h2 : v239 x.2.1 0 2 <;> cases h3 : v239 x.2.2.1 0 99 <;> simp [h1, h2, h3] at h
theorem ea (l : List (Ty.T y108)) (id : Int) (hb : l.length ≤ 1048576) : d246 l id = true ∧ v246 l id = (match first (fun i => match l[i]? with | some x => (x.1 == id) | none => false) 0 l.length with | some j => (j : Int) | none => -1) := by
  have h := find_iter (s := s246_0) (mk := fun i => (l, id, 0, i, ())) (fin := fun i => (l, id, (i : Int), (i : Int), ())) (p := fun i => match l[i]? with | some x => (x.1 == id) | none => false) (N := l.length) (fun i hi => by
    have h1 := List.getElem?_eq_getElem hi
    simp only [h1]
    skip
    cases ht : (((l[i]).1 == id) : Bool) <;> simp [s246_0, t246_0, optC_some, hi, h1, ht,  wrap_nat (n := i) (by omega)]) (by simp [s246_0, t246_0]) l.length 0 (n246_0 (l, id, 0, 0, ())) (by omega) (by simp [n246_0]; omega)
  unfold d246 v246
  revert h
  generalize first _ 0 l.length = o
  intro h
  cases o with
  | none =>
    have e0 : k246_0 l id 0 0 0 = false := at_of h 0
    have e1 : k246_0 l id 0 0 1 = true := at_of h 1
    rw [e0, e1]
    exact ⟨rfl, rfl⟩
  | some j =>
    have e0 : k246_0 l id 0 0 0 = true := at_of h 0
    have hw : w246_0 l id 0 0 = _ := val_of h
    rw [e0, hw]
    exact ⟨rfl, rfl⟩
theorem eia (l : List (Ty.T y108)) (id : Int) (hb : l.length ≤ 1048576) : d290c1 l id = true ∧ v290c1 l id = (match first (fun i => match l[i]? with | some x => (x.1 == id) | none => false) 0 l.length with | some j => (j : Int) | none => -1) := by
  have h := find_iter (s := s290c1_0) (mk := fun i => (l, id, 0, ((l).length : Int), i, ())) (fin := fun i => (l, id, (i : Int), ((l).length : Int), (i : Int), ())) (p := fun i => match l[i]? with | some x => (x.1 == id) | none => false) (N := l.length) (fun i hi => by
    have h1 := List.getElem?_eq_getElem hi
    simp only [h1]
    skip
    cases ht : (((l[i]).1 == id) : Bool) <;> simp [s290c1_0, t290c1_0, optC_some, hi, h1, ht, v291c1, wrap_nat (n := i) (by omega)]) (by simp [s290c1_0, t290c1_0]) l.length 0 (n290c1_0 (l, id, 0, ((l).length : Int), 0, ())) (by omega) (by simp [n290c1_0]; omega)
  unfold d290c1 v290c1
  revert h
  generalize first _ 0 l.length = o
  intro h
  cases o with
  | none =>
    have e0 : k290c1_0 l id 0 ((l).length : Int) 0 0 = false := at_of h 0
    have e1 : k290c1_0 l id 0 ((l).length : Int) 0 1 = true := at_of h 1
    rw [e0, e1]
    exact ⟨rfl, rfl⟩
  | some j =>
    have e0 : k290c1_0 l id 0 ((l).length : Int) 0 0 = true := at_of h 0
    have hw : w290c1_0 l id 0 ((l).length : Int) 0 = _ := val_of h
    rw [e0, hw]
    exact ⟨rfl, rfl⟩
theorem ei (l : List (Ty.T y108)) (id : Int) (hb : l.length ≤ 1048576) : d229 l id = true ∧ v229 l id = v246 l id := by
  have h1 := ea l id hb
  have h2 := eia l id hb
  unfold d229 v229
  rw [h2.1, h2.2, h1.2]
  exact ⟨rfl, rfl⟩
theorem op5 {c : Int} (h : c ≤ 4) : ¬ c > 5 ∧ c < 5 := by omega
theorem opAb {c b : Int} (h1 : c ≤ 4) (h2 : b = 5) (h4 : ¬ c < b) : False := by omega
theorem opGt {c b : Int} (h : c > b) : (c == b) = false := by simp; omega
theorem opMid {c b : Int} (h1 : ¬ c > b) (h2 : ¬ c < b) : (c == b) = true := by simp; omega
noncomputable def optF (s : Ty.T y36) (e : Ty.T y27) (u : List (Ty.T (.int .i64))) (p : Int × List (Ty.T (.int .i64))) (x : Ty.T y108) : Int × List (Ty.T (.int .i64)) :=
  cond (u.any fun y => y == x.1) p (cond (!v269 s x e) p (cond (decide (x.2.2.2.1 > p.1)) p (cond (decide (x.2.2.2.1 < p.1)) (x.2.2.2.1, [x.1]) (p.1, p.2 ++ [x.1]))))
structure OptI (l : List (Ty.T y108)) (u : List (Ty.T (.int .i64))) (n : Nat) (p : Int × List (Ty.T (.int .i64))) : Prop where
  len : p.2.length ≤ n
  top : (p.2 = [] ∧ p.1 = 5) ∨ (p.2.length ≠ 0 ∧ p.1 ≤ 4)
  mem : ∀ y ∈ p.2, (∃ x ∈ l, x.1 = y) ∧ (u.any fun z => z == y) = false
theorem optStep {s : Ty.T y36} {e : Ty.T y27} {l : List (Ty.T y108)} {u : List (Ty.T (.int .i64))} {n : Nat} {p : Int × List (Ty.T (.int .i64))} {x : Ty.T y108} (hx : x ∈ l) (hv : x.2.2.2.2.2.2.1.2.2.2.2.2.2.length ≤ 1048576) (h : OptI l u n p) : OptI l u (n + 1) (optF s e u p x) := by
  unfold optF
  cases h1 : u.any fun y => y == x.1
  · cases h2 : v269 s x e
    · exact ⟨Nat.le_succ_of_le h.len, h.top, h.mem⟩
    · have hc := okClass x (fitsOk s x e hv h2)
      by_cases h3 : x.2.2.2.1 > p.1
      · simp only [h3, decide_true, Bool.not_true, cond_false, cond_true]
        exact ⟨Nat.le_succ_of_le h.len, h.top, h.mem⟩
      · by_cases h4 : x.2.2.2.1 < p.1
        · simp only [h3, h4, decide_true, decide_false, Bool.not_true, cond_false, cond_true]
          refine ⟨by simp, .inr ⟨by simp, by simpa using hc.2⟩, fun y hy => ?_⟩
          rw [List.mem_singleton] at hy
          subst hy
          exact ⟨⟨x, hx, rfl⟩, h1⟩
        · simp only [h3, h4, decide_false, Bool.not_true, cond_false]
          refine ⟨by simp only [List.length_append, List.length_cons, List.length_nil]; have := h.len; omega, .inr ⟨by simp, ?_⟩, fun y hy => ?_⟩
          · show p.1 ≤ 4
            rcases h.top with h5 | h5
            · exact (opAb hc.2 h5.2 h4).elim
            · exact h5.2
          · rcases List.mem_append.1 hy with hy | hy
            · exact h.mem y hy
            · rw [List.mem_singleton] at hy
              subst hy
              exact ⟨⟨x, hx, rfl⟩, h1⟩
  · exact ⟨Nat.le_succ_of_le h.len, h.top, h.mem⟩
theorem optAll (s : Ty.T y36) (e : Ty.T y27) (l : List (Ty.T y108)) (u : List (Ty.T (.int .i64))) (hv : ∀ x ∈ l, x.2.2.2.2.2.2.1.2.2.2.2.2.2.length ≤ 1048576) : ∀ n, n ≤ l.length → OptI l u n ((l.take n).foldl (optF s e u) (5, []))
  | 0, _ => ⟨by simp, .inl ⟨rfl, rfl⟩, fun y hy => by cases hy⟩
  | n + 1, h => by
    rw [foldl_snoc (List.getElem?_eq_getElem (l := l) (i := n) (by omega))]
    exact optStep (List.getElem_mem _) (hv _ (List.getElem_mem _)) (optAll s e l u hv n (by omega))
theorem optS (s : Ty.T y36) (l : List (Ty.T y108)) (e : Ty.T y27) (u : List (Ty.T (.int .i64))) (hb : s.1.length ≤ 1048576) (hs : s.2.1.length ≤ 1048576) (hn : l.length ≤ 1048576) (hu : u.length ≤ 1048576) (hv : ∀ x ∈ l, x.2.2.2.2.2.2.1.2.2.2.2.2.2.length ≤ 1048576) : d243 s l e u = true ∧ v243 s l e u = (l.foldl (optF s e u) (5, [])).2 := by
  have h := seq_iter (s := s243_0) (f := fun i => (l, u, [], ((l.take i).foldl (optF s e u) (5, [])).1, (i : Int), s, e, ((l.take i).foldl (optF s e u) (5, [])).2, ())) (c := 0) (N := l.length) (v' := (l, u, [], ((l.take l.length).foldl (optF s e u) (5, [])).1, (l.length : Int), s, e, ((l.take l.length).foldl (optF s e u) (5, [])).2, ())) (fun i hi => by
    have h1 : l[i]? = some l[i] := List.getElem?_eq_getElem hi
    have hw := wrap_nat (n := i) (by omega)
    have hf := fits s l[i] e hb hs (hv _ (List.getElem_mem hi))
    have hh := hasS u (l[i]).1 hu
    have hI := optAll s e l u hv i (by omega)
    rw [foldl_snoc h1]
    revert hI
    generalize (l.take i).foldl (optF s e u) (5, []) = p
    obtain ⟨b, o⟩ := p
    intro hI
    have hz : ∀ x : Int, (@HAppend.hAppend (List Int) (List Int) (List Int) _ o [x]).length * 8 ≤ 140737488351232 := fun x => by
      have : o.length ≤ i := hI.len
      simp only [List.length_append, List.length_cons, List.length_nil]
      omega
    have hz2 : (o.length + 1) * 8 ≤ 140737488351232 := by
      have : o.length ≤ i := hI.len
      omega
    cases c1 : u.any fun y => y == (l[i]).1 <;> cases c2 : v269 s l[i] e <;> by_cases c3 : (l[i]).2.2.2.1 > b <;> by_cases c4 : (l[i]).2.2.2.1 < b <;> simp [s243_0, t243_0, hi, h1, optC_some, hw, hh.1, hh.2, hf.1, hf.2.1, hf.2.2, c1, c2, c3, c4, optF, hz2]) (by simp [s243_0, t243_0]) l.length 0 (n243_0 (l, u, [], 5, 0, s, e, [], ())) (by omega) (by simp only [n243_0]; omega)
  have hk : k243_0 l u [] 5 0 s e [] 0 = true := at_of h 0
  have hw : w243_0 l u [] 5 0 s e [] = _ := val_of h
  unfold d243 v243
  rw [hk, hw]
  exact ⟨rfl, by simp⟩
def optB (p : Int × List (Ty.T (.int .i64))) : Int := match p.2 with | [] => 0 | _ :: _ => p.1
theorem optI (s : Ty.T y36) (l : List (Ty.T y108)) (e : Ty.T y27) (u : List (Ty.T (.int .i64))) (hb : s.1.length ≤ 1048576) (hs : s.2.1.length ≤ 1048576) (hn : l.length ≤ 1048576) (hu : u.length ≤ 1048576) (hv : ∀ x ∈ l, x.2.2.2.2.2.2.1.2.2.2.2.2.2.length ≤ 1048576) : d76 s l e u = true ∧ v76 s l e u = (l.foldl (optF s e u) (5, [])).2 := by
  have h := seq_iter (s := s76_0) (f := fun i => (u, [], (optB ((l.take i).foldl (optF s e u) (5, []))), l, ((l).length : Int), (i : Int), s, e, ((l.take i).foldl (optF s e u) (5, [])).2, ())) (c := 0) (N := l.length) (v' := (u, [], (optB ((l.take l.length).foldl (optF s e u) (5, []))), l, ((l).length : Int), (l.length : Int), s, e, ((l.take l.length).foldl (optF s e u) (5, [])).2, ())) (fun i hi => by
    have h1 : l[i]? = some l[i] := List.getElem?_eq_getElem hi
    have hw := wrap_nat (n := i) (by omega)
    have hf := fits s l[i] e hb hs (hv _ (List.getElem_mem hi))
    have hh := hasI u (l[i]).1 hu
    have hI := optAll s e l u hv i (by omega)
    rw [foldl_snoc h1]
    revert hI
    generalize (l.take i).foldl (optF s e u) (5, []) = p
    obtain ⟨b, o⟩ := p
    intro hI
    have hz : ∀ x : Int, (@HAppend.hAppend (List Int) (List Int) (List Int) _ o [x]).length * 8 ≤ 140737488351232 := fun x => by
      have : o.length ≤ i := hI.len
      simp only [List.length_append, List.length_cons, List.length_nil]
      omega
    have hz2 : (o.length + 1) * 8 ≤ 140737488351232 := by
      have : o.length ≤ i := hI.len
      omega
    have hcl : v269 s l[i] e = true → (l[i]).2.2.2.1 ≤ 4 := fun h => (okClass _ (fitsOk s _ e (hv _ (List.getElem_mem hi)) h)).2
    cases o with
    | nil =>
      have h5 : b = 5 := by
        rcases hI.top with h | h
        · exact h.2
        · exact absurd rfl h.1
      subst h5
      cases c1 : u.any fun y => y == (l[i]).1 <;> cases c2 : v269 s l[i] e <;> try (have c3 := hcl c2)
      all_goals simp [s76_0, t76_0, hi, h1, optC_some, hw, hh.1, hh.2, hf.1, hf.2.1, hf.2.2, c1, c2, optF, optB]
      all_goals simp [(op5 (hcl c2)).1, (op5 (hcl c2)).2]
    | cons y o =>
      have hl : ((((y :: o).length : Nat) : Int) == (0 : Int)) = false := by simp; omega
      have hl2 : (((o.length : Nat) : Int) + 1 == (0 : Int)) = false := by simp; omega
      cases c1 : u.any fun y => y == (l[i]).1 <;> cases c2 : v269 s l[i] e <;> by_cases c3 : (l[i]).2.2.2.1 > b <;> by_cases c4 : (l[i]).2.2.2.1 < b <;> try exact (Int.lt_asymm c3 c4).elim
      all_goals (try (have c5 := opGt c3))
      all_goals (try (have c5 := opMid c3 c4))
      all_goals simp [s76_0, t76_0, hi, h1, optC_some, hw, hh.1, hh.2, hf.1, hf.2.1, hf.2.2, c1, c2, c3, c4, optF, optB, hl, hl2]
      all_goals try simp [hl2, c5]
      all_goals try (simp only [List.length_cons] at hz2; simp [hz2])
      all_goals try omega) (by simp [s76_0, t76_0]) l.length 0 (n76_0 (u, [], 0, l, ((l).length : Int), 0, s, e, [], ())) (by omega) (by simp only [n76_0]; omega)
  have hk : k76_0 u [] 0 l ((l).length : Int) 0 s e [] 0 = true := at_of h 0
  have hw : w76_0 u [] 0 l ((l).length : Int) 0 s e [] = _ := val_of h
  unfold d76 v76
  rw [hk, hw]
  exact ⟨rfl, by simp⟩
theorem options (s : Ty.T y36) (l : List (Ty.T y108)) (e : Ty.T y27) (u : List (Ty.T (.int .i64))) (hb : s.1.length ≤ 1048576) (hs : s.2.1.length ≤ 1048576) (hn : l.length ≤ 1048576) (hu : u.length ≤ 1048576) (hv : ∀ x ∈ l, x.2.2.2.2.2.2.1.2.2.2.2.2.2.length ≤ 1048576) : d243 s l e u = true ∧ d76 s l e u = true ∧ v76 s l e u = v243 s l e u ∧ (v243 s l e u).length ≤ l.length ∧ (∀ y ∈ v243 s l e u, (∃ x ∈ l, x.1 = y) ∧ (u.any fun z => z == y) = false) := by
  have h1 := optS s l e u hb hs hn hu hv
  have h2 := optI s l e u hb hs hn hu hv
  have h3 := optAll s e l u hv l.length (Nat.le_refl _)
  rw [List.take_length] at h3
  rw [h1.2, h2.2]
  exact ⟨h1.1, h2.1, rfl, h3.len, h3.mem⟩
theorem dix (l : List (Ty.T y27)) (hb : l.length ≤ 1048576) : d249c2 l = true ∧ v249c2 l = (match first (fun i => match l[i]? with | some x => (v288 x) | none => false) 0 l.length with | some j => (j : Int) | none => -1) := by
  have h := find_iter (s := s249c2_0) (mk := fun i => (l, 0, ((l).length : Int), i, ())) (fin := fun i => (l, (i : Int), ((l).length : Int), (i : Int), ())) (p := fun i => match l[i]? with | some x => (v288 x) | none => false) (N := l.length) (fun i hi => by
    have h1 := List.getElem?_eq_getElem hi
    simp only [h1]
    skip
    cases ht : ((v288 l[i]) : Bool) <;> simp [s249c2_0, t249c2_0, optC_some, hi, h1, ht,  wrap_nat (n := i) (by omega)]) (by simp [s249c2_0, t249c2_0]) l.length 0 (n249c2_0 (l, 0, ((l).length : Int), 0, ())) (by omega) (by simp [n249c2_0]; omega)
  unfold d249c2 v249c2
  revert h
  generalize first _ 0 l.length = o
  intro h
  cases o with
  | none =>
    have e0 : k249c2_0 l 0 ((l).length : Int) 0 0 = false := at_of h 0
    have e1 : k249c2_0 l 0 ((l).length : Int) 0 1 = true := at_of h 1
    rw [e0, e1]
    exact ⟨rfl, rfl⟩
  | some j =>
    have e0 : k249c2_0 l 0 ((l).length : Int) 0 0 = true := at_of h 0
    have hw : w249c2_0 l 0 ((l).length : Int) 0 = _ := val_of h
    rw [e0, hw]
    exact ⟨rfl, rfl⟩
theorem delF (l : List (Ty.T y27)) (hb : l.length ≤ 1048576) : d176g1 l = true ∧ v176g1 l = l.filter fun x => !v288 x := by
  have h0 := dix l hb
  cases hf : first (fun i => match l[i]? with | some x => (v288 x) | none => false) 0 l.length with
  | none =>
    rw [hf] at h0
    have hk := take_kept (p := v288) (xs := l) (j := l.length) (fun t x ht hx => by have := first_none hf t (by omega) (by omega); simpa only [hx] using this) (Nat.le_refl _)
    rw [List.take_length] at hk
    unfold d176g1 v176g1 t176g1
    try simp only [getD_cond, isSome_cond, getD_sm, getD_no, isSome_sm, isSome_no, getD_opt, isSome_opt, isSome_ite, isSome_ifz]
    rw [h0.1, h0.2, ← hk]
    exact ⟨rfl, rfl⟩
  | some j =>
    rw [hf] at h0
    obtain ⟨_, hj, hp⟩ := first_some hf
    have hk := take_kept (p := v288) (xs := l) (j := j) (fun t x ht hx => by have := first_min hf t (by omega) (by omega); simpa only [hx] using this) (by omega)
    have hx : l[j]? = some l[j] := List.getElem?_eq_getElem (by omega)
    simp only [hx] at hp
    have hw1 := wrap_nat (n := j) (by omega)
    have h := inv_iter (s := s176g1_0) (mk := fun k : List (Ty.T y27) × Nat × Nat => ([], (k.2.1 : Int), (k.2.2 : Int), k.1, ()))
      (Inv := fun t k => k.2.2 = t ∧ k.2.1 < t ∧ k.1.length = l.length ∧ k.1.take k.2.1 = (l.take t).filter (fun x => !v288 x) ∧ ∀ r, t ≤ r → k.1[r]? = l[r]?)
      (Q := fun v => ∃ (i : Nat) (m : List (Ty.T y27)), v = ([], (i : Int), (l.length : Int), m, ()) ∧ i ≤ m.length ∧ m.take i = l.filter fun x => !v288 x)
      (c := 0) (N := l.length) (fun t k ht hI => by
        obtain ⟨m, i, r⟩ := k
        obtain ⟨hr, hi, hl, htk, hd⟩ := hI
        dsimp only at hr hi hl htk hd
        subst hr
        have hx : l[r]? = some l[r] := List.getElem?_eq_getElem ht
        have hm : m[r]? = some l[r] := by rw [hd r (Nat.le_refl _), hx]
        obtain ⟨y, hy⟩ : ∃ y, m[i]? = some y := ⟨m[i]'(by omega), List.getElem?_eq_getElem _⟩
        have g1 : (r : Int) < (m.length : Int) := by omega
        have g2 : (i : Int) < (m.length : Int) := by omega
        have g3 := wrap_nat (n := r) (by omega)
        have g4 := wrap_nat (n := i) (by omega)
        have g5 : (0 : Int) ≤ (r : Int) := by omega
        have g6 : (0 : Int) ≤ (i : Int) := by omega
        cases hq : v288 l[r] with
        | false =>
          have h := keep_step (q := fun x => !v288 x) hx hi hl htk hd (by rw [hq]; rfl)
          refine ⟨(m.set i l[r], i + 1, r + 1), ?_, rfl, h⟩
          simp only [s176g1_0, t176g1_0, decide_eq_true g1, cond_true, if_pos g5, if_pos g1, Int.toNat_natCast, hm, optC_some, hq, Bool.not_false, if_pos g6, if_pos g2, hy, g3, g4]
        | true =>
          have h := keep_skip (q := fun x => !v288 x) hx hi htk hd (by rw [hq]; rfl)
          refine ⟨(m, i, r + 1), ?_, rfl, h.1, hl, h.2⟩
          simp only [s176g1_0, t176g1_0, decide_eq_true g1, cond_true, if_pos g5, if_pos g1, Int.toNat_natCast, hm, optC_some, hq, Bool.not_true, cond_false, g3])
      (fun k hI => by
        obtain ⟨m, i, r⟩ := k
        obtain ⟨hr, hi, hl, htk, hd⟩ := hI
        dsimp only at hr hi hl htk hd
        subst hr
        refine ⟨_, ?_, i, m, rfl, by omega, by rw [htk, List.take_length]⟩
        have g1 : ¬ ((l.length : Int) < (m.length : Int)) := by omega
        simp only [s176g1_0, t176g1_0, decide_eq_false g1, cond_false])
      (l.length - (j + 1)) (j + 1) (n176g1_0 ([], (j : Int), ((j + 1 : Nat) : Int), l, ())) (l, j, j + 1) (by omega) (by simp only [n176g1_0]; omega) ⟨rfl, Nat.lt_succ_self j, rfl, by rw [filter_snoc hx, ← hk]; simp [hp], fun _ _ => rfl⟩
    obtain ⟨v', hv, i, m, rfl, hi, hm⟩ := h
    have hkk : k176g1_0 [] (j : Int) ((j + 1 : Nat) : Int) l 0 = true := at_of hv 0
    have hww : w176g1_0 [] (j : Int) ((j + 1 : Nat) : Int) l = _ := val_of hv
    have e1 : (((j : Nat) : Int) == (-1 : Int)) = false := by simp
    have e2 : ∀ R D : List (Ty.T y27), ((m.take i ++ R ++ D).take i) = m.take i := fun R D => by rw [List.append_assoc, List.take_append_of_le_length (by simp; omega), List.take_take, Nat.min_self]
    have g0 : (0 : Int) ≤ (i : Int) := by omega
    have g1 : (i : Int) ≤ (m.length : Int) := by omega
    have g2 : ∀ R D : List (Ty.T y27), (i : Int) ≤ ((m.take i ++ R ++ D).length : Int) := fun R D => by simp only [List.length_append, List.length_take]; omega
    unfold d176g1 v176g1 t176g1
    try simp only [getD_cond, isSome_cond, getD_sm, getD_no, isSome_sm, isSome_no, getD_opt, isSome_opt, isSome_ite, isSome_ifz]
    rw [h0.1, h0.2]
    simp only [e1, hw1, hkk, hww, cond_true, cond_false, if_pos g0, if_pos g1, if_pos (g2 _ _), decide_eq_true g0, decide_eq_true g1, decide_eq_true (g2 _ _), Bool.and_true, Int.toNat_natCast, e2]
    rw [hm]
    exact ⟨trivial, rfl⟩
theorem spent (e : Ty.T y108) (n : Int) (hb : e.2.2.2.2.2.2.1.2.2.2.2.2.2.length ≤ 1048576) : d275 e n = true ∧ d289 e n = true ∧ v289 e n = v275 e n := by
  have h1 := cpS e hb
  have h2 := cpI e hb
  unfold d275 d289 v275 v289 t275 t289
  try simp only [getD_cond, isSome_cond, getD_sm, getD_no, isSome_sm, isSome_no, getD_opt, isSome_opt, isSome_ite, isSome_ifz]
  rw [h1.1, h1.2, h2.1, h2.2]
  simp only [cond_true, upto, less]
  cases (e.2.2.2.2.2.2.1.1 == (2 : Int)) <;> cases decide (e.2.2.2.2.2.2.2.2 > (0 : Int)) <;> simp
theorem actd' (i1 i2 i3 i4 : Int) (p : Ty.T y102) (g : Ty.T y104) (k n po t z : Int) (b : Bool) (l : List (Ty.T y27)) (u lf : Int) (v : Ty.T y27) (e : Ty.T y108) (he : e = (i1, i2, i3, i4, p, g, (k, n, po, t, z, b, l), u, lf)) (hb : l.length ≤ 1048576) : g214_1 ([], 0, 0, e.2.2.2.2.2.2.1.1, (e.2.2.2.2.2.2.1.1 == (1 : Int)), e, v, (0, 0, 0, 0, (0, 0, 0, 0, 0, 0, 0), (0, 0), (0, 0, 0, 0, 0, false, []), 0, 0), [], ()) = true ∧ d287 e v = true ∧ v287 e v = c214_1 ([], 0, 0, e.2.2.2.2.2.2.1.1, (e.2.2.2.2.2.2.1.1 == (1 : Int)), e, v, (0, 0, 0, 0, (0, 0, 0, 0, 0, 0, 0), (0, 0), (0, 0, 0, 0, 0, false, []), 0, 0), [], ()) := by
  have hp := parts (k, n, po, t, z, b, l) v hb
  subst he
  by_cases k1 : k = 1
  · subst k1
    simp [g214_1, c214_1, t214_1, v287, t287, d287, v274, t274, upto, withN, amount, hp.1, hp.2.1, hp.2.2, e287_0, getD_cond, isSome_cond, getD_sm, getD_no, isSome_sm, isSome_no, getD_opt, isSome_opt, isSome_ite, isSome_ifz]
    try (cases (v.1 == (1 : Int)) <;> simp)
  by_cases k2 : k = 2
  · subst k2
    simp [g214_1, c214_1, t214_1, v287, t287, d287, v274, t274, upto, withN, amount, hp.1, hp.2.1, hp.2.2, e287_0, getD_cond, isSome_cond, getD_sm, getD_no, isSome_sm, isSome_no, getD_opt, isSome_opt, isSome_ite, isSome_ifz]
    try (skip)
  by_cases k3 : k = 3
  · subst k3
    simp [g214_1, c214_1, t214_1, v287, t287, d287, v274, t274, upto, withN, amount, hp.1, hp.2.1, hp.2.2, e287_0, getD_cond, isSome_cond, getD_sm, getD_no, isSome_sm, isSome_no, getD_opt, isSome_opt, isSome_ite, isSome_ifz]
    try (skip)
  by_cases k4 : k = 4
  · subst k4
    simp [g214_1, c214_1, t214_1, v287, t287, d287, v274, t274, upto, withN, amount, hp.1, hp.2.1, hp.2.2, e287_0, getD_cond, isSome_cond, getD_sm, getD_no, isSome_sm, isSome_no, getD_opt, isSome_opt, isSome_ite, isSome_ifz]
    try (skip)
  by_cases k5 : k = 5
  · subst k5
    simp [g214_1, c214_1, t214_1, v287, t287, d287, v274, t274, upto, withN, amount, hp.1, hp.2.1, hp.2.2, e287_0, getD_cond, isSome_cond, getD_sm, getD_no, isSome_sm, isSome_no, getD_opt, isSome_opt, isSome_ite, isSome_ifz]
    try (skip)
  by_cases k6 : k = 6
  · subst k6
    simp [g214_1, c214_1, t214_1, v287, t287, d287, v274, t274, upto, withN, amount, hp.1, hp.2.1, hp.2.2, e287_0, getD_cond, isSome_cond, getD_sm, getD_no, isSome_sm, isSome_no, getD_opt, isSome_opt, isSome_ite, isSome_ifz]
    try (skip)
  by_cases k7 : k = 7
  · subst k7
    simp [g214_1, c214_1, t214_1, v287, t287, d287, v274, t274, upto, withN, amount, hp.1, hp.2.1, hp.2.2, e287_0, getD_cond, isSome_cond, getD_sm, getD_no, isSome_sm, isSome_no, getD_opt, isSome_opt, isSome_ite, isSome_ifz]
    try (cases (z != (2 : Int)) <;> simp)
  by_cases k8 : k = 8
  · subst k8
    simp [g214_1, c214_1, t214_1, v287, t287, d287, v274, t274, upto, withN, amount, hp.1, hp.2.1, hp.2.2, e287_0, getD_cond, isSome_cond, getD_sm, getD_no, isSome_sm, isSome_no, getD_opt, isSome_opt, isSome_ite, isSome_ifz]
    try (cases (v.2.2.2.2.2.1 == (2 : Int)) <;> cases v.2.2.2.2.2.2 <;> simp)
  by_cases k9 : k = 9
  · subst k9
    simp [g214_1, c214_1, t214_1, v287, t287, d287, v274, t274, upto, withN, amount, hp.1, hp.2.1, hp.2.2, e287_0, getD_cond, isSome_cond, getD_sm, getD_no, isSome_sm, isSome_no, getD_opt, isSome_opt, isSome_ite, isSome_ifz]
    try (skip)
  have j1 : (k == (1 : Int)) = false := by simpa using k1
  have j2 : (k == (2 : Int)) = false := by simpa using k2
  have j3 : (k == (3 : Int)) = false := by simpa using k3
  have j4 : (k == (4 : Int)) = false := by simpa using k4
  have j5 : (k == (5 : Int)) = false := by simpa using k5
  have j6 : (k == (6 : Int)) = false := by simpa using k6
  have j7 : (k == (7 : Int)) = false := by simpa using k7
  have j8 : (k == (8 : Int)) = false := by simpa using k8
  have j9 : (k == (9 : Int)) = false := by simpa using k9
  simp [g214_1, c214_1, t214_1, v287, t287, d287, v274, t274, upto, withN, amount, hp.1, hp.2.1, hp.2.2, e287_0, j1, j2, j3, j4, j5, j6, j7, j8, j9, getD_cond, isSome_cond, getD_sm, getD_no, isSome_sm, isSome_no, getD_opt, isSome_opt, isSome_ite, isSome_ifz]
theorem actd (e : Ty.T y108) (v : Ty.T y27) (hb : e.2.2.2.2.2.2.1.2.2.2.2.2.2.length ≤ 1048576) : g214_1 ([], 0, 0, e.2.2.2.2.2.2.1.1, (e.2.2.2.2.2.2.1.1 == (1 : Int)), e, v, (0, 0, 0, 0, (0, 0, 0, 0, 0, 0, 0), (0, 0), (0, 0, 0, 0, 0, false, []), 0, 0), [], ()) = true ∧ d287 e v = true ∧ v287 e v = c214_1 ([], 0, 0, e.2.2.2.2.2.2.1.1, (e.2.2.2.2.2.2.1.1 == (1 : Int)), e, v, (0, 0, 0, 0, (0, 0, 0, 0, 0, 0, 0), (0, 0), (0, 0, 0, 0, 0, false, []), 0, 0), [], ()) := by
  obtain ⟨i1, i2, i3, i4, p, g, ⟨k, n, po, t, z, b, l⟩, u, lf⟩ := e
  exact actd' i1 i2 i3 i4 p g k n po t z b l u lf v _ rfl hb
theorem actLen (e : Ty.T y108) (v : Ty.T y27) (hb : e.2.2.2.2.2.2.1.2.2.2.2.2.2.length ≤ 1048576) : (c214_1 ([], 0, 0, e.2.2.2.2.2.2.1.1, (e.2.2.2.2.2.2.1.1 == (1 : Int)), e, v, (0, 0, 0, 0, (0, 0, 0, 0, 0, 0, 0), (0, 0), (0, 0, 0, 0, 0, false, []), 0, 0), [], ())).2.length ≤ 1048576 := by
  have hp := parts e.2.2.2.2.2.2.1 v hb
  have hl := partsLen e.2.2.2.2.2.2.1 v hb
  simp only [c214_1, t214_1, hp.1]
  cases h1 : (e.2.2.2.2.2.2.1.1 == (1 : Int)) <;> cases h2 : (v.1 == (1 : Int)) <;> cases h3 : (e.2.2.2.2.2.2.1.1 == (2 : Int)) <;> cases h4 : (e.2.2.2.2.2.2.1.1 == (9 : Int)) <;> simp <;> omega
theorem actParts' (n po t z : Int) (b : Bool) (l : List (Ty.T y27)) (h : v285 ((9, n, po, t, z, b, l) : Ty.T y106) = true) : l.length ≤ 3 := by
  rcases Nat.lt_or_ge 3 l.length with hl | hl
  · exfalso
    have hf : v165 (l.length : Int) 1 3 = false := by simp [v165]; omega
    simp [v285, t285, c285_1, t285_1, c285_3, t285_3, g285_3, hf, getD_cond, isSome_cond, getD_sm, getD_no, isSome_sm, isSome_no, getD_opt, isSome_opt, isSome_ite, isSome_ifz] at h
  · exact hl
theorem okParts (e : Ty.T y108) (hb : e.2.2.2.2.2.2.1.2.2.2.2.2.2.length ≤ 1048576) (h : v242 e = true) (h9 : e.2.2.2.2.2.2.1.1 = 9) : e.2.2.2.2.2.2.1.2.2.2.2.2.2.length ≤ 3 := by
  rw [← (effectOk e hb).2.2] at h
  have ha : v285 e.2.2.2.2.2.2.1 = true := by
    cases hc : v285 e.2.2.2.2.2.2.1 with
    | true => rfl
    | false =>
      exfalso
      have hd := (actOk e.2.2.2.2.2.2.1 hb).2.1
      simp [v227, t227, hc, hd, getD_cond, isSome_cond, getD_sm, getD_no, isSome_sm, isSome_no, getD_opt, isSome_opt, isSome_ite, isSome_ifz] at h
  obtain ⟨i1, i2, i3, i4, p, g, ⟨k, n, po, t, z, b, l⟩, u, lf⟩ := e
  dsimp only at h9 ha ⊢
  subst h9
  exact actParts' n po t z b l ha
theorem actLen3 (e : Ty.T y108) (v : Ty.T y27) (hb : e.2.2.2.2.2.2.1.2.2.2.2.2.2.length ≤ 1048576) (h : v242 e = true) : (c214_1 ([], 0, 0, e.2.2.2.2.2.2.1.1, (e.2.2.2.2.2.2.1.1 == (1 : Int)), e, v, (0, 0, 0, 0, (0, 0, 0, 0, 0, 0, 0), (0, 0), (0, 0, 0, 0, 0, false, []), 0, 0), [], ())).2.length ≤ 3 := by
  have hp := parts e.2.2.2.2.2.2.1 v hb
  have hl := partsLen e.2.2.2.2.2.2.1 v hb
  by_cases h9 : e.2.2.2.2.2.2.1.1 = 9
  · have h3 := okParts e hb h h9
    simp only [c214_1, t214_1, hp.1, h9]
    simp
    omega
  · have h4 : (e.2.2.2.2.2.2.1.1 == (9 : Int)) = false := by simpa using h9
    simp only [c214_1, t214_1, hp.1, h4]
    cases h1 : (e.2.2.2.2.2.2.1.1 == (1 : Int)) <;> cases h2 : (v.1 == (1 : Int)) <;> cases h3 : (e.2.2.2.2.2.2.1.1 == (2 : Int)) <;> simp
theorem keepS (x : Ty.T y27) : (!v288 x) = cond (v157 x) (!v244 x) false := by
  unfold v288
  rw [evOk, gone]
  cases v157 x <;> rfl
theorem actLoop (e : Ty.T y108) (r : Int) (l : List (Ty.T y27)) (hb : l.length ≤ 1048576) : iter s214_2 (n214_2 ([], 0, r, 0, e, (0, 0, 0, 0, (0, 0, 0, 0, 0, 0, 0), (0, 0), (0, 0, 0, 0, 0, false, []), 0, 0), l, [], ())) ([], 0, r, 0, e, (0, 0, 0, 0, (0, 0, 0, 0, 0, 0, 0), (0, 0), (0, 0, 0, 0, 0, false, []), 0, 0), l, [], ()) = some (0, ([], 0, r, (l.length : Int), e, (0, 0, 0, 0, (0, 0, 0, 0, 0, 0, 0), (0, 0), (0, 0, 0, 0, 0, false, []), 0, 0), l, (l.filter fun x => !v288 x), ())) := by
  refine seq_iter (s := s214_2) (f := fun i => ([], 0, r, (i : Int), e, (0, 0, 0, 0, (0, 0, 0, 0, 0, 0, 0), (0, 0), (0, 0, 0, 0, 0, false, []), 0, 0), l, ((l.take i).filter fun x => !v288 x), ())) (c := 0) (N := l.length) (fun i hi => ?_) ?_ l.length 0 _ (by omega) (by simp only [n214_2]; omega)
  · have h1 : l[i]? = some l[i] := List.getElem?_eq_getElem hi
    have hw := wrap_nat (n := i) (by omega)
    have hz : ∀ x : Ty.T y27, ((l.take i).filter (fun x => !v288 x) ++ [x]).length * 56 ≤ 140737488351232 := fun x => by
      have := List.length_filter_le (fun x => !v288 x) (l.take i)
      simp only [List.length_append, List.length_cons, List.length_nil, List.length_take] at this ⊢
      omega
    have g5 : (0 : Int) ≤ (i : Int) := by omega
    have g6 : (i : Int) < (l.length : Int) := by omega
    have hk := keepS l[i]
    rw [filter_snoc h1, hk]
    cases c1 : v157 l[i] <;> cases c2 : v244 l[i] <;> simp only [s214_2, t214_2, g214_3, t214_3, e214_0, c214_3, g214_4, c214_4, t214_4, decide_eq_true g6, cond_true, cond_false, if_pos g5, if_pos g6, Int.toNat_natCast, h1, optC_some, c1, c2, hw, Bool.not_true, Bool.not_false, if_pos (hz _), decide_eq_true (hz _), decide_eq_true g5, Bool.and_true, List.append_nil, Option.getD_some, Option.isSome_some]
  · simp [s214_2, t214_2]
theorem doAct (e : Ty.T y108) (v : Ty.T y27) (hb : e.2.2.2.2.2.2.1.2.2.2.2.2.2.length ≤ 1048576) : d214 e v = true ∧ d228 e v = true ∧ v228 e v = v214 e v ∧ (v214 e v).2.2.2.1.length ≤ 3 ∧ (v214 e v).2.2.2.2 = e.2.2.2.2.2.2.1.2.2.2.2.2.2 ∧ (v214 e v).2.1 = (((e.1, e.2.1, e.2.2.1, e.2.2.2.1, e.2.2.2.2.1, e.2.2.2.2.2.1, e.2.2.2.2.2.2.1.1, e.2.2.2.2.2.2.1.2.1, e.2.2.2.2.2.2.1.2.2.1, e.2.2.2.2.2.2.1.2.2.2.1, e.2.2.2.2.2.2.1.2.2.2.2.1, e.2.2.2.2.2.2.1.2.2.2.2.2.1), e.2.2.2.2.2.2.2, e.2.2.2.2.2.2.1.2.2.2.2.2.2)).1 := by
  have h1 := effectOk e hb
  have h2 := actd e v hb
  have h3 := actLoop e (c214_1 ([], 0, 0, e.2.2.2.2.2.2.1.1, (e.2.2.2.2.2.2.1.1 == (1 : Int)), e, v, (0, 0, 0, 0, (0, 0, 0, 0, 0, 0, 0), (0, 0), (0, 0, 0, 0, 0, false, []), 0, 0), [], ())).1 (c214_1 ([], 0, 0, e.2.2.2.2.2.2.1.1, (e.2.2.2.2.2.2.1.1 == (1 : Int)), e, v, (0, 0, 0, 0, (0, 0, 0, 0, 0, 0, 0), (0, 0), (0, 0, 0, 0, 0, false, []), 0, 0), [], ())).2 (actLen e v hb)
  have h4 := cpS e hb
  have h5 := cpI e hb
  have h6 := spent e (c214_1 ([], 0, 0, e.2.2.2.2.2.2.1.1, (e.2.2.2.2.2.2.1.1 == (1 : Int)), e, v, (0, 0, 0, 0, (0, 0, 0, 0, 0, 0, 0), (0, 0), (0, 0, 0, 0, 0, false, []), 0, 0), [], ())).1 hb
  have h7 := delF (c214_1 ([], 0, 0, e.2.2.2.2.2.2.1.1, (e.2.2.2.2.2.2.1.1 == (1 : Int)), e, v, (0, 0, 0, 0, (0, 0, 0, 0, 0, 0, 0), (0, 0), (0, 0, 0, 0, 0, false, []), 0, 0), [], ())).2 (actLen e v hb)
  have h8 := actLen e v hb
  have hk : k214_2 [] 0 (c214_1 ([], 0, 0, e.2.2.2.2.2.2.1.1, (e.2.2.2.2.2.2.1.1 == (1 : Int)), e, v, (0, 0, 0, 0, (0, 0, 0, 0, 0, 0, 0), (0, 0), (0, 0, 0, 0, 0, false, []), 0, 0), [], ())).1 0 e (0, 0, 0, 0, (0, 0, 0, 0, 0, 0, 0), (0, 0), (0, 0, 0, 0, 0, false, []), 0, 0) (c214_1 ([], 0, 0, e.2.2.2.2.2.2.1.1, (e.2.2.2.2.2.2.1.1 == (1 : Int)), e, v, (0, 0, 0, 0, (0, 0, 0, 0, 0, 0, 0), (0, 0), (0, 0, 0, 0, 0, false, []), 0, 0), [], ())).2 [] 0 = true := at_of h3 0
  have hw : w214_2 [] 0 (c214_1 ([], 0, 0, e.2.2.2.2.2.2.1.1, (e.2.2.2.2.2.2.1.1 == (1 : Int)), e, v, (0, 0, 0, 0, (0, 0, 0, 0, 0, 0, 0), (0, 0), (0, 0, 0, 0, 0, false, []), 0, 0), [], ())).1 0 e (0, 0, 0, 0, (0, 0, 0, 0, 0, 0, 0), (0, 0), (0, 0, 0, 0, 0, false, []), 0, 0) (c214_1 ([], 0, 0, e.2.2.2.2.2.2.1.1, (e.2.2.2.2.2.2.1.1 == (1 : Int)), e, v, (0, 0, 0, 0, (0, 0, 0, 0, 0, 0, 0), (0, 0), (0, 0, 0, 0, 0, false, []), 0, 0), [], ())).2 [] = _ := val_of h3
  have hs : (v275 e (c214_1 ([], 0, 0, e.2.2.2.2.2.2.1.1, (e.2.2.2.2.2.2.1.1 == (1 : Int)), e, v, (0, 0, 0, 0, (0, 0, 0, 0, 0, 0, 0), (0, 0), (0, 0, 0, 0, 0, false, []), 0, 0), [], ())).1).2.2 = e.2.2.2.2.2.2.1.2.2.2.2.2.2 ∧ (v275 e (c214_1 ([], 0, 0, e.2.2.2.2.2.2.1.1, (e.2.2.2.2.2.2.1.1 == (1 : Int)), e, v, (0, 0, 0, 0, (0, 0, 0, 0, 0, 0, 0), (0, 0), (0, 0, 0, 0, 0, false, []), 0, 0), [], ())).1).1 = (((e.1, e.2.1, e.2.2.1, e.2.2.2.1, e.2.2.2.2.1, e.2.2.2.2.2.1, e.2.2.2.2.2.2.1.1, e.2.2.2.2.2.2.1.2.1, e.2.2.2.2.2.2.1.2.2.1, e.2.2.2.2.2.2.1.2.2.2.1, e.2.2.2.2.2.2.1.2.2.2.2.1, e.2.2.2.2.2.2.1.2.2.2.2.2.1), e.2.2.2.2.2.2.2, e.2.2.2.2.2.2.1.2.2.2.2.2.2)).1 := by
    unfold v275 t275
    try simp only [getD_cond, isSome_cond, getD_sm, getD_no, isSome_sm, isSome_no, getD_opt, isSome_opt, isSome_ite, isSome_ifz]
    rw [h4.1, h4.2]
    simp only [cond_true]
    cases (e.2.2.2.2.2.2.1.1 == (2 : Int)) <;> cases decide (e.2.2.2.2.2.2.2.2 > (0 : Int)) <;> exact ⟨rfl, rfl⟩
  have hg : g214_0 ([], 0, e, v, (0, 0, 0, 0, (0, 0, 0, 0, 0, 0, 0), (0, 0), (0, 0, 0, 0, 0, false, []), 0, 0), ()) = true ∧ c214_0 ([], 0, e, v, (0, 0, 0, 0, (0, 0, 0, 0, 0, 0, 0), (0, 0), (0, 0, 0, 0, 0, false, []), 0, 0), ()) = cond (!v242 e) true (cond (!v157 v) true (!v271 e.2.2.2.2.2.2.1 v.1)) := by
    simp only [g214_0, c214_0, t214_0, h1.1, cond_true]
    cases v242 e <;> cases v157 v <;> exact ⟨rfl, rfl⟩
  unfold d214 d228 v214 v228 t214 t228
  try simp only [getD_cond, isSome_cond, getD_sm, getD_no, isSome_sm, isSome_no, getD_opt, isSome_opt, isSome_ite, isSome_ifz]
  rw [hg.1, hg.2, h1.2.1, h1.2.2, evOk, actFits]
  cases c1 : v242 e
  · rw [h4.1, h4.2, h5.1, h5.2]
    simp
  cases c2 : v157 v
  · rw [h4.1, h4.2, h5.1, h5.2]
    simp
  cases c3 : v271 e.2.2.2.2.2.2.1 v.1
  · rw [h4.1, h4.2, h5.1, h5.2]
    simp
  have h9 : ((c214_1 ([], 0, 0, e.2.2.2.2.2.2.1.1, (e.2.2.2.2.2.2.1.1 == (1 : Int)), e, v, (0, 0, 0, 0, (0, 0, 0, 0, 0, 0, 0), (0, 0), (0, 0, 0, 0, 0, false, []), 0, 0), [], ())).2.filter fun x => !v288 x).length ≤ 3 := Nat.le_trans (List.length_filter_le _ _) (actLen3 e v hb c1)
  simp only [e214_1, e214_2]
  rw [h2.1, h2.2.1, h2.2.2, hk, hw]
  simp only [h7.1, h7.2, h6.1, h6.2.1, h6.2.2, hs.1, hs.2, h9, cond_true, cond_false, Bool.not_true, Option.getD_some, Option.isSome_some, and_true, true_and]
def evEq (x y : Ty.T y27) : Bool := ((x.1 == y.1) && ((x.2.1 == y.2.1) && ((x.2.2.1 == y.2.2.1) && ((x.2.2.2.1 == y.2.2.2.1) && ((x.2.2.2.2.1 == y.2.2.2.2.1) && ((x.2.2.2.2.2.1 == y.2.2.2.2.2.1) && ((x.2.2.2.2.2.2 == y.2.2.2.2.2.2) && true)))))))
def evP (xs ys : List (Ty.T y27)) (i : Nat) : Bool := match xs[i]?, ys[i]? with | some x, some y => !evEq x y | _, _ => false
theorem eqI (xs ys : List (Ty.T y27)) (hb : xs.length ≤ 1048576) : d174 xs ys = true ∧ v174 xs ys = (decide (xs.length = ys.length) && (first (evP xs ys) 0 xs.length).isNone) := by
  unfold d174 v174
  by_cases hl : xs.length = ys.length
  · have e0 : ((xs.length : Int) != (ys.length : Int)) = false := by simp [hl]
    have h := find_iter (s := s174_0) (mk := fun i => (xs, ys, false, ((xs).length : Int), i, ())) (fin := fun i => (xs, ys, false, ((xs).length : Int), (i : Int), ())) (p := evP xs ys) (N := xs.length) (fun i hi => by
    have h1 : xs[i]? = some xs[i] := List.getElem?_eq_getElem hi
    have h2 : ys[i]? = some (ys[i]'(by omega)) := List.getElem?_eq_getElem (by omega)
    simp only [evP, h1, h2, evEq]
    have hw := wrap_nat (n := i) (by omega)
    have g5 : (0 : Int) ≤ (i : Int) := by omega
    have g6 : (i : Int) < (xs.length : Int) := by omega
    simp only [s174_0, t174_0, decide_eq_true g6, cond_true, if_pos g5, Int.toNat_natCast, h1, h2, optC_some, hw]) (by simp [s174_0, t174_0]) xs.length 0 (n174_0 (xs, ys, false, ((xs).length : Int), 0, ())) (by omega) (by simp only [n174_0]; omega)
    rw [e0]
    revert h
    generalize first (evP xs ys) 0 xs.length = o
    intro h
    cases o with
    | none =>
      have e0 : k174_0 xs ys false ((xs).length : Int) 0 0 = false := at_of h 0
      have e1 : k174_0 xs ys false ((xs).length : Int) 0 1 = true := at_of h 1
      rw [e0, e1, decide_eq_true hl]
      exact ⟨rfl, rfl⟩
    | some j =>
      have e0 : k174_0 xs ys false ((xs).length : Int) 0 0 = true := at_of h 0
      have hw : w174_0 xs ys false ((xs).length : Int) 0 = _ := val_of h
      rw [e0, hw, decide_eq_true hl]
      exact ⟨rfl, rfl⟩
  · have e0 : ((xs.length : Int) != (ys.length : Int)) = true := by simp; omega
    rw [e0, decide_eq_false hl]
    exact ⟨rfl, rfl⟩
theorem eqS (a b : Ty.T y66) (hb : a.2.2.2.2.2.1.length ≤ 1048576) (hl : a.2.2.2.2.2.1.length = b.2.2.2.2.2.1.length) : iter s263_0 (n263_0 (false, 0, a, b, ())) (false, 0, a, b, ()) = some (match first (evP a.2.2.2.2.2.1 b.2.2.2.2.2.1) 0 a.2.2.2.2.2.1.length with | some j => (0, (fun i => (false, (i : Int), a, b, ())) j) | none => (1, (fun i : Int => (false, i, a, b, ())) (a.2.2.2.2.2.1.length : Int))) := by
  refine find_iter (s := s263_0) (mk := fun i => (false, i, a, b, ())) (fin := fun i => (false, (i : Int), a, b, ())) (p := evP a.2.2.2.2.2.1 b.2.2.2.2.2.1) (N := a.2.2.2.2.2.1.length) (fun i hi => ?_) ?_ a.2.2.2.2.2.1.length 0 (n263_0 (false, 0, a, b, ())) (by omega) (by simp only [n263_0]; omega)
  · skip
    have h1 : a.2.2.2.2.2.1[i]? = some a.2.2.2.2.2.1[i] := List.getElem?_eq_getElem hi
    have h2 : b.2.2.2.2.2.1[i]? = some (b.2.2.2.2.2.1[i]'(by omega)) := List.getElem?_eq_getElem (by omega)
    simp only [evP, h1, h2, evEq]
    have hw := wrap_nat (n := i) (by omega)
    have g5 : (0 : Int) ≤ (i : Int) := by omega
    have g6 : (i : Int) < (a.2.2.2.2.2.1.length : Int) := by omega
    simp only [s263_0, t263_0, decide_eq_true g6, cond_true, if_pos g5, Int.toNat_natCast, h1, h2, optC_some, hw]
  · simp [s263_0, t263_0]
theorem sameTurn (a b : Ty.T y66) (hb : a.2.2.2.2.2.1.length ≤ 1048576) : d263 a b = true ∧ d153 a b = true ∧ v153 a b = v263 a b := by
  have h1 := eqI a.2.2.2.2.2.1 b.2.2.2.2.2.1 hb
  unfold d263 d153 v263 v153 t263 t153
  try simp only [getD_cond, isSome_cond, getD_sm, getD_no, isSome_sm, isSome_no, getD_opt, isSome_opt, isSome_ite, isSome_ifz]
  rw [h1.1, h1.2]
  generalize (((a.2.2.2.2.1.1 == b.2.2.2.2.1.1) && ((a.2.2.2.2.1.2.1 == b.2.2.2.2.1.2.1) && ((a.2.2.2.2.1.2.2.1 == b.2.2.2.2.1.2.2.1) && ((a.2.2.2.2.1.2.2.2.1 == b.2.2.2.2.1.2.2.2.1) && ((a.2.2.2.2.1.2.2.2.2.1 == b.2.2.2.2.1.2.2.2.2.1) && ((a.2.2.2.2.1.2.2.2.2.2.1 == b.2.2.2.2.1.2.2.2.2.2.1) && ((a.2.2.2.2.1.2.2.2.2.2.2 == b.2.2.2.2.1.2.2.2.2.2.2) && true)))))))) = q
  simp only [bne]
  cases c1 : (a.1 == b.1) <;> cases c2 : (a.2.1 == b.2.1) <;> cases c3 : (a.2.2.1 == b.2.2.1) <;> cases c4 : (a.2.2.2.1 == b.2.2.2.1) <;> cases q <;> try (exact ⟨rfl, rfl, rfl⟩)
  by_cases hl : a.2.2.2.2.2.1.length = b.2.2.2.2.2.1.length
  · have e0 : ((a.2.2.2.2.2.1.length : Int) == (b.2.2.2.2.2.1.length : Int)) = true := by simp [hl]
    have h := eqS a b hb hl
    rw [e0, decide_eq_true hl]
    revert h
    generalize first (evP a.2.2.2.2.2.1 b.2.2.2.2.2.1) 0 a.2.2.2.2.2.1.length = o
    intro h
    cases o with
    | none =>
      have e0 : k263_0 false 0 a b 0 = false := at_of h 0
      have e1 : k263_0 false 0 a b 1 = true := at_of h 1
      rw [e0, e1]
      cases c5 : (a.2.2.2.2.2.2.1 == b.2.2.2.2.2.2.1) <;> cases c6 : (a.2.2.2.2.2.2.2 == b.2.2.2.2.2.2.2) <;> exact ⟨rfl, rfl, rfl⟩
    | some j =>
      have e0 : k263_0 false 0 a b 0 = true := at_of h 0
      have hw : w263_0 false 0 a b = _ := val_of h
      rw [e0, hw]
      cases c5 : (a.2.2.2.2.2.2.1 == b.2.2.2.2.2.2.1) <;> cases c6 : (a.2.2.2.2.2.2.2 == b.2.2.2.2.2.2.2) <;> exact ⟨rfl, rfl, rfl⟩
  · have e0 : ((a.2.2.2.2.2.1.length : Int) == (b.2.2.2.2.2.1.length : Int)) = false := by simp; omega
    rw [e0, decide_eq_false hl]
    cases c5 : (a.2.2.2.2.2.2.1 == b.2.2.2.2.2.2.1) <;> cases c6 : (a.2.2.2.2.2.2.2 == b.2.2.2.2.2.2.2) <;> exact ⟨rfl, rfl, rfl⟩
theorem eaR (l : List (Ty.T y108)) (id : Int) (hb : l.length ≤ 1048576) : (v246 l id < 0 ∧ ∀ x ∈ l, ¬ x.1 = id) ∨ (∃ (j : Nat) (p : Ty.T y108), v246 l id = (j : Int) ∧ j < l.length ∧ l[j]? = some p ∧ p.1 = id) := by
  rw [(ea l id hb).2]
  cases h : first (fun i => match l[i]? with | some x => (x.1 == id) | none => false) 0 l.length with
  | none =>
    refine .inl ⟨by decide, fun x hx => ?_⟩
    obtain ⟨i, hi, rfl⟩ := List.mem_iff_getElem.1 hx
    have := first_none h i (by omega) (by omega)
    simp only [List.getElem?_eq_getElem hi] at this
    simpa using this
  | some j =>
    obtain ⟨_, hj, hp⟩ := first_some h
    have e : l[j]? = some l[j] := List.getElem?_eq_getElem (by omega)
    simp only [e] at hp
    exact .inr ⟨j, l[j], rfl, by omega, e, eq_of_beq hp⟩
theorem update (T : List (Ty.T y108)) (n : Ty.T y108) (hb : T.length ≤ 1048576) (hv : ∀ x ∈ T, x.2.2.2.2.2.2.1.2.2.2.2.2.2.length ≤ 1048576) (hn : n.2.2.2.2.2.2.1.2.2.2.2.2.2.length ≤ 1048576) : d247 T n = true ∧ d231 T n = true ∧ v231 T n = v247 T n ∧ (v247 T n).map (·.1) = T.map (·.1) ∧ ∀ x ∈ v247 T n, x.2.2.2.2.2.2.1.2.2.2.2.2.2.length ≤ 1048576 := by
  have h1 := ctS T hb hv
  have h2 := ctI T hb hv
  have h3 := cpS n hn
  have h4 := cpI n hn
  have h5 := ei T n.1 hb
  have h6 := ea T n.1 hb
  unfold d247 d231 v247 v231 t247 t231
  try simp only [getD_cond, isSome_cond, getD_sm, getD_no, isSome_sm, isSome_no, getD_opt, isSome_opt, isSome_ite, isSome_ifz]
  rw [h1.1, h1.2, h2.1, h2.2, h3.1, h3.2, h4.1, h4.2, h5.1, h5.2, h6.1]
  rcases eaR T n.1 hb with ⟨h, _⟩ | ⟨j, p, hj, hl, hp, hi⟩
  · have e : ¬ v246 T n.1 ≥ 0 := by omega
    rw [decide_eq_false e]
    exact ⟨rfl, rfl, rfl, rfl, hv⟩
  · have g0 : (0 : Int) ≤ (j : Int) := by omega
    have g1 : (j : Int) < (T.length : Int) := by omega
    have g2 : (j : Int) ≥ 0 := g0
    rw [hj]
    simp only [decide_eq_true g2, decide_eq_true g0, decide_eq_true g1, cond_true, if_pos g0, if_pos g1, Int.toNat_natCast, hp, optC_some, optD, optV, Option.getD_some, Option.isSome_some, Bool.and_true, true_and, and_true]
    refine ⟨?_, fun x hx => ?_⟩
    · rw [List.map_set]
      apply List.ext_getElem?
      intro i
      by_cases hij : j = i
      · subst hij
        simp [hl, hp, hi]
        rw [(List.getElem?_eq_some_iff.1 hp).2]
        exact hi.symm
      · rw [List.getElem?_set_ne hij]
    · rcases List.mem_or_eq_of_mem_set hx with h | rfl
      · exact hv x h
      · exact hn
theorem setIn (h0 : List (Ty.T (.int .i64))) (h1 : List (Ty.T (.int .i64))) (h4 : Int) (h5 : List (Ty.T (.int .i64))) (h6 : Int) (h7 : Bool) (h8 : List (Ty.T (.int .i64))) (h9 : Int) (h10 : Int) (h11 : Int) (h12 : Bool) (h13 : Int) (i : Nat) (l : List (Ty.T (.int .i64))) (x : Ty.T (.int .i64)) (hx : h0[i]? = some x) (hb : l.length ≤ 2097152) : ∃ p : Nat, p ≤ l.length ∧ iter s301_1 (n301_1 (h0, h1, (i : Int), (l.length : Int), h4, h5, h6, h7, h8, h9, h10, h11, h12, h13, l, ())) (h0, h1, (i : Int), (l.length : Int), h4, h5, h6, h7, h8, h9, h10, h11, h12, h13, l, ()) = some (0, (h0, h1, (i : Int), (p : Int), h4, h5, h6, h7, h8, h9, h10, h11, h12, h13, l, ())) := by
  obtain ⟨v', h1, p, hp, rfl⟩ := run_iter (s := s301_1) (Q := fun v => ∃ p : Nat, p ≤ l.length ∧ v = (h0, h1, (i : Int), (p : Int), h4, h5, h6, h7, h8, h9, h10, h11, h12, h13, l, ())) (fun k v => k ≤ l.length ∧ v = (h0, h1, (i : Int), (k : Int), h4, h5, h6, h7, h8, h9, h10, h11, h12, h13, l, ())) (fun k v hI => by
    obtain ⟨hk, rfl⟩ := hI
    cases k with
    | zero =>
      refine .inl ⟨_, ?_, 0, Nat.zero_le _, rfl⟩
      simp [s301_1, t301_1, g301_2, c301_2, t301_2]
    | succ k =>
      have hw : IntKind.wrap .i64 (((k + 1 : Nat) : Int) - 1) = (k : Int) := wrap_pred k (by omega)
      obtain ⟨y, hy⟩ : ∃ y, l[k]? = some y := ⟨l[k]'(by omega), List.getElem?_eq_getElem _⟩
      have g0 : ((k + 1 : Nat) : Int) > 0 := by omega
      have g1 : (0 : Int) ≤ (k : Int) := by omega
      have g2 : (k : Int) < (l.length : Int) := by omega
      have g3 : (0 : Int) ≤ (i : Int) := by omega
      by_cases hc : y > x
      · exact .inr ⟨k, _, rfl, by simp only [s301_1, t301_1, g301_2, c301_2, t301_2, decide_eq_true g0, cond_true, hw, if_pos g1, if_pos g2, decide_eq_true g1, decide_eq_true g2, Int.toNat_natCast, hy, optC_some, if_pos g3, decide_eq_true g3, hx, optD, optV, Option.isSome_some, Option.getD_some, Bool.and_true, decide_eq_true hc], by omega, rfl⟩
      · exact .inl ⟨_, by simp only [s301_1, t301_1, g301_2, c301_2, t301_2, decide_eq_true g0, cond_true, hw, if_pos g1, if_pos g2, decide_eq_true g1, decide_eq_true g2, Int.toNat_natCast, hy, optC_some, if_pos g3, decide_eq_true g3, hx, optD, optV, Option.isSome_some, Option.getD_some, Bool.and_true, decide_eq_false hc, cond_false], k + 1, hk, rfl⟩) l.length (h0, h1, (i : Int), (l.length : Int), h4, h5, h6, h7, h8, h9, h10, h11, h12, h13, l, ()) (n301_1 (h0, h1, (i : Int), (l.length : Int), h4, h5, h6, h7, h8, h9, h10, h11, h12, h13, l, ())) ⟨Nat.le_refl _, rfl⟩ (by simp only [n301_1]; omega)
  exact ⟨p, hp, h1⟩
theorem setInK (h0 : List (Ty.T (.int .i64))) (h1 : List (Ty.T (.int .i64))) (h4 : Int) (h5 : List (Ty.T (.int .i64))) (h6 : Int) (h7 : Bool) (h8 : List (Ty.T (.int .i64))) (h9 : Int) (h10 : Int) (h11 : Int) (h12 : Bool) (h13 : Int) (i : Nat) (l : List (Ty.T (.int .i64))) (x : Ty.T (.int .i64)) (hx : h0[i]? = some x) (hb : l.length ≤ 2097152) : ∃ p : Nat, p ≤ l.length ∧ k301_1 h0 h1 (i : Int) (l.length : Int) h4 h5 h6 h7 h8 h9 h10 h11 h12 h13 l 0 = true ∧ w301_1 h0 h1 (i : Int) (l.length : Int) h4 h5 h6 h7 h8 h9 h10 h11 h12 h13 l = (h0, h1, (i : Int), (p : Int), h4, h5, h6, h7, h8, h9, h10, h11, h12, h13, l, ()) := by
  obtain ⟨p, h1, h2⟩ := setIn h0 h1 h4 h5 h6 h7 h8 h9 h10 h11 h12 h13 i l x hx hb
  exact ⟨p, h1, at_of h2 0, val_of h2⟩
theorem nodup_take {xs : List (Ty.T (.int .i64))} (hn : xs.Nodup) {t : Nat} (ht : t < xs.length) : (xs.take t).any (fun y => y == xs[t]) = false := by
  rw [List.any_eq_false]
  intro y hy he
  obtain ⟨j, hj, rfl⟩ := List.mem_iff_getElem.1 hy
  rw [List.length_take] at hj
  have := List.pairwise_iff_getElem.1 hn j t (by omega) ht (by omega)
  rw [List.getElem_take] at he
  exact this (eq_of_beq he)
theorem setOf (xs : List (Ty.T (.int .i64))) (hn : xs.Nodup) (hb : xs.length ≤ 1048577) : d301 xs = true ∧ (v301 xs).Perm xs := by
  have h := inv_iter (s := s301_0) (mk := fun k : Nat × List (Ty.T (.int .i64)) => (xs, [], (k.1 : Int), k.2, ())) (Inv := fun t k => k.1 = t ∧ k.2.Perm (xs.take t)) (Q := fun v => ∃ l : List (Ty.T (.int .i64)), v = (xs, [], (xs.length : Int), l, ()) ∧ l.Perm xs) (c := 0) (N := xs.length) (fun t k ht hI => by
    obtain ⟨r, l⟩ := k
    obtain ⟨hr, hp⟩ := hI
    dsimp only at hr hp
    subst hr
    have hx : xs[r]? = some xs[r] := List.getElem?_eq_getElem ht
    have hlen : l.length = r := by rw [hp.length_eq, List.length_take]; omega
    have hh := hasS l xs[r] (by omega)
    have hany : (l.any fun y => y == xs[r]) = false := by
      rw [List.any_eq_false]
      intro y hy
      have := List.any_eq_false.1 (nodup_take hn ht) y (hp.mem_iff.1 hy)
      exact this
    have g5 : (0 : Int) ≤ (r : Int) := by omega
    have g6 : (r : Int) < (xs.length : Int) := by omega
    have hw1 := wrap_nat (n := r) (by omega)
    obtain ⟨p, hpl, hk, hw⟩ := setInK xs [] (r : Int) xs (xs.length : Int) true xs (r : Int) xs[r] xs[r] false (l.length : Int) r l xs[r] hx (by omega)
    have g7 : (0 : Int) ≤ (p : Int) := by omega
    have g8 : (p : Int) ≤ (l.length : Int) := by omega
    have z1 : ([] ++ ((l.drop 0).take p) : List (Ty.T (.int .i64))).length * 8 ≤ 140737488351232 := by simp only [List.nil_append, List.length_take, List.length_drop]; omega
    have z2 : (([] ++ ((l.drop 0).take p)) ++ [xs[r]] : List (Ty.T (.int .i64))).length * 8 ≤ 140737488351232 := by simp only [List.nil_append, List.length_append, List.length_cons, List.length_nil, List.length_take, List.length_drop]; omega
    have z3 : ((([] ++ ((l.drop 0).take p)) ++ [xs[r]]) ++ ((l.drop p).take (l.length - p)) : List (Ty.T (.int .i64))).length * 8 ≤ 140737488351232 := by simp only [List.nil_append, List.length_append, List.length_cons, List.length_nil, List.length_take, List.length_drop]; omega
    refine ⟨(r + 1, (([] ++ ((l.drop 0).take p)) ++ [xs[r]]) ++ ((l.drop p).take (l.length - p))), ?_, rfl, ?_⟩
    · simp only [s301_0, t301_0, e301_0, decide_eq_true g6, cond_true, if_pos g5, Int.toNat_natCast, hx, optC_some, hh.1, hh.2, hany, cond_false, hk, hw]
      simp only [g301_3, c301_3, t301_3, if_pos g5, if_pos g7, if_pos g8, decide_eq_true g5, decide_eq_true g7, decide_eq_true g8, Int.toNat_natCast, hx, optC_some, optD, optV, if_pos z1, if_pos z2, if_pos z3, decide_eq_true z1, decide_eq_true z2, decide_eq_true z3, Bool.and_true, Option.isSome_some, Option.getD_some, cond_true, hw1]
    · show List.Perm _ (xs.take (r + 1))
      rw [take_snoc hx]
      have e : (([] ++ ((l.drop 0).take p)) ++ [xs[r]]) ++ ((l.drop p).take (l.length - p)) = l.take p ++ xs[r] :: l.drop p := by
        rw [List.take_of_length_le (l := l.drop p) (by rw [List.length_drop]; omega)]
        simp
      rw [e]
      have h3 : (l.take p ++ xs[r] :: l.drop p).Perm (xs[r] :: (l.take p ++ l.drop p)) := List.perm_middle
      rw [List.take_append_drop] at h3
      exact h3.trans ((List.Perm.cons _ hp).trans (List.perm_append_singleton _ _).symm))
    (fun k hI => by
      obtain ⟨r, l⟩ := k
      obtain ⟨hr, hp⟩ := hI
      dsimp only at hr hp
      subst hr
      rw [List.take_length] at hp
      refine ⟨_, ?_, l, rfl, hp⟩
      simp [s301_0, t301_0])
    xs.length 0 (n301_0 (xs, [], ((0 : Nat) : Int), [], ())) (0, []) (by omega) (by simp only [n301_0]; omega) ⟨rfl, by simp⟩
  obtain ⟨v', h1, l, rfl, hp⟩ := h
  have hk : k301_0 xs [] 0 [] 0 = true := at_of h1 0
  have hw : w301_0 xs [] 0 [] = _ := val_of h1
  unfold d301 v301 t301
  try simp only [getD_cond, isSome_cond, getD_sm, getD_no, isSome_sm, isSome_no, getD_opt, isSome_opt, isSome_ite, isSome_ifz]
  rw [hk, hw]
  exact ⟨rfl, hp⟩
theorem withU (u : List (Ty.T (.int .i64))) (n : Int) (hn : u.Nodup) (hu : (u.any fun y => y == n) = false) (hb : u.length ≤ 1048576) : d248 u n = true ∧ (v248 u n).Perm (u ++ [n]) := by
  have hd : (u ++ [n]).Nodup := by
    rw [List.nodup_append]
    refine ⟨hn, by simp, fun a ha b hb2 e => ?_⟩
    rw [List.mem_singleton] at hb2
    subst e hb2
    have := List.any_eq_false.1 hu _ ha
    simp at this
  have h := setOf (u ++ [n]) hd (by simp only [List.length_append, List.length_cons, List.length_nil]; omega)
  unfold d248 v248
  simp only [List.nil_append]
  rw [h.1]
  refine ⟨?_, h.2⟩
  have z1 : (u : List (Ty.T (.int .i64))).length * 8 ≤ 140737488351232 := by omega
  have z2 : (u ++ [n] : List (Ty.T (.int .i64))).length * 8 ≤ 140737488351232 := by simp only [List.length_append, List.length_cons, List.length_nil]; omega
  rw [decide_eq_true z1, decide_eq_true z2]
  rfl
theorem optPerm (s : Ty.T y36) (l : List (Ty.T y108)) (e : Ty.T y27) (u w : List (Ty.T (.int .i64))) (hb : s.1.length ≤ 1048576) (hs : s.2.1.length ≤ 1048576) (hn : l.length ≤ 1048576) (hu : u.length ≤ 1048576) (hv : ∀ x ∈ l, x.2.2.2.2.2.2.1.2.2.2.2.2.2.length ≤ 1048576) (hp : u.Perm w) : v243 s l e u = v243 s l e w := by
  rw [(optS s l e u hb hs hn hu hv).2, (optS s l e w hb hs hn (by rw [← hp.length_eq]; exact hu) hv).2]
  have : optF s e u = optF s e w := by
    funext p x
    unfold optF
    rw [hp.any_eq]
  rw [this]
structure TabI (c : Nat) (ids : List (Ty.T (.int .i64))) (nn : Nat) (T : List (Ty.T y108)) (out : List (Ty.T y27)) (made : List (Ty.T y66)) : Prop where
  tb : T.length ≤ 1048576
  tv : ∀ x ∈ T, x.2.2.2.2.2.2.1.2.2.2.2.2.2.length ≤ 1048576
  ti : T.map (·.1) = ids
  ob : out.length + c ≤ 1048576
  mb : made.length + c ≤ 1048576
  mn : made.length ≤ nn
  mv : ∀ t ∈ made, t.2.2.2.2.2.1.length ≤ 1048576
theorem TabI.weak {c c' : Nat} {ids : List (Ty.T (.int .i64))} {nn : Nat} {T : List (Ty.T y108)} {out : List (Ty.T y27)} {made : List (Ty.T y66)} (h : TabI c ids nn T out made) (hc : c' ≤ c) : TabI c' ids nn T out made :=
  ⟨h.tb, h.tv, h.ti, by have := h.ob; omega, by have := h.mb; omega, h.mn, h.mv⟩
def GoodR (w : Nat) (RS : RT194g1) (RI : RT140g2) (uS uI : List (Ty.T (.int .i64))) (s : Ty.T y36) (notes : List (Ty.T y66)) (ids : List (Ty.T (.int .i64))) : Prop :=
  ∀ x T out sp made c, TabI (c + w) ids notes.length T out made → ∃ b T' out' made', RS x uS s notes false T out made = (true, (s, (notes, b), T', out', made')) ∧ RI x uI s notes out T sp made = (true, (!b, s, notes, out', T', sp, made')) ∧ TabI c ids notes.length T' out' made'
def BadR (RS : RT194g1) (uS : List (Ty.T (.int .i64))) (s : Ty.T y36) (notes : List (Ty.T y66)) : Prop :=
  ∀ x T out made, RS x uS s notes true T out made = (true, (s, (notes, true), T, out, made))
theorem loopBad {RS : RT194g1} {uS : List (Ty.T (.int .i64))} {s : Ty.T y36} {notes : List (Ty.T y66)} (hB : BadR RS uS s notes) (L : List (Ty.T y27)) (hL : L.length ≤ 1048576) (T : List (Ty.T y108)) (out : List (Ty.T y27)) (made : List (Ty.T y66)) :
    ∀ (rem i n : Nat), i + rem = L.length → rem < n → iter (s194g1_5 RS) n (uS, (i : Int), s, (notes, true), L, T, out, made, ()) = some (0, (uS, (L.length : Int), s, (notes, true), L, T, out, made, ()))
  | 0, i, n, hi, hn => by
    obtain ⟨n, rfl⟩ : ∃ n', n = n' + 1 := ⟨n - 1, by omega⟩
    have : i = L.length := by omega
    subst this
    have e : s194g1_5 RS (uS, (L.length : Int), s, (notes, true), L, T, out, made, ()) = some (1, (uS, (L.length : Int), s, (notes, true), L, T, out, made, ())) := by simp [s194g1_5, t194g1_5]
    rw [iter, e]
    rfl
  | rem + 1, i, n, hi, hn => by
    obtain ⟨n, rfl⟩ : ∃ n', n = n' + 1 := ⟨n - 1, by omega⟩
    have h1 : L[i]? = some (L[i]'(by omega)) := List.getElem?_eq_getElem (by omega)
    have g5 : (0 : Int) ≤ (i : Int) := by omega
    have g6 : (i : Int) < (L.length : Int) := by omega
    have hw := wrap_nat (n := i) (by omega)
    have e : s194g1_5 RS (uS, (i : Int), s, (notes, true), L, T, out, made, ()) = some (0, (uS, ((i + 1 : Nat) : Int), s, (notes, true), L, T, out, made, ())) := by
      simp only [s194g1_5, t194g1_5, decide_eq_true g6, cond_true, if_pos g5, if_pos g6, Int.toNat_natCast, h1, optC_some, hB _ T out made, hw]
    rw [iter, e]
    exact loopBad hB L hL T out made rem (i + 1) n (by omega) (by omega)
theorem loopBoth {w : Nat} {RS : RT194g1} {RI : RT140g2} {uS uI : List (Ty.T (.int .i64))} {s : Ty.T y36} {notes : List (Ty.T y66)} {ids : List (Ty.T (.int .i64))} (hG : GoodR w RS RI uS uI s notes ids) (hB : BadR RS uS s notes) (L : List (Ty.T y27)) (hL : L.length ≤ 1048576) (sp : List (Ty.T (.int .i64))) :
    ∀ (rem i n1 n2 c : Nat) (T : List (Ty.T y108)) (out : List (Ty.T y27)) (made : List (Ty.T y66)), i + rem = L.length → rem < n1 → rem < n2 → TabI (c + rem * w) ids notes.length T out made →
      ∃ (b : Bool) (j : Int) (T' : List (Ty.T y108)) (out' : List (Ty.T y27)) (made' : List (Ty.T y66)), iter (s194g1_5 RS) n1 (uS, (i : Int), s, (notes, false), L, T, out, made, ()) = some (0, (uS, (L.length : Int), s, (notes, b), L, T', out', made', ())) ∧
        iter (s140g2_3 RI) n2 (uI, false, L, (L.length : Int), (i : Int), s, notes, T, out, sp, made, ()) = some (cond b 0 1, (uI, false, L, (L.length : Int), j, s, notes, T', out', sp, made', ())) ∧ TabI c ids notes.length T' out' made'
  | 0, i, n1, n2, c, T, out, made, hi, hn1, hn2, hT => by
    obtain ⟨n1, rfl⟩ : ∃ n', n1 = n' + 1 := ⟨n1 - 1, by omega⟩
    obtain ⟨n2, rfl⟩ : ∃ n', n2 = n' + 1 := ⟨n2 - 1, by omega⟩
    have : i = L.length := by omega
    subst this
    have e1 : s194g1_5 RS (uS, (L.length : Int), s, (notes, false), L, T, out, made, ()) = some (1, (uS, (L.length : Int), s, (notes, false), L, T, out, made, ())) := by simp [s194g1_5, t194g1_5]
    have e2 : s140g2_3 RI (uI, false, L, (L.length : Int), (L.length : Int), s, notes, T, out, sp, made, ()) = some (2, (uI, false, L, (L.length : Int), (L.length : Int), s, notes, T, out, sp, made, ())) := by simp [s140g2_3, t140g2_3]
    refine ⟨false, (L.length : Int), T, out, made, ?_, ?_, hT.weak (by omega)⟩
    · rw [iter, e1]; rfl
    · rw [iter, e2]; rfl
  | rem + 1, i, n1, n2, c, T, out, made, hi, hn1, hn2, hT => by
    obtain ⟨n1, rfl⟩ : ∃ n', n1 = n' + 1 := ⟨n1 - 1, by omega⟩
    obtain ⟨n2, rfl⟩ : ∃ n', n2 = n' + 1 := ⟨n2 - 1, by omega⟩
    have h1 : L[i]? = some (L[i]'(by omega)) := List.getElem?_eq_getElem (by omega)
    have g5 : (0 : Int) ≤ (i : Int) := by omega
    have g6 : (i : Int) < (L.length : Int) := by omega
    have hw := wrap_nat (n := i) (by omega)
    obtain ⟨b, T1, out1, made1, hS, hI, hT1⟩ := hG (L[i]'(by omega)) T out sp made (c + rem * w) (hT.weak (by rw [Nat.succ_mul]; omega))
    have e1 : s194g1_5 RS (uS, (i : Int), s, (notes, false), L, T, out, made, ()) = some (0, (uS, ((i + 1 : Nat) : Int), s, (notes, b), L, T1, out1, made1, ())) := by
      simp only [s194g1_5, t194g1_5, decide_eq_true g6, cond_true, if_pos g5, if_pos g6, Int.toNat_natCast, h1, optC_some, hS, hw]
    cases b with
    | true =>
      have e2 : s140g2_3 RI (uI, false, L, (L.length : Int), (i : Int), s, notes, T, out, sp, made, ()) = some (1, (uI, false, L, (L.length : Int), (i : Int), s, notes, T1, out1, sp, made1, ())) := by
        simp only [s140g2_3, t140g2_3, decide_eq_true g6, cond_true, if_pos g5, Int.toNat_natCast, h1, optC_some, hI, Bool.not_true, Bool.not_false]
      refine ⟨true, (i : Int), T1, out1, made1, ?_, ?_, hT1.weak (by omega)⟩
      · rw [iter, e1]
        exact loopBad hB L hL T1 out1 made1 rem (i + 1) n1 (by omega) (by omega)
      · rw [iter, e2]
        rfl
    | false =>
      have e2 : s140g2_3 RI (uI, false, L, (L.length : Int), (i : Int), s, notes, T, out, sp, made, ()) = some (0, (uI, false, L, (L.length : Int), ((i + 1 : Nat) : Int), s, notes, T1, out1, sp, made1, ())) := by
        simp only [s140g2_3, t140g2_3, decide_eq_true g6, cond_true, if_pos g5, Int.toNat_natCast, h1, optC_some, hI, Bool.not_true, Bool.not_false, cond_false, hw]
      obtain ⟨b, j, T', out', made', h3, h4, h5⟩ := loopBoth hG hB L hL sp rem (i + 1) n1 n2 c T1 out1 made1 (by omega) (by omega) (by omega) hT1
      refine ⟨b, j, T', out', made', ?_, ?_, h5⟩
      · rw [iter, e1]; exact h3
      · rw [iter, e2]; exact h4
theorem fromIn (a b c : Int) : v165 a b c = v239 a b c := by simp only [v165, v239]
theorem keyS {RS : RT194g1} {x : Ty.T y27} {u : List (Ty.T (.int .i64))} {s : Ty.T y36} {notes : List (Ty.T y66)} {b : Bool} {T : List (Ty.T y108)} {out : List (Ty.T y27)} {made : List (Ty.T y66)} {r} (h : t194g1 RS x u s notes b T out made some = some r) : (d194g1s RS x u s notes b T out made, v194g1s RS x u s notes b T out made) = (true, r) := by
  unfold d194g1s v194g1s
  rw [h]
  rfl
theorem keyI {RI : RT140g2} {x : Ty.T y27} {u : List (Ty.T (.int .i64))} {s : Ty.T y36} {notes : List (Ty.T y66)} {T : List (Ty.T y108)} {out : List (Ty.T y27)} {sp : List (Ty.T (.int .i64))} {made : List (Ty.T y66)} {r} (h : t140g2 RI x u s notes out T sp made some = some r) : (d140g2s RI x u s notes out T sp made, v140g2s RI x u s notes out T sp made) = (true, r) := by
  unfold d140g2s v140g2s
  rw [h]
  rfl
theorem stepBad {RS : RT194g1} {u : List (Ty.T (.int .i64))} {s : Ty.T y36} {notes : List (Ty.T y66)} : BadR (fun a0 a1 a2 a3 a4 a5 a6 a7 => (d194g1s RS a0 a1 a2 a3 a4 a5 a6 a7, v194g1s RS a0 a1 a2 a3 a4 a5 a6 a7)) u s notes := fun x T out made => keyS rfl
theorem stepGood {w : Nat} {RS : RT194g1} {RI : RT140g2} {uS uI : List (Ty.T (.int .i64))} {s : Ty.T y36} {notes : List (Ty.T y66)} {ids : List (Ty.T (.int .i64))} (hb : s.1.length ≤ 1048576) (hs : s.2.1.length ≤ 1048576) (hp : uS.Perm uI) (hn : uS.Nodup) (hu : uS.length ≤ 1048576)
    (hB : ∀ u, BadR RS u s notes) (hG : ∀ y, y ∈ ids → (uS.any fun z => z == y) = false → GoodR w RS RI (v248 uS y) (uI ++ [y]) s notes ids) :
    GoodR (1 + 3 * w) (fun a0 a1 a2 a3 a4 a5 a6 a7 => (d194g1s RS a0 a1 a2 a3 a4 a5 a6 a7, v194g1s RS a0 a1 a2 a3 a4 a5 a6 a7)) (fun a0 a1 a2 a3 a4 a5 a6 a7 => (d140g2s RI a0 a1 a2 a3 a4 a5 a6 a7, v140g2s RI a0 a1 a2 a3 a4 a5 a6 a7)) uS uI s notes ids := by
  intro x T out sp made c hT
  have hul : uI.length = uS.length := hp.length_eq.symm
  have ho := options s T x uS hb hs hT.tb hu hT.tv
  have hi := options s T x uI hb hs hT.tb (by omega) hT.tv
  have he := optPerm s T x uS uI hb hs hT.tb hu hT.tv hp
  obtain ⟨hd, -, -, hlen, hmem⟩ := ho
  obtain ⟨-, hdI, hvI, -, -⟩ := hi
  rw [← he] at hvI
  clear he
  obtain ⟨o, hoe⟩ : ∃ o, v243 s T x uS = o := ⟨_, rfl⟩
  rw [hoe] at hlen hmem hvI
  have hob := hT.ob
  have hmb := hT.mb
  cases o with
  | nil =>
    have z1 : (out ++ [x] : List (Ty.T y27)).length * 56 ≤ 140737488351232 := by simp only [List.length_append, List.length_cons, List.length_nil]; omega
    have z2 : (out.length + 1) * 56 ≤ 140737488351232 := by omega
    cases hgn : v244 x
    · refine ⟨false, T, out ++ [x], made, keyS ?_, keyI ?_, ⟨hT.tb, hT.tv, hT.ti, by simp only [List.length_append, List.length_cons, List.length_nil]; omega, by omega, hT.mn, hT.mv⟩⟩
      · simp [t194g1, hd, hoe, hgn, g194g1_1, c194g1_1, t194g1_1, g194g1_0, t194g1_0, z2]
      · simp [t140g2, hdI, hvI, gone, hgn, g140g2_1, c140g2_1, t140g2_1, g140g2_0, t140g2_0, z2]
    · refine ⟨false, T, out, made, keyS ?_, keyI ?_, hT.weak (by omega)⟩
      · simp [t194g1, hd, hoe, hgn, g194g1_1, c194g1_1, t194g1_1, g194g1_0, t194g1_0]
      · simp [t140g2, hdI, hvI, gone, hgn, g140g2_1, c140g2_1, t140g2_1, g140g2_0, t140g2_0]
  | cons y0 o =>
    have hne : ((((y0 :: o).length : Nat) : Int) == (0 : Int)) = false := by simp; omega
    obtain ⟨oo, hoo⟩ : ∃ oo, oo = y0 :: o := ⟨_, rfl⟩
    rw [← hoo] at hoe hvI hne hmem hlen
    have hol : oo.length ≤ 1048576 := Nat.le_trans hlen hT.tb
    have bad : (made.length = notes.length ∨ ∃ nt, notes[made.length]? = some nt ∧ v239 nt.2.2.1 0 (IntKind.wrap .i64 ((oo.length : Int) - 1)) = false) → t194g1 RS x uS s notes false T out made some = some (s, (notes, true), T, out, made) ∧ t140g2 RI x uI s notes out T sp made some = some (false, s, notes, out, T, sp, made) := by
      intro hm
      rcases hm with hm | ⟨nt, hnt, hnin⟩
      · have b1 : ((made.length : Int) == (notes.length : Int)) = true := by simp [hm]
        have b2 : (made.length : Int) ≥ (notes.length : Int) := by omega
        constructor
        · simp only [t194g1, hd, hoe, hne, g194g1_2, c194g1_2, t194g1_2, b1, cond_true, cond_false, Option.isSome_some, Option.getD_some]
        · simp only [t140g2, hdI, hvI, hne, e140g2_0, v200g1, t200g1, d200g1, decide_eq_true b2, cond_true, cond_false, Option.isSome_some, Option.getD_some, Bool.not_false, getD_cond, isSome_cond, getD_sm, getD_no, isSome_sm, isSome_no, getD_opt, isSome_opt, isSome_ite, isSome_ifz]
      · have hl := (List.getElem?_eq_some_iff.1 hnt).1
        have b1 : ((made.length : Int) == (notes.length : Int)) = false := by simp; omega
        have b2 : ¬ (made.length : Int) ≥ (notes.length : Int) := by omega
        have b3 : (0 : Int) ≤ (made.length : Int) := by omega
        constructor
        · simp only [t194g1, hd, hoe, hne, g194g1_2, c194g1_2, t194g1_2, b1, cond_true, cond_false, if_pos b3, Int.toNat_natCast, hnt, optC_some, hnin, Bool.not_false, Option.isSome_some, Option.getD_some]
        · simp only [t140g2, hdI, hvI, hne, e140g2_0, v200g1, t200g1, d200g1, decide_eq_false b2, cond_true, cond_false, Int.toNat_natCast, hnt, optC_some, fromIn, hnin, Option.isSome_some, Option.getD_some, Bool.not_false, getD_cond, isSome_cond, getD_sm, getD_no, isSome_sm, isSome_no, getD_opt, isSome_opt, isSome_ite, isSome_ifz]
    by_cases hm : made.length = notes.length
    · obtain ⟨h1, h2⟩ := bad (.inl hm)
      exact ⟨true, T, out, made, keyS h1, keyI h2, hT.weak (by omega)⟩
    have hml : made.length < notes.length := by have := hT.mn; omega
    obtain ⟨nt, hnt⟩ : ∃ nt, notes[made.length]? = some nt := ⟨notes[made.length]'hml, List.getElem?_eq_getElem hml⟩
    cases hin : v239 nt.2.2.1 0 (IntKind.wrap .i64 ((oo.length : Int) - 1)) with
    | false =>
      obtain ⟨h1, h2⟩ := bad (.inr ⟨nt, hnt, hin⟩)
      exact ⟨true, T, out, made, keyS h1, keyI h2, hT.weak (by omega)⟩
    | true =>
      have hpos : 0 < oo.length := by rw [hoo]; simp
      have hr : @LE.le Int _ 0 nt.2.2.1 ∧ @LE.le Int _ nt.2.2.1 ((oo.length : Int) - 1) := by
        have hw : IntKind.wrap .i64 ((oo.length : Int) - 1) = (oo.length : Int) - 1 := wrap_in (by omega) (by omega)
        rw [hw] at hin
        simp only [v239] at hin
        have cc : ∀ (p q r : Bool), cond p q r = true ↔ (p = true ∧ q = true) ∨ (p = false ∧ r = true) := by decide
        have cf : ∀ (p q r : Bool), cond p q r = false ↔ (p = true ∧ q = false) ∨ (p = false ∧ r = false) := by decide
        simpa [cc, cf] using hin
      obtain ⟨ch, hch, hcl⟩ : ∃ ch : Nat, @Eq Int nt.2.2.1 (ch : Int) ∧ ch < oo.length := ⟨Int.toNat nt.2.2.1, (Int.toNat_of_nonneg hr.1).symm, by omega⟩
      have hy : oo[ch]? = some (oo[ch]'hcl) := List.getElem?_eq_getElem hcl
      obtain ⟨⟨p0, hp0, hid0⟩, hun⟩ := hmem (oo[ch]'hcl) (List.getElem_mem _)
      obtain ⟨y, hyy⟩ : ∃ y, oo[ch]'hcl = y := ⟨_, rfl⟩
      rw [hyy] at hy hid0 hun
      rcases eaR T y hT.tb with ⟨_, h⟩ | ⟨j, p, hj, hjl, hpj, hpid⟩
      · exact absurd hid0 (h p0 hp0)
      subst hpid
      have hpm : p ∈ T := List.mem_of_getElem? hpj
      obtain ⟨hda1, hda2, hda3, hda4, hda5, hda6⟩ := doAct p x (hT.tv p hpm)
      have hei := ei T p.1 hT.tb
      have hea := (ea T p.1 hT.tb).1
      have hcs := chooser s x hb
      obtain ⟨⟨rn, q, gd, L, pl⟩, hdo⟩ : ∃ z, v214 p x = z := ⟨_, rfl⟩
      rw [hdo] at hda3 hda4 hda5 hda6
      dsimp only at hda4 hda5 hda6
      have hst := sameTurn ((p.1, v213 s x, (ch : Int), (oo.length : Int), x, L, rn, (uS.length : Int)) : Ty.T y66) nt (show L.length ≤ 1048576 by omega)
      have b1 : ((made.length : Int) == (notes.length : Int)) = false := by simp; omega
      have b2 : ¬ (made.length : Int) ≥ (notes.length : Int) := by omega
      have b3 : (0 : Int) ≤ (made.length : Int) := by omega
      have g0 : (0 : Int) ≤ (ch : Int) := by omega
      have g1 : (ch : Int) < (oo.length : Int) := by omega
      have j0 : (0 : Int) ≤ (j : Int) := by omega
      have j1 : (j : Int) < (T.length : Int) := by omega
      have z4 : L.length * 56 ≤ 140737488351232 := by omega
      have hulI : (uI.length : Int) = (uS.length : Int) := by omega
      cases hsm : v263 ((p.1, v213 s x, (ch : Int), (oo.length : Int), x, L, rn, (uS.length : Int)) : Ty.T y66) nt with
      | false =>
        refine ⟨true, T, out, made, keyS ?_, keyI ?_, hT.weak (by omega)⟩
        · simp only [t194g1, hd, hoe, hne, cond_false, cond_true, g194g1_2, c194g1_2, t194g1_2, b1, if_pos b3, Int.toNat_natCast, hnt, optC_some, hin, Bool.not_true, Option.isSome_some, Option.getD_some]
          rw [hch]
          simp only [if_pos g0, if_pos g1, Int.toNat_natCast, hy, optC_some, hea, cond_true, hj, if_pos j0, if_pos j1, hpj, hda1, g194g1_3, t194g1_3, hcs.1, hdo, List.nil_append, if_pos z4, Option.isSome_some, hst.1, hsm, Bool.not_false]
        · simp only [t140g2, hdI, hvI, hne, cond_true, cond_false, e140g2_0, e140g2_1, v200g1, t200g1, d200g1, decide_eq_false b2, Int.toNat_natCast, hnt, optC_some, fromIn, hin, Bool.not_true, Option.isSome_some, Option.getD_some, getD_cond, isSome_cond, getD_sm, getD_no, isSome_sm, isSome_no, getD_opt, isSome_opt, isSome_ite, isSome_ifz]
          rw [hch]
          simp only [if_pos g0, if_pos g1, Int.toNat_natCast, hy, optC_some, hei.1, hei.2, cond_true, hj, if_pos j0, if_pos j1, hpj, hda2, hda3, hcs.2.1, hcs.2.2, v201g1, t201g1, d201g1, hnt, hulI, hst.2.1, hst.2.2, hsm, Bool.not_false, Option.isSome_some, Option.getD_some, getD_cond, isSome_cond, getD_sm, getD_no, isSome_sm, isSome_no, getD_opt, isSome_opt, isSome_ite, isSome_ifz]
      | true =>
        have hw := withU uS p.1 hn hun hu
        obtain ⟨hu1, hu2, hu3, hu4, hu5⟩ := update T ((q.1, q.2.1, q.2.2.1, q.2.2.2.1, q.2.2.2.2.1, q.2.2.2.2.2.1, (q.2.2.2.2.2.2.1, q.2.2.2.2.2.2.2.1, q.2.2.2.2.2.2.2.2.1, q.2.2.2.2.2.2.2.2.2.1, q.2.2.2.2.2.2.2.2.2.2.1, q.2.2.2.2.2.2.2.2.2.2.2, pl), gd) : Ty.T y108) hT.tb hT.tv (show pl.length ≤ 1048576 by rw [hda5]; exact hT.tv p hpm)
        have hG1 := hG p.1 (by rw [← hT.ti]; exact List.mem_map.2 ⟨p, hpm, rfl⟩) hun
        obtain ⟨T1, hT1⟩ : ∃ T1, v247 T ((q.1, q.2.1, q.2.2.1, q.2.2.2.1, q.2.2.2.2.1, q.2.2.2.2.2.1, (q.2.2.2.2.2.2.1, q.2.2.2.2.2.2.2.1, q.2.2.2.2.2.2.2.2.1, q.2.2.2.2.2.2.2.2.2.1, q.2.2.2.2.2.2.2.2.2.2.1, q.2.2.2.2.2.2.2.2.2.2.2, pl), gd) : Ty.T y108) = T1 := ⟨_, rfl⟩
        rw [hT1] at hu3 hu4 hu5
        have hlw : L.length * w ≤ 3 * w := Nat.mul_le_mul_right w hda4
        have hTab : TabI (c + L.length * w) ids notes.length T1 out (made ++ [((p.1, v213 s x, (ch : Int), (oo.length : Int), x, L, rn, (uS.length : Int)) : Ty.T y66)]) := by
          refine ⟨?_, hu5, by rw [hu4]; exact hT.ti, by omega, ?_, ?_, fun t ht => ?_⟩
          · have := congrArg List.length hu4
            rw [List.length_map, List.length_map] at this
            have := hT.tb
            omega
          · simp only [List.length_append, List.length_cons, List.length_nil]; omega
          · simp only [List.length_append, List.length_cons, List.length_nil]; omega
          · rcases List.mem_append.1 ht with h | h
            · exact hT.mv t h
            · rw [List.mem_singleton] at h
              subst h
              show L.length ≤ 1048576
              omega
        obtain ⟨tn, htn⟩ : ∃ tn : Ty.T y66, ((p.1, v213 s x, (ch : Int), (oo.length : Int), x, L, rn, (uS.length : Int)) : Ty.T y66) = tn := ⟨_, rfl⟩
        rw [htn] at hTab hst hsm
        obtain ⟨b, jj, T2, out2, made2, hl1, hl2, hT2⟩ := loopBoth hG1 (hB (v248 uS p.1)) L (by omega) sp L.length 0 (n194g1_5 (v248 uS p.1, ((0 : Nat) : Int), s, (notes, false), L, T1, out, made ++ [tn], ())) (n140g2_3 (uI ++ [p.1], false, L, (L.length : Int), ((0 : Nat) : Int), s, notes, T1, out, sp, made ++ [tn], ())) c T1 out (made ++ [tn]) (by omega) (by simp only [n194g1_5]; omega) (by simp only [n140g2_3]; omega) hTab
        have hkS : k194g1_5 RS (v248 uS p.1) 0 s (notes, false) L T1 out (made ++ [tn]) 0 = true := at_of hl1 0
        have hwS : w194g1_5 RS (v248 uS p.1) 0 s (notes, false) L T1 out (made ++ [tn]) = _ := val_of hl1
        have hwI : w140g2_3 RI (uI ++ [p.1]) false L (L.length : Int) 0 s notes T1 out sp (made ++ [tn]) = _ := val_of hl2
        have z5 : (made ++ [tn] : List (Ty.T y66)).length * 128 ≤ 140737488351232 := by simp only [List.length_append, List.length_cons, List.length_nil]; omega
        have z6 : (uI ++ [p.1] : List (Ty.T (.int .i64))).length * 8 ≤ 140737488351232 := by simp only [List.length_append, List.length_cons, List.length_nil]; omega
        refine ⟨b, T2, out2, made2, keyS ?_, keyI ?_, hT2⟩
        · simp only [t194g1, hd, hoe, hne, cond_false, cond_true, g194g1_2, c194g1_2, t194g1_2, b1, if_pos b3, Int.toNat_natCast, hnt, optC_some, hin, Bool.not_true, Option.isSome_some, Option.getD_some]
          rw [hch]
          simp only [if_pos g0, if_pos g1, Int.toNat_natCast, hy, optC_some, hea, cond_true, cond_false, hj, if_pos j0, if_pos j1, hpj, hda1, g194g1_3, t194g1_3, hcs.1, hdo, List.nil_append, if_pos z4, Option.isSome_some, htn, hst.1, hsm, Bool.not_true, hu1, hT1, g194g1_4, t194g1_4, e194g1_0, e194g1_1, if_pos z5, hw.1, hkS, hwS]
          rw [hoe, hch, htn, hwS]
        · have hk0 : k140g2_3 RI (uI ++ [p.1]) false L (L.length : Int) 0 s notes T1 out sp (made ++ [tn]) 0 = ((cond b 0 1 : Nat) == 0) := at_of hl2 0
          have hk1 : k140g2_3 RI (uI ++ [p.1]) false L (L.length : Int) 0 s notes T1 out sp (made ++ [tn]) 1 = ((cond b 0 1 : Nat) == 1) := at_of hl2 1
          have hcl2 : d135 uI = true ∧ v135 uI = uI := ⟨cl135 uI (by omega), rfl⟩
          simp only [t140g2, hdI, hvI, hne, cond_true, cond_false, e140g2_0, e140g2_1, e140g2_2, e140g2_3, v200g1, t200g1, d200g1, decide_eq_false b2, Int.toNat_natCast, hnt, optC_some, fromIn, hin, Bool.not_true, Option.isSome_some, Option.getD_some, getD_cond, isSome_cond, getD_sm, getD_no, isSome_sm, isSome_no, getD_opt, isSome_opt, isSome_ite, isSome_ifz]
          rw [hch]
          simp only [if_pos g0, if_pos g1, Int.toNat_natCast, hy, optC_some, hei.1, hei.2, cond_true, cond_false, hj, if_pos j0, if_pos j1, hpj, hda2, hda3, hcs.2.1, hcs.2.2, v201g1, t201g1, d201g1, hnt, hulI, htn, hst.2.1, hst.2.2, hsm, Bool.not_true, Option.isSome_some, Option.getD_some, hu2, hu3, g140g2_2, t140g2_2, if_pos z5, hcl2.1, hcl2.2, if_pos z6, getD_cond, isSome_cond, getD_sm, getD_no, isSome_sm, isSome_no, getD_opt, isSome_opt, isSome_ite, isSome_ifz]
          rw [hk0, hk1, hwI, decide_eq_true z5]
          cases b <;> rfl
def WR : Nat → Nat
  | 0 => 1
  | m + 1 => 1 + 3 * WR m
theorem cntP {α : Type} {p q : α → Bool} (h : ∀ x, p x = true → q x = true) {y : α} (hq : q y = true) (hp : p y = false) : ∀ l : List α, y ∈ l → l.countP p + 1 ≤ l.countP q
  | [], hy => by cases hy
  | a :: l, hy => by
    have hm : l.countP p ≤ l.countP q := List.countP_mono_left fun x _ => h x
    rw [List.countP_cons, List.countP_cons]
    rcases List.mem_cons.1 hy with rfl | hy
    · simp only [hq, hp, if_true, Bool.false_eq_true, if_false]; omega
    · have := cntP h hq hp l hy
      cases hpa : p a with
      | true => simp only [h a hpa, if_true]; omega
      | false => simp only [Bool.false_eq_true, if_false]; omega
def unused (u ids : List (Ty.T (.int .i64))) : Nat := ids.countP fun y => !(u.any fun z => z == y)
theorem recBoth {s : Ty.T y36} {notes : List (Ty.T y66)} {ids : List (Ty.T (.int .i64))} (hb : s.1.length ≤ 1048576) (hs : s.2.1.length ≤ 1048576) :
    ∀ (m k1 k2 : Nat) (uS uI : List (Ty.T (.int .i64))), m + 2 ≤ k1 → m + 2 ≤ k2 → uS.Perm uI → uS.Nodup → uS.length + m ≤ 1048576 → unused uS ids ≤ m → GoodR (WR m) (R194g1 k1) (R140g2 k2) uS uI s notes ids
  | 0, k1, k2, uS, uI, h1, h2, hp, hn, hu, hc => by
    obtain ⟨k1, rfl⟩ : ∃ k, k1 = k + 2 := ⟨k1 - 2, by omega⟩
    obtain ⟨k2, rfl⟩ : ∃ k, k2 = k + 2 := ⟨k2 - 2, by omega⟩
    refine stepGood (w := 0) hb hs hp hn (by omega) (fun u => stepBad) fun y hy hf => ?_
    have : 0 < unused uS ids := List.countP_pos_iff.2 ⟨y, hy, by rw [hf]; rfl⟩
    omega
  | m + 1, k1, k2, uS, uI, h1, h2, hp, hn, hu, hc => by
    obtain ⟨k1, rfl⟩ : ∃ k, k1 = k + 2 := ⟨k1 - 2, by omega⟩
    obtain ⟨k2, rfl⟩ : ∃ k, k2 = k + 2 := ⟨k2 - 2, by omega⟩
    refine stepGood (w := WR m) hb hs hp hn (by omega) (fun u => stepBad) fun y hy hf => ?_
    have hw := (withU uS y hn hf (by omega)).2
    have hd : (uS ++ [y]).Nodup := by
      rw [List.nodup_append]
      refine ⟨hn, by simp, fun a ha b hb => ?_⟩
      rw [List.mem_singleton] at hb
      subst hb
      intro he
      subst he
      have := List.any_eq_false.1 hf a ha
      simp at this
    refine recBoth hb hs m (k1 + 1) (k2 + 1) _ _ (by omega) (by omega) (hw.trans (hp.append_right [y])) (hw.nodup_iff.2 hd) (by rw [hw.length_eq, List.length_append]; simp only [List.length_cons, List.length_nil]; omega) ?_
    have h3 : unused (v248 uS y) ids = unused (uS ++ [y]) ids := by
      unfold unused
      congr 1
      funext x
      rw [hw.any_eq]
    have h4 : unused (uS ++ [y]) ids + 1 ≤ unused uS ids := cntP (fun x hx => by simp only [List.any_append, Bool.not_or, Bool.and_eq_true] at hx; exact hx.1) (by rw [hf]; rfl) (by simp) ids hy
    omega
theorem tabLen (l : List (Ty.T y108)) (hb : l.length ≤ 1048576) (hv : ∀ x ∈ l, x.2.2.2.2.2.2.1.2.2.2.2.2.2.length ≤ 1048576) (h : v156 l = true) : l.length ≤ 5 := by
  unfold v156 at h
  rcases tableL l hb hv with ⟨j, x1, x2⟩ | ⟨x1, x2⟩
  · have e0 : k156_0 l false 0 0 = true := at_of x1 0
    have ew : w156_0 l false 0 = _ := val_of x1
    simp only [e0, ew, cond_true] at h
    cases h
  · have e0 : k156_0 l false 0 0 = false := at_of x1 0
    have e1 : k156_0 l false 0 1 = true := at_of x1 1
    have ew : w156_0 l false 0 = _ := val_of x1
    simp only [e0, e1, ew, cond_true, cond_false] at h
    have := of_decide_eq_true h
    omega
theorem topI (x : Ty.T y27) (u : List (Ty.T (.int .i64))) (s : Ty.T y36) (out : List (Ty.T y27)) (T : List (Ty.T y108)) (sp : List (Ty.T (.int .i64))) (made notes : List (Ty.T y66)) : (d140g1 x u s out T sp made notes, v140g1 x u s out T sp made notes) = R140g2 41 x u s notes out T sp made := by kernel_rfl
theorem replay (s : Ty.T y36) (l : List (Ty.T y108)) (e : Ty.T y27) (n : List (Ty.T y66)) (hb : s.1.length ≤ 1048576) (hs : s.2.1.length ≤ 1048576) (hl : l.length ≤ 1048576) (hv : ∀ x ∈ l, x.2.2.2.2.2.2.1.2.2.2.2.2.2.length ≤ 1048576) :
    d98 s l e n = true ∧ d103 s l e n = true ∧ v103 s l e n = v98 s l e n ∧ (v98 s l e n).2.1.length ≤ 1048576 ∧ (v98 s l e n).2.2.1.length ≤ 1048576 ∧ (∀ x ∈ (v98 s l e n).2.2.1, x.2.2.2.2.2.2.1.2.2.2.2.2.2.length ≤ 1048576) ∧ (v98 s l e n).2.2.2.1 = [] ∧ (v98 s l e n).2.2.2.2.length ≤ 1048576 ∧ ∀ t ∈ (v98 s l e n).2.2.2.2, t.2.2.2.2.2.1.length ≤ 1048576 := by
  have c1 := ctS l hl hv
  have c2 := ctI l hl hv
  have q1 := stateOk s hb hs
  have q2 := tableOk l hl hv
  have q3 := evOk e
  have key : ∃ (b : Bool) (T : List (Ty.T y108)) (out : List (Ty.T y27)) (made : List (Ty.T y66)), t98 s l e n some = some (b, out, T, [], made) ∧ t103 s l e n some = some (b, out, T, [], made) ∧ out.length ≤ 1048576 ∧ T.length ≤ 1048576 ∧ (∀ x ∈ T, x.2.2.2.2.2.2.1.2.2.2.2.2.2.length ≤ 1048576) ∧ made.length ≤ 1048576 ∧ ∀ t ∈ made, t.2.2.2.2.2.1.length ≤ 1048576 := by
    cases h1 : v155 s with
    | false =>
      refine ⟨false, l, [], [], ?_, ?_, by simp, hl, hv, by simp, fun t h => by cases h⟩
      · simp [t98, g98_0, t98_0, g98_1, c98_1, t98_1, g98_2, c98_2, t98_2, c98_3, t98_3, e98_0, e98_1, c1.1, c1.2, q1.1, h1]
      · simp [t103, c2.1, c2.2, q1.2.1, q1.2.2, h1]
    | true =>
    cases h2 : v156 l with
    | false =>
      refine ⟨false, l, [], [], ?_, ?_, by simp, hl, hv, by simp, fun t h => by cases h⟩
      · simp [t98, g98_0, t98_0, g98_1, c98_1, t98_1, g98_2, c98_2, t98_2, c98_3, t98_3, e98_0, e98_1, c1.1, c1.2, q1.1, h1, q2.1, h2]
      · cases h3 : v157 e <;> simp [t103, c2.1, c2.2, q1.2.1, q1.2.2, h1, q2.2.1, q2.2.2, h2, q3, h3]
    | true =>
    cases h3 : v157 e with
    | false =>
      refine ⟨false, l, [], [], ?_, ?_, by simp, hl, hv, by simp, fun t h => by cases h⟩
      · simp [t98, g98_0, t98_0, g98_1, c98_1, t98_1, g98_2, c98_2, t98_2, c98_3, t98_3, e98_0, e98_1, c1.1, c1.2, q1.1, h1, q2.1, h2, h3]
      · simp [t103, c2.1, c2.2, q1.2.1, q1.2.2, h1, q2.2.1, q2.2.2, h2, q3, h3]
    | true =>
      have h5 := tabLen l hl hv h2
      have hun : unused [] (l.map (·.1)) ≤ 5 := Nat.le_trans List.countP_le_length (by rw [List.length_map]; exact h5)
      obtain ⟨b, T, out, made, x1, x2, x3⟩ := recBoth (s := s) (notes := n) (ids := l.map (·.1)) hb hs 5 40 41 [] [] (by omega) (by omega) (List.Perm.refl _) List.nodup_nil (by simp) hun e l [] [] [] 0
        ⟨hl, hv, rfl, by simp [WR], by simp [WR], by simp, fun t h => by cases h⟩
      have y1 : d194g1 e [] s n false l [] [] = true := congrArg Prod.fst x1
      have y2 : v194g1 e [] s n false l [] [] = (s, (n, b), T, out, made) := congrArg Prod.snd x1
      rw [← topI] at x2
      have y3 : d140g1 e [] s [] l [] [] n = true := congrArg Prod.fst x2
      have y4 : v140g1 e [] s [] l [] [] n = (!b, s, n, out, T, [], made) := congrArg Prod.snd x2
      have mb : made.length ≤ 1048576 := by have := x3.mb; omega
      have c3 := cuI made mb x3.mv
      refine ⟨!b && ((made.length : Int) == (n.length : Int)), T, out, made, ?_, ?_, by have := x3.ob; omega, x3.tb, x3.tv, mb, x3.mv⟩
      · cases b <;> simp [t98, g98_0, t98_0, g98_1, c98_1, t98_1, g98_2, c98_2, t98_2, c98_3, t98_3, e98_0, e98_1, c1.1, c1.2, q1.1, h1, q2.1, h2, h3, y1, y2]
      · cases b <;> simp [t103, c2.1, c2.2, q1.2.1, q1.2.2, h1, q2.2.1, q2.2.2, h2, q3, h3, g103_0, c103_0, t103_0, y3, y4, c3.1, c3.2]
  obtain ⟨b, T, out, made, k1, k2, k3⟩ := key
  have w1 : v98 s l e n = (b, out, T, [], made) := by
    show (t98 s l e n some).getD _ = _
    rw [k1]
    rfl
  have w2 : v103 s l e n = (b, out, T, [], made) := by
    show (t103 s l e n some).getD _ = _
    rw [k2]
    rfl
  rw [w1, w2]
  refine ⟨?_, ?_, rfl, k3.1, k3.2.1, k3.2.2.1, rfl, k3.2.2.2.1, k3.2.2.2.2⟩
  · show (t98 s l e n some).isSome = true
    rw [k1]
    rfl
  · show (t103 s l e n some).isSome = true
    rw [k2]
    rfl

theorem seS (xs ys : List (Ty.T y27)) (hb : xs.length ≤ 1048576) : d110 xs ys = true ∧ v110 xs ys = (decide (xs.length = ys.length) && (first (evP xs ys) 0 xs.length).isNone) := by
  unfold d110 v110
  by_cases hl : xs.length = ys.length
  · have e0 : ((xs.length : Int) != (ys.length : Int)) = false := by simp [hl]
    have h := find_iter (s := s110_0) (mk := fun i => (xs, ys, false, i, ())) (fin := fun i => (xs, ys, false, (i : Int), ())) (p := evP xs ys) (N := xs.length) (fun i hi => by
    have h1 : xs[i]? = some xs[i] := List.getElem?_eq_getElem hi
    have h2 : ys[i]? = some (ys[i]'(by omega)) := List.getElem?_eq_getElem (by omega)
    simp only [evP, h1, h2, evEq]
    have hw := wrap_nat (n := i) (by omega)
    have g5 : (0 : Int) ≤ (i : Int) := by omega
    have g6 : (i : Int) < (xs.length : Int) := by omega
    simp only [s110_0, t110_0, decide_eq_true g6, cond_true, if_pos g5, Int.toNat_natCast, h1, h2, optC_some, hw]) (by simp [s110_0, t110_0]) xs.length 0 (n110_0 (xs, ys, false, 0, ())) (by omega) (by simp only [n110_0]; omega)
    rw [e0]
    revert h
    generalize first (evP xs ys) 0 xs.length = o
    intro h
    cases o with
    | none =>
      have e0 : k110_0 xs ys false 0 0 = false := at_of h 0
      have e1 : k110_0 xs ys false 0 1 = true := at_of h 1
      rw [e0, e1, decide_eq_true hl]
      exact ⟨rfl, rfl⟩
    | some j =>
      have e0 : k110_0 xs ys false 0 0 = true := at_of h 0
      have hw : w110_0 xs ys false 0 = _ := val_of h
      rw [e0, hw, decide_eq_true hl]
      exact ⟨rfl, rfl⟩
  · have e0 : ((xs.length : Int) != (ys.length : Int)) = true := by simp; omega
    rw [e0, decide_eq_false hl]
    exact ⟨rfl, rfl⟩
theorem seI (xs ys : List (Ty.T y27)) (hb : xs.length ≤ 1048576) : d59 xs ys = true ∧ v59 xs ys = v110 xs ys := by
  unfold d59 v59
  rw [(eqI xs ys hb).1, (eqI xs ys hb).2, (seS xs ys hb).2]
  exact ⟨rfl, rfl⟩
theorem efS (a b : Ty.T y108) (hb : a.2.2.2.2.2.2.1.2.2.2.2.2.2.length ≤ 1048576) (hl : a.2.2.2.2.2.2.1.2.2.2.2.2.2.length = b.2.2.2.2.2.2.1.2.2.2.2.2.2.length) : iter s208_0 (n208_0 (false, 0, a.2.2.2.2.2.2.1, b.2.2.2.2.2.2.1, ())) (false, 0, a.2.2.2.2.2.2.1, b.2.2.2.2.2.2.1, ()) = some (match first (evP a.2.2.2.2.2.2.1.2.2.2.2.2.2 b.2.2.2.2.2.2.1.2.2.2.2.2.2) 0 a.2.2.2.2.2.2.1.2.2.2.2.2.2.length with | some j => (0, (fun i => (false, (i : Int), a.2.2.2.2.2.2.1, b.2.2.2.2.2.2.1, ())) j) | none => (1, (fun i : Int => (false, i, a.2.2.2.2.2.2.1, b.2.2.2.2.2.2.1, ())) (a.2.2.2.2.2.2.1.2.2.2.2.2.2.length : Int))) := by
  refine find_iter (s := s208_0) (mk := fun i => (false, i, a.2.2.2.2.2.2.1, b.2.2.2.2.2.2.1, ())) (fin := fun i => (false, (i : Int), a.2.2.2.2.2.2.1, b.2.2.2.2.2.2.1, ())) (p := evP a.2.2.2.2.2.2.1.2.2.2.2.2.2 b.2.2.2.2.2.2.1.2.2.2.2.2.2) (N := a.2.2.2.2.2.2.1.2.2.2.2.2.2.length) (fun i hi => ?_) ?_ a.2.2.2.2.2.2.1.2.2.2.2.2.2.length 0 (n208_0 (false, 0, a.2.2.2.2.2.2.1, b.2.2.2.2.2.2.1, ())) (by omega) (by simp only [n208_0]; omega)
  · skip
    have h1 : a.2.2.2.2.2.2.1.2.2.2.2.2.2[i]? = some a.2.2.2.2.2.2.1.2.2.2.2.2.2[i] := List.getElem?_eq_getElem hi
    have h2 : b.2.2.2.2.2.2.1.2.2.2.2.2.2[i]? = some (b.2.2.2.2.2.2.1.2.2.2.2.2.2[i]'(by omega)) := List.getElem?_eq_getElem (by omega)
    simp only [evP, h1, h2, evEq]
    have hw := wrap_nat (n := i) (by omega)
    have g5 : (0 : Int) ≤ (i : Int) := by omega
    have g6 : (i : Int) < (a.2.2.2.2.2.2.1.2.2.2.2.2.2.length : Int) := by omega
    simp only [s208_0, t208_0, decide_eq_true g6, cond_true, if_pos g5, Int.toNat_natCast, h1, h2, optC_some, hw]
  · simp [s208_0, t208_0]
theorem cond_fb (x y : Bool) : (cond x false y) = (!x && y) := by cases x <;> rfl
theorem cond_yy (x y : Bool) : cond x y y = y := by cases x <;> rfl
theorem cond_bf (x y : Bool) : (cond x y false) = (x && y) := by cases x <;> rfl
theorem sameEf (a b : Ty.T y108) (hb : a.2.2.2.2.2.2.1.2.2.2.2.2.2.length ≤ 1048576) : d208 a b = true ∧ d73 a b = true ∧ v73 a b = v208 a b := by
  have h1 := eqI a.2.2.2.2.2.2.1.2.2.2.2.2.2 b.2.2.2.2.2.2.1.2.2.2.2.2.2 hb
  simp only [d208, t208, d73, t73, v208, v73, d179, v179, h1.1, h1.2, cond_true, bne, cond_yy, cond_fb, cond_bf, Bool.not_not, Bool.and_true, Bool.not_true, Bool.not_false, getD_cond, isSome_cond, getD_sm, getD_no, isSome_sm, isSome_no, getD_opt, isSome_opt, isSome_ite, isSome_ifz]
  by_cases hl : a.2.2.2.2.2.2.1.2.2.2.2.2.2.length = b.2.2.2.2.2.2.1.2.2.2.2.2.2.length
  · have e0 : ((a.2.2.2.2.2.2.1.2.2.2.2.2.2.length : Int) == (b.2.2.2.2.2.2.1.2.2.2.2.2.2.length : Int)) = true := by simp [hl]
    have h := efS a b hb hl
    simp only [e0, decide_eq_true hl]
    revert h
    generalize first (evP a.2.2.2.2.2.2.1.2.2.2.2.2.2 b.2.2.2.2.2.2.1.2.2.2.2.2.2) 0 a.2.2.2.2.2.2.1.2.2.2.2.2.2.length = o
    intro h
    cases o with
    | none =>
      have e0 : k208_0 false 0 a.2.2.2.2.2.2.1 b.2.2.2.2.2.2.1 0 = false := at_of h 0
      have e1 : k208_0 false 0 a.2.2.2.2.2.2.1 b.2.2.2.2.2.2.1 1 = true := at_of h 1
      simp only [e0, e1]
      refine ⟨by simp, by simp, ?_⟩
      simp only [cond_true, cond_false, Option.isNone_none, Bool.and_true, Bool.true_and, cond_yy, cond_fb, cond_bf, Bool.not_not, Bool.not_true, Bool.not_false, Bool.and_assoc]
      try ac_rfl
    | some j =>
      have e0 : k208_0 false 0 a.2.2.2.2.2.2.1 b.2.2.2.2.2.2.1 0 = true := at_of h 0
      have hw : w208_0 false 0 a.2.2.2.2.2.2.1 b.2.2.2.2.2.2.1 = _ := val_of h
      simp only [e0, hw]
      refine ⟨by simp, by simp, ?_⟩
      simp
  · have e0 : ((a.2.2.2.2.2.2.1.2.2.2.2.2.2.length : Int) == (b.2.2.2.2.2.2.1.2.2.2.2.2.2.length : Int)) = false := by simp; omega
    simp only [e0, decide_eq_false hl]
    refine ⟨by simp, by simp, ?_⟩
    simp
noncomputable def efP (xs ys : List (Ty.T y108)) (i : Nat) : Bool := match xs[i]?, ys[i]? with | some x, some y => !v208 x y | _, _ => false
theorem stS (xs ys : List (Ty.T y108)) (hb : xs.length ≤ 1048576) (hv : ∀ x ∈ xs, x.2.2.2.2.2.2.1.2.2.2.2.2.2.length ≤ 1048576) : d111 xs ys = true ∧ v111 xs ys = (decide (xs.length = ys.length) && (first (efP xs ys) 0 xs.length).isNone) := by
  unfold d111 v111
  by_cases hl : xs.length = ys.length
  · have e0 : ((xs.length : Int) != (ys.length : Int)) = false := by simp [hl]
    have h := find_iter (s := s111_0) (mk := fun i => (xs, ys, false, i, ())) (fin := fun i => (xs, ys, false, (i : Int), ())) (p := efP xs ys) (N := xs.length) (fun i hi => by
      have h1 : xs[i]? = some xs[i] := List.getElem?_eq_getElem hi
      have h2 : ys[i]? = some (ys[i]'(by omega)) := List.getElem?_eq_getElem (by omega)
      have hq := sameEf xs[i] (ys[i]'(by omega)) (hv _ (List.getElem_mem hi))
      simp only [efP, h1, h2]
      have hw := wrap_nat (n := i) (by omega)
      have g5 : (0 : Int) ≤ (i : Int) := by omega
      have g6 : (i : Int) < (xs.length : Int) := by omega
      simp only [s111_0, t111_0, decide_eq_true g6, cond_true, if_pos g5, Int.toNat_natCast, h1, h2, optC_some, hw, hq.1, hq.2.1, hq.2.2]) (by simp [s111_0, t111_0]) xs.length 0 (n111_0 (xs, ys, false, 0, ())) (by omega) (by simp only [n111_0]; omega)
    rw [e0]
    revert h
    generalize first (efP xs ys) 0 xs.length = o
    intro h
    cases o with
    | none =>
      have e0 : k111_0 xs ys false 0 0 = false := at_of h 0
      have e1 : k111_0 xs ys false 0 1 = true := at_of h 1
      rw [e0, e1, decide_eq_true hl]
      exact ⟨rfl, rfl⟩
    | some j =>
      have e0 : k111_0 xs ys false 0 0 = true := at_of h 0
      have hw : w111_0 xs ys false 0 = _ := val_of h
      rw [e0, hw, decide_eq_true hl]
      exact ⟨rfl, rfl⟩
  · have e0 : ((xs.length : Int) != (ys.length : Int)) = true := by simp; omega
    rw [e0, decide_eq_false hl]
    exact ⟨rfl, rfl⟩
theorem stI (xs ys : List (Ty.T y108)) (hb : xs.length ≤ 1048576) (hv : ∀ x ∈ xs, x.2.2.2.2.2.2.1.2.2.2.2.2.2.length ≤ 1048576) : d180c1 xs ys = true ∧ v180c1 xs ys = (decide (xs.length = ys.length) && (first (efP xs ys) 0 xs.length).isNone) := by
  unfold d180c1 v180c1
  by_cases hl : xs.length = ys.length
  · have e0 : ((xs.length : Int) != (ys.length : Int)) = false := by simp [hl]
    have h := find_iter (s := s180c1_0) (mk := fun i => (ys, false, xs, ((xs).length : Int), i, ())) (fin := fun i => (ys, false, xs, ((xs).length : Int), (i : Int), ())) (p := efP xs ys) (N := xs.length) (fun i hi => by
      have h1 : xs[i]? = some xs[i] := List.getElem?_eq_getElem hi
      have h2 : ys[i]? = some (ys[i]'(by omega)) := List.getElem?_eq_getElem (by omega)
      have hq := sameEf xs[i] (ys[i]'(by omega)) (hv _ (List.getElem_mem hi))
      simp only [efP, h1, h2]
      have hw := wrap_nat (n := i) (by omega)
      have g5 : (0 : Int) ≤ (i : Int) := by omega
      have g6 : (i : Int) < (xs.length : Int) := by omega
      simp only [s180c1_0, t180c1_0, decide_eq_true g6, cond_true, if_pos g5, Int.toNat_natCast, h1, h2, optC_some, hw, hq.1, hq.2.1, hq.2.2]) (by simp [s180c1_0, t180c1_0]) xs.length 0 (n180c1_0 (ys, false, xs, ((xs).length : Int), 0, ())) (by omega) (by simp only [n180c1_0]; omega)
    rw [e0]
    revert h
    generalize first (efP xs ys) 0 xs.length = o
    intro h
    cases o with
    | none =>
      have e0 : k180c1_0 ys false xs ((xs).length : Int) 0 0 = false := at_of h 0
      have e1 : k180c1_0 ys false xs ((xs).length : Int) 0 1 = true := at_of h 1
      rw [e0, e1, decide_eq_true hl]
      exact ⟨rfl, rfl⟩
    | some j =>
      have e0 : k180c1_0 ys false xs ((xs).length : Int) 0 0 = true := at_of h 0
      have hw : w180c1_0 ys false xs ((xs).length : Int) 0 = _ := val_of h
      rw [e0, hw, decide_eq_true hl]
      exact ⟨rfl, rfl⟩
  · have e0 : ((xs.length : Int) != (ys.length : Int)) = true := by simp; omega
    rw [e0, decide_eq_false hl]
    exact ⟨rfl, rfl⟩
theorem sameTab (xs ys : List (Ty.T y108)) (hb : xs.length ≤ 1048576) (hv : ∀ x ∈ xs, x.2.2.2.2.2.2.1.2.2.2.2.2.2.length ≤ 1048576) : d111 xs ys = true ∧ d74 xs ys = true ∧ v74 xs ys = v111 xs ys := by
  have h1 := stS xs ys hb hv
  have h2 := stI xs ys hb hv
  unfold d74 v74
  rw [h1.1, h1.2, h2.1, h2.2]
  exact ⟨rfl, rfl, rfl⟩
theorem valid (s : Ty.T y36) (l : List (Ty.T y108)) (e : Ty.T y27) (f : Ty.T y56) (hb : s.1.length ≤ 1048576) (hs : s.2.1.length ≤ 1048576) (hl : l.length ≤ 1048576) (hv : ∀ x ∈ l, x.2.2.2.2.2.2.1.2.2.2.2.2.2.length ≤ 1048576) :
    d24 s l e f = true ∧ d26 s l e f = true ∧ v26 s l e f = v24 s l e f := by
  obtain ⟨h1, h2, h3, h4, h5, h6, -⟩ := replay s l e f.2.2.2 hb hs hl hv
  have q1 := seS (v98 s l e f.2.2.2).2.1 f.1 h4
  have q2 := seI (v98 s l e f.2.2.2).2.1 f.1 h4
  have q3 := sameTab (v98 s l e f.2.2.2).2.2.1 f.2.1 h5 h6
  unfold d24 d26 v26 v24
  rw [h1, h2, h3, q1.1, q2.1, q2.2, q3.1, q3.2.1, q3.2.2]
  refine ⟨?_, ?_, rfl⟩ <;> simp
theorem law (a0 : Ty.T y24) (a1 : List (Ty.T y131)) (a2 : Ty.T y27) (a3 : Ty.T y51) (w0 : Ty.ok y24 a0) (w1 : Ty.ok (.sl 132 y131) a1) (w2 : Ty.ok y27 a2) (w3 : Ty.ok y51 a3) : d4 a0 a1 a2 a3 = true ∧ v4 a0 a1 a2 a3 = true := by
  unfold d4 v4
  have y0 := sz11 a0 w0 1048576 (by omega) (by omega)
  have z0 := y0
  by_cases g0 : v11 a0 1048576 < 0
  · rw [decide_eq_true g0]; exact ⟨rfl, rfl⟩
  · rw [decide_eq_false g0]
    have s0 := z0.2 (by omega)
    have y1 := sz12 a1 w1 (v11 a0 1048576) (by omega) (by have := z0.1; omega)
    rw [y1.1]
    have z1 := y1.2
    by_cases g1 : v12 a1 (v11 a0 1048576) < 0
    · rw [decide_eq_true g1]; exact ⟨rfl, rfl⟩
    · rw [decide_eq_false g1]
      have s1 := z1.2 (by omega)
      have y3 := sz23 a3 w3 (v12 a1 (v11 a0 1048576)) (by omega) (by have := z0.1; have := z1.1; omega)
      rw [y3.1]
      have z3 := y3.2
      by_cases g3 : v23 a3 (v12 a1 (v11 a0 1048576)) < 0
      · rw [decide_eq_true g3]; exact ⟨rfl, rfl⟩
      · rw [decide_eq_false g3]
        have s3 := z3.2 (by omega)
        have s2 : Ty.short y27 a2 := by simp [Ty.short]
        have t0_15 := to15 a0 s0
        have q0_20 := eq20 a0 s0
        have t1_16 := to16 a1 s1
        have e1_16 : v16 a1 = a1 := t1_16.2
        have q1_21 := eq21 a1 s1
        have e2_17 : v17 a2 = a2 := to17 a2
        have t3_25 := to25 a3 s3
        have e3_25 : v25 a3 = a3 := t3_25.2
        have q3_27 := eq27 a3 s3
        have q := valid a0 a1 a2 a3 s0.1.1 s0.2.1.1 s1.1 (fun x hx => (s1.2 x hx).2.2.2.2.2.2.1.2.2.2.2.2.2.1)
        simp only [t0_15.1, t0_15.2, pair_eta, q0_20.1, q0_20.2, t1_16.1, e1_16, q1_21.1, q1_21.2, e2_17, t3_25.1, e3_25, q3_27.1, q3_27.2, q.1, q.2.1, q.2.2]
        simp
end Go.Proofs.YtahlaccdpmddbaaGreat.Vm
namespace Go.Proofs.YtahlaccdpmddbaaGreat.Pure
open Go Go.Proofs.YtahlaccdpmddbaaGreat.Lib Go.Proofs.YtahlaccdpmddbaaGreat.Vm
theorem fnExactValid : Go.Proofs.YtahlaccdpmddbaaGreat.fnExactValid.Pure := fun a0 a1 a2 a3 w0 w1 w2 w3 => by
  have h := law a0 a1 a2 a3 w0 w1 w2 w3
  show cond (d4 a0 a1 a2 a3) (some (f4 (v4 a0 a1 a2 a3))) none = _
  rw [h.1, h.2]
  rfl
end Go.Proofs.YtahlaccdpmddbaaGreat.Pure
