/- FnExactOrderOk: the program and the reference answer alike. No condition. -/
import Derived.Test.YtcladakiniekcaaVmRowFnExactOrderOk
import Derived.Test.YtcladakiniekcaaVmLibThree
namespace Go.Proofs.Ytcladakiniekcaa.Vm
open Go Go.Proofs.Ytcladakiniekcaa.Lib
set_option linter.unusedSimpArgs false
set_option linter.unusedVariables false
def SZ (r n : Int) (S : Prop) : Prop := r ≤ n ∧ (0 ≤ r → S)
theorem SZ.neg {n : Int} {S : Prop} (h0 : 0 ≤ n) : SZ (-1) n S := ⟨by omega, fun h => absurd h (by omega)⟩
theorem sz70 (x : List (Ty.T y124)) (ho : Ty.ok (.sl 135 y124) x) (n : Int) (h0 : 0 ≤ n) (h1 : n ≤ 1048576) : SZ (v70 x n) n (Ty.short (.sl 135 y124) x) := by
  have hl := ho.2
  unfold v70
  rw [wrap_in (by omega) (by omega)]
  by_cases h : n - (x.length : Int) < 0
  · rw [decide_eq_true h]; exact .neg h0
  · rw [decide_eq_false h]; exact ⟨show n - (x.length : Int) ≤ n by omega, fun _ => ⟨by omega, fun x _ => by simp [Ty.short]⟩⟩
theorem sz111 (x : Ty.T y60) (ho : Ty.ok y60 x) (n : Int) (h0 : 0 ≤ n) (h1 : n ≤ 1048576) : SZ (v111 x n) n (Ty.short y60 x) := by
  unfold v111
  have y0 := sz70 x.2.2.2.2.2.2 ho.2.2.2.2.2.2 n h0 h1
  have z0 := y0
  by_cases g0 : v70 x.2.2.2.2.2.2 n < 0
  · rw [decide_eq_true g0]; exact .neg h0
  · rw [decide_eq_false g0]
    exact ⟨show v70 x.2.2.2.2.2.2 n ≤ n by have := z0.1; omega, fun _ => ⟨(by simp [Ty.short]), ⟨(by simp [Ty.short]), ⟨(by simp [Ty.short]), ⟨(by simp [Ty.short]), ⟨(by simp [Ty.short]), ⟨(by simp [Ty.short]), (z0.2 (by omega))⟩⟩⟩⟩⟩⟩⟩
theorem sz69 (x : Ty.T y62) (ho : Ty.ok y62 x) (n : Int) (h0 : 0 ≤ n) (h1 : n ≤ 1048576) : SZ (v69 x n) n (Ty.short y62 x) := by
  unfold v69
  have y0 := sz111 x.2.2.2.2.2.2.1 ho.2.2.2.2.2.2.1 n h0 h1
  have z0 := y0
  by_cases g0 : v111 x.2.2.2.2.2.2.1 n < 0
  · rw [decide_eq_true g0]; exact .neg h0
  · rw [decide_eq_false g0]
    exact ⟨show v111 x.2.2.2.2.2.2.1 n ≤ n by have := z0.1; omega, fun _ => ⟨(by simp [Ty.short]), ⟨(by simp [Ty.short]), ⟨(by simp [Ty.short]), ⟨(by simp [Ty.short]), ⟨(by simp [Ty.short]), ⟨(by simp [Ty.short]), ⟨(z0.2 (by omega)), (by simp [Ty.short])⟩⟩⟩⟩⟩⟩⟩⟩
theorem sz37 (x : Ty.T y64) (ho : Ty.ok y64 x) (n : Int) (h0 : 0 ≤ n) (h1 : n ≤ 1048576) : SZ (v37 x n) n (Ty.short y64 x) := by
  unfold v37
  have y0 := sz69 x.2.1 ho.2.1 n h0 h1
  have z0 := y0
  by_cases g0 : v69 x.2.1 n < 0
  · rw [decide_eq_true g0]; exact .neg h0
  · rw [decide_eq_false g0]
    have y1 := sz70 x.2.2.2 ho.2.2.2 (v69 x.2.1 n) (by omega) (by have := z0.1; omega)
    have z1 := y1
    by_cases g1 : v70 x.2.2.2 (v69 x.2.1 n) < 0
    · rw [decide_eq_true g1]; exact .neg h0
    · rw [decide_eq_false g1]
      exact ⟨show v70 x.2.2.2 (v69 x.2.1 n) ≤ n by have := z0.1; have := z1.1; omega, fun _ => ⟨(by simp [Ty.short]), ⟨(z0.2 (by omega)), ⟨(by simp [Ty.short]), (z1.2 (by omega))⟩⟩⟩⟩
theorem to113 (x : Ty.T y56) : v113 x = x := rfl
theorem to114 (x : Ty.T y58) : v114 x = x := rfl
theorem to116 (x : Ty.T y124) : v116 x = x := rfl
theorem to74 (xs : List (Ty.T y124)) (hs : Ty.short (.sl 135 y124) xs) : d74 xs = true ∧ v74 xs = xs := by
  have hb := hs.1
  have h : ∀ (n : Nat) (hn : xs.length < n) (out : List (Ty.T y124)) (ho : out.length = xs.length), iter s74_0 n (xs, [], 0, out, ()) = some (0, (xs, [], (xs.length : Int), xs, ())) := fun n hn out ho => by
    have := map_iter (s := s74_0) (mk := fun i o => (xs, [], i, o, ())) (xs := xs) (conv := fun x => x) (fun i out x hx hl => by
      obtain ⟨hi, rfl⟩ := List.getElem?_eq_some_iff.1 hx
      skip
      simp [s74_0, t74_0, optC_some, hi, hl, to116, wrap_nat (n := i) (by omega)]) (fun out hl => by simp [s74_0, t74_0]) xs.length 0 out n (by omega) ho hn
    simpa using this
  have h := h (n74_0 (xs, [], 0, (List.replicate ((xs.length : Int)).toNat (Ty.zero y124)), ())) (by simp [n74_0]; omega) (List.replicate ((xs.length : Int)).toNat (Ty.zero y124)) (by simp)
  have hk : k74_0 xs [] 0 (List.replicate ((xs.length : Int)).toNat (Ty.zero y124)) 0 = true := at_of h 0
  have hw : w74_0 xs [] 0 (List.replicate ((xs.length : Int)).toNat (Ty.zero y124)) = (xs, [], (xs.length : Int), xs, ()) := val_of h
  constructor
  · show (_ && (_ && (cond (k74_0 xs [] 0 (List.replicate ((xs.length : Int)).toNat (Ty.zero y124)) 0) true false))) = true
    rw [hk]
    simp
    omega
  · show cond (k74_0 xs [] 0 (List.replicate ((xs.length : Int)).toNat (Ty.zero y124)) 0) (w74_0 xs [] 0 (List.replicate ((xs.length : Int)).toNat (Ty.zero y124))).2.2.2.1 [] = xs
    rw [hk, hw]
    rfl
theorem to115 (x : Ty.T y60) (hs : Ty.short y60 x) : d115 x = true ∧ v115 x = (x.1, x.2.1, x.2.2.1, x.2.2.2.1, x.2.2.2.2.1, x.2.2.2.2.2.1, x.2.2.2.2.2.2) := by
  have h0 := to74 x.2.2.2.2.2.2 hs.2.2.2.2.2.2
  unfold d115 v115
  rw [h0.1, h0.2]
  exact ⟨rfl, rfl⟩
theorem to73 (x : Ty.T y62) (hs : Ty.short y62 x) : d73 x = true ∧ v73 x = (x.1, x.2.1, x.2.2.1, x.2.2.2.1, x.2.2.2.2.1.1, x.2.2.2.2.1.2.1, x.2.2.2.2.1.2.2.1, x.2.2.2.2.1.2.2.2.1, x.2.2.2.2.1.2.2.2.2.1, x.2.2.2.2.1.2.2.2.2.2.1, x.2.2.2.2.1.2.2.2.2.2.2, x.2.2.2.2.2.1.1, x.2.2.2.2.2.1.2, x.2.2.2.2.2.2.1.1, x.2.2.2.2.2.2.1.2.1, x.2.2.2.2.2.2.1.2.2.1, x.2.2.2.2.2.2.1.2.2.2.1, x.2.2.2.2.2.2.1.2.2.2.2.1, x.2.2.2.2.2.2.1.2.2.2.2.2.1, x.2.2.2.2.2.2.2.1, x.2.2.2.2.2.2.2.2, x.2.2.2.2.2.2.1.2.2.2.2.2.2) := by
  have h0 : True ∧ v113 x.2.2.2.2.1 = _ := ⟨trivial, to113 x.2.2.2.2.1⟩
  have h1 : True ∧ v114 x.2.2.2.2.2.1 = _ := ⟨trivial, to114 x.2.2.2.2.2.1⟩
  have h2 := to115 x.2.2.2.2.2.2.1 hs.2.2.2.2.2.2.1
  unfold d73 v73
  rw [h0.2, h1.2, h2.1, h2.2]
  exact ⟨rfl, rfl⟩
theorem to39 (x : Ty.T y64) (hs : Ty.short y64 x) : d39 x = true ∧ v39 x = (x.1, x.2.1.1, x.2.1.2.1, x.2.1.2.2.1, x.2.1.2.2.2.1, x.2.1.2.2.2.2.1.1, x.2.1.2.2.2.2.1.2.1, x.2.1.2.2.2.2.1.2.2.1, x.2.1.2.2.2.2.1.2.2.2.1, x.2.1.2.2.2.2.1.2.2.2.2.1, x.2.1.2.2.2.2.1.2.2.2.2.2.1, x.2.1.2.2.2.2.1.2.2.2.2.2.2, x.2.1.2.2.2.2.2.1.1, x.2.1.2.2.2.2.2.1.2, x.2.1.2.2.2.2.2.2.1.1, x.2.1.2.2.2.2.2.2.1.2.1, x.2.1.2.2.2.2.2.2.1.2.2.1, x.2.1.2.2.2.2.2.2.1.2.2.2.1, x.2.1.2.2.2.2.2.2.1.2.2.2.2.1, x.2.1.2.2.2.2.2.2.1.2.2.2.2.2.1, x.2.1.2.2.2.2.2.2.2.1, x.2.1.2.2.2.2.2.2.2.2, x.2.2.1, x.2.1.2.2.2.2.2.2.1.2.2.2.2.2.2, x.2.2.2) := by
  have h0 := to73 x.2.1 hs.2.1
  have h1 := to74 x.2.2.2 hs.2.2.2
  unfold d39 v39
  rw [h0.1, h0.2, h1.1, h1.2]
  exact ⟨rfl, rfl⟩
theorem eq118 (x : Ty.T y56) : v118 x x = true := by simp [v118]
theorem eq119 (x : Ty.T y58) : v119 x x = true := by simp [v119]
theorem eq121 (x : Ty.T y124) : v121 x x = true := by simp [v121]
theorem eq78 (xs : List (Ty.T y124)) (hs : Ty.short (.sl 125 y124) xs) : d78 xs xs = true ∧ v78 xs xs = true := by
  have hb := hs.1
  have h := all_iter (s := s78_0) (mk := fun i => (xs, xs, false, i, ())) (c := 1) (N := xs.length) (fun i hi => by
    skip
    simp [s78_0, t78_0, optC_some, hi, eq121, wrap_nat (n := i) (by omega)]) (by simp [s78_0, t78_0]) xs.length 0 (n78_0 (xs, xs, false, 0, ())) (by omega) (by simp [n78_0]; omega)
  have h0 : k78_0 xs xs false 0 0 = false := at_of h 0
  have h1 : k78_0 xs xs false 0 1 = true := at_of h 1
  unfold d78 v78
  rw [h0, h1]
  simp
theorem eq120 (x : Ty.T y70) (hs : Ty.short y70 x) : d120 x x = true ∧ v120 x x = true := by
  have h0 := eq78 x.2.2.2.2.2.2 hs.2.2.2.2.2.2
  unfold d120 v120
  rw [h0.1, h0.2]
  simp
theorem eq77 (x : Ty.T y72) (hs : Ty.short y72 x) : d77 x x = true ∧ v77 x x = true := by
  have h2 := eq120 x.2.2.2.2.2.2.1 hs.2.2.2.2.2.2.1
  unfold d77 v77
  rw [h2.1, h2.2, eq118, eq119]
  simp
theorem eq41 (x : Ty.T y74) (hs : Ty.short y74 x) : d41 x x = true ∧ v41 x x = true := by
  have h0 := eq77 x.2.1 hs.2.1
  have h1 := eq78 x.2.2.2 hs.2.2.2
  unfold d41 v41
  rw [h0.1, h0.2, h1.1, h1.2]
  simp
theorem evOk' (a : Int) (b : Int) (c : Int) (d : Int) (n : Int) (z : Int) (t : Bool) : v138 ((a, b, c, d, n, z, t) : Ty.T y124) = v128 ((a, b, c, d, n, z, t) : Ty.T y124) := by
  simp only [v138, v128, v82, v131, v163, v86, v169, v130, v170, v165]
  dsimp only [Ty.T]
  have cc : ∀ (p q r : Bool), cond p q r = true ↔ (p = true ∧ q = true) ∨ (p = false ∧ r = true) := by decide
  have cf : ∀ (p q r : Bool), cond p q r = false ↔ (p = true ∧ q = false) ∨ (p = false ∧ r = false) := by decide
  by_cases h1 : a = 1
  · subst h1; rw [Bool.eq_iff_iff]; cases t <;> simp [cc, cf, *] <;> omega
  by_cases h2 : a = 2
  · subst h2; rw [Bool.eq_iff_iff]; cases t <;> simp [cc, cf, *] <;> omega
  by_cases h3 : a = 3
  · subst h3; rw [Bool.eq_iff_iff]; cases t <;> simp [cc, cf, *] <;> omega
  by_cases h4 : a = 4
  · subst h4; rw [Bool.eq_iff_iff]; cases t <;> simp [cc, cf, *] <;> omega
  by_cases h5 : a = 5
  · subst h5; rw [Bool.eq_iff_iff]; cases t <;> simp [cc, cf, *] <;> omega
  by_cases h6 : a = 6
  · subst h6; rw [Bool.eq_iff_iff]; cases t <;> simp [cc, cf, *] <;> omega
  rw [Bool.eq_iff_iff]; cases t <;> simp [cc, cf, *] <;> omega
theorem evOk (e : Ty.T y124) : v138 e = v128 e := by
  obtain ⟨a, b, c, d, n, z, t⟩ := e
  exact evOk' a b c d n z t
theorem evNo' (a b c d z : Int) (t : Bool) : v128 ((a, b, c, d, -1, z, t) : Ty.T y124) = false := by
  simp only [v128, v82]
  dsimp only [Ty.T]
  have cc : ∀ (p q r : Bool), cond p q r = true ↔ (p = true ∧ q = true) ∨ (p = false ∧ r = true) := by decide
  have cf : ∀ (p q r : Bool), cond p q r = false ↔ (p = true ∧ q = false) ∨ (p = false ∧ r = false) := by decide
  cases t <;> simp [cc, cf]
theorem partOk (e : Ty.T y124) : v167 e = v159 e := by
  obtain ⟨a, b, c, d, n, z, t⟩ := e
  have h := evNo' a b c d z t
  simp only [v167, v159, evOk]
  by_cases hn : n = (-1 : Int)
  · subst hn
    rw [h]
    cases (a == (2 : Int)) <;> simp [bne, *]
  · have h1 : (n == (-1 : Int)) = false := by simpa using hn
    simp only [h1]
    cases (v128 (a, b, c, d, n, z, t)) <;> cases (a == (2 : Int)) <;> simp [bne, *]
theorem patOk' (k : Int) (w : Int) (s : Int) (p : Int) (l : Int) (t : Int) (z : Int) : v132 ((k, w, s, p, l, t, z) : Ty.T y56) = v123 ((k, w, s, p, l, t, z) : Ty.T y56) := by
  simp only [v132, v123, v82, v131, v163, v161, v162]
  dsimp only [Ty.T]
  have cc : ∀ (p q r : Bool), cond p q r = true ↔ (p = true ∧ q = true) ∨ (p = false ∧ r = true) := by decide
  have cf : ∀ (p q r : Bool), cond p q r = false ↔ (p = true ∧ q = false) ∨ (p = false ∧ r = false) := by decide
  by_cases h1 : k = 1
  · subst h1; rw [Bool.eq_iff_iff]; simp [cc, cf, *] <;> omega
  by_cases h2 : k = 2
  · subst h2; rw [Bool.eq_iff_iff]; simp [cc, cf, *] <;> omega
  by_cases h3 : k = 3
  · subst h3; rw [Bool.eq_iff_iff]; simp [cc, cf, *] <;> omega
  by_cases h4 : k = 4
  · subst h4; rw [Bool.eq_iff_iff]; simp [cc, cf, *] <;> omega
  by_cases h5 : k = 5
  · subst h5; rw [Bool.eq_iff_iff]; simp [cc, cf, *] <;> omega
  by_cases h6 : k = 6
  · subst h6; rw [Bool.eq_iff_iff]; simp [cc, cf, *] <;> omega
  rw [Bool.eq_iff_iff]; simp [cc, cf, *] <;> omega
theorem patOk (e : Ty.T y56) : v132 e = v123 e := by
  obtain ⟨k, w, s, p, l, t, z⟩ := e
  exact patOk' k w s p l t z
theorem guardOk' (k : Int) (n : Int) : v133 ((k, n) : Ty.T y58) = v124 ((k, n) : Ty.T y58) := by
  simp only [v133, v124, v82, v131, v164]
  dsimp only [Ty.T]
  have cc : ∀ (p q r : Bool), cond p q r = true ↔ (p = true ∧ q = true) ∨ (p = false ∧ r = true) := by decide
  have cf : ∀ (p q r : Bool), cond p q r = false ↔ (p = true ∧ q = false) ∨ (p = false ∧ r = false) := by decide
  by_cases h0 : k = 0
  · subst h0; rw [Bool.eq_iff_iff]; simp [cc, cf, *] <;> omega
  by_cases h1 : k = 1
  · subst h1; rw [Bool.eq_iff_iff]; simp [cc, cf, *] <;> omega
  by_cases h2 : k = 2
  · subst h2; rw [Bool.eq_iff_iff]; simp [cc, cf, *] <;> omega
  by_cases h3 : k = 3
  · subst h3; rw [Bool.eq_iff_iff]; simp [cc, cf, *] <;> omega
  by_cases h4 : k = 4
  · subst h4; rw [Bool.eq_iff_iff]; simp [cc, cf, *] <;> omega
  by_cases h5 : k = 5
  · subst h5; rw [Bool.eq_iff_iff]; simp [cc, cf, *] <;> omega
  rw [Bool.eq_iff_iff]; simp [cc, cf, *] <;> omega
theorem guardOk (e : Ty.T y58) : v133 e = v124 e := by
  obtain ⟨k, n⟩ := e
  exact guardOk' k n
theorem specAct (a : Ty.T y70) (hb : a.2.2.2.2.2.2.length ≤ 1048576) : (a.2.2.2.2.2.2.any (fun x => !v159 x) = true ∧ k125_0 false 0 a 0 = true ∧ ∃ j : Nat, w125_0 false 0 a = (false, (j : Int), a, ())) ∨ (a.2.2.2.2.2.2.any (fun x => !v159 x) = false ∧ k125_0 false 0 a 0 = false ∧ k125_0 false 0 a 1 = true ∧ w125_0 false 0 a = (false, (a.2.2.2.2.2.2.length : Int), a, ())) := by
  have h := find_iter (s := s125_0) (mk := fun i => (false, i, a, ())) (fin := fun i => (false, (i : Int), a, ())) (p := fun i => match a.2.2.2.2.2.2[i]? with | some x => !v159 x | none => false) (N := a.2.2.2.2.2.2.length) (fun i hi => by
    have h1 := List.getElem?_eq_getElem hi
    simp only [h1]
    skip
    cases ht : (v159 a.2.2.2.2.2.2[i] : Bool) <;> simp [s125_0, t125_0, optC_some, hi, h1, ht,  wrap_nat (n := i) (by omega)]) (by simp [s125_0, t125_0]) a.2.2.2.2.2.2.length 0 (n125_0 (false, 0, a, ())) (by omega) (by simp only [n125_0]; omega)
  have hf := first_any (p := fun x => !v159 x) (xs := a.2.2.2.2.2.2) (q := fun i => match a.2.2.2.2.2.2[i]? with | some x => !v159 x | none => false) (fun i x h1 => by simp only [h1])
  revert h hf
  generalize first _ 0 a.2.2.2.2.2.2.length = o
  intro h hf
  cases o with
  | none => exact .inr ⟨hf.symm, at_of h 0, at_of h 1, val_of h⟩
  | some j => exact .inl ⟨hf.symm, at_of h 0, j, val_of h⟩
theorem specBatch (l : List (Ty.T y124)) (hb : l.length ≤ 1048576) : (l.any (fun x => !v128 x) = true ∧ k83_0 l false 0 0 = true ∧ ∃ j : Nat, w83_0 l false 0 = (l, false, (j : Int), ())) ∨ (l.any (fun x => !v128 x) = false ∧ k83_0 l false 0 0 = false ∧ k83_0 l false 0 1 = true ∧ w83_0 l false 0 = (l, false, (l.length : Int), ())) := by
  have h := find_iter (s := s83_0) (mk := fun i => (l, false, i, ())) (fin := fun i => (l, false, (i : Int), ())) (p := fun i => match l[i]? with | some x => !v128 x | none => false) (N := l.length) (fun i hi => by
    have h1 := List.getElem?_eq_getElem hi
    simp only [h1]
    skip
    cases ht : (v128 l[i] : Bool) <;> simp [s83_0, t83_0, optC_some, hi, h1, ht,  wrap_nat (n := i) (by omega)]) (by simp [s83_0, t83_0]) l.length 0 (n83_0 (l, false, 0, ())) (by omega) (by simp only [n83_0]; omega)
  have hf := first_any (p := fun x => !v128 x) (xs := l) (q := fun i => match l[i]? with | some x => !v128 x | none => false) (fun i x h1 => by simp only [h1])
  revert h hf
  generalize first _ 0 l.length = o
  intro h hf
  cases o with
  | none => exact .inr ⟨hf.symm, at_of h 0, at_of h 1, val_of h⟩
  | some j => exact .inl ⟨hf.symm, at_of h 0, j, val_of h⟩
theorem implAct' (l : List (Ty.T y124)) (hb : l.length ≤ 1048576) : (l.any (fun x => !v159 x) = true ∧ k168c1_0 l 0 ((l).length : Int) 0 0 = true ∧ ∃ j : Nat, w168c1_0 l 0 ((l).length : Int) 0 = (l, (j : Int), ((l).length : Int), (j : Int), ())) ∨ (l.any (fun x => !v159 x) = false ∧ k168c1_0 l 0 ((l).length : Int) 0 0 = false ∧ k168c1_0 l 0 ((l).length : Int) 0 1 = true ∧ w168c1_0 l 0 ((l).length : Int) 0 = (l, 0, ((l).length : Int), (l.length : Int), ())) := by
  have h := find_iter (s := s168c1_0) (mk := fun i => (l, 0, ((l).length : Int), i, ())) (fin := fun i => (l, (i : Int), ((l).length : Int), (i : Int), ())) (p := fun i => match l[i]? with | some x => !v159 x | none => false) (N := l.length) (fun i hi => by
    have h1 := List.getElem?_eq_getElem hi
    simp only [h1]
    skip
    cases ht : (v159 l[i] : Bool) <;> simp [s168c1_0, t168c1_0, optC_some, hi, h1, ht, v166, partOk, wrap_nat (n := i) (by omega)]) (by simp [s168c1_0, t168c1_0]) l.length 0 (n168c1_0 (l, 0, ((l).length : Int), 0, ())) (by omega) (by simp only [n168c1_0]; omega)
  have hf := first_any (p := fun x => !v159 x) (xs := l) (q := fun i => match l[i]? with | some x => !v159 x | none => false) (fun i x h1 => by simp only [h1])
  revert h hf
  generalize first _ 0 l.length = o
  intro h hf
  cases o with
  | none => exact .inr ⟨hf.symm, at_of h 0, at_of h 1, val_of h⟩
  | some j => exact .inl ⟨hf.symm, at_of h 0, j, val_of h⟩
theorem implAct (l : List (Ty.T y124)) (hb : l.length ≤ 1048576) : d136c1 l = true ∧ v136c1 l = l.any (fun x => !v159 x) := by
  unfold d136c1 v136c1 d168c1 v168c1
  rcases implAct' l hb with ⟨hB, e0, j, hw⟩ | ⟨hB, e0, e1, hw⟩
  · rw [e0, hw, hB]
    exact ⟨rfl, decide_eq_true (show ((j : Int)) ≥ 0 by omega)⟩
  · rw [e0, e1, hB]
    exact ⟨rfl, rfl⟩
theorem implBatch' (l : List (Ty.T y124)) (hb : l.length ≤ 1048576) : (l.any (fun x => !v128 x) = true ∧ k168c2_0 l 0 ((l).length : Int) 0 0 = true ∧ ∃ j : Nat, w168c2_0 l 0 ((l).length : Int) 0 = (l, (j : Int), ((l).length : Int), (j : Int), ())) ∨ (l.any (fun x => !v128 x) = false ∧ k168c2_0 l 0 ((l).length : Int) 0 0 = false ∧ k168c2_0 l 0 ((l).length : Int) 0 1 = true ∧ w168c2_0 l 0 ((l).length : Int) 0 = (l, 0, ((l).length : Int), (l.length : Int), ())) := by
  have h := find_iter (s := s168c2_0) (mk := fun i => (l, 0, ((l).length : Int), i, ())) (fin := fun i => (l, (i : Int), ((l).length : Int), (i : Int), ())) (p := fun i => match l[i]? with | some x => !v128 x | none => false) (N := l.length) (fun i hi => by
    have h1 := List.getElem?_eq_getElem hi
    simp only [h1]
    skip
    cases ht : (v128 l[i] : Bool) <;> simp [s168c2_0, t168c2_0, optC_some, hi, h1, ht, v137, evOk, wrap_nat (n := i) (by omega)]) (by simp [s168c2_0, t168c2_0]) l.length 0 (n168c2_0 (l, 0, ((l).length : Int), 0, ())) (by omega) (by simp only [n168c2_0]; omega)
  have hf := first_any (p := fun x => !v128 x) (xs := l) (q := fun i => match l[i]? with | some x => !v128 x | none => false) (fun i x h1 => by simp only [h1])
  revert h hf
  generalize first _ 0 l.length = o
  intro h hf
  cases o with
  | none => exact .inr ⟨hf.symm, at_of h 0, at_of h 1, val_of h⟩
  | some j => exact .inl ⟨hf.symm, at_of h 0, j, val_of h⟩
theorem implBatch (l : List (Ty.T y124)) (hb : l.length ≤ 1048576) : d136c2 l = true ∧ v136c2 l = l.any (fun x => !v128 x) := by
  unfold d136c2 v136c2 d168c2 v168c2
  rcases implBatch' l hb with ⟨hB, e0, j, hw⟩ | ⟨hB, e0, e1, hw⟩
  · rw [e0, hw, hB]
    exact ⟨rfl, decide_eq_true (show ((j : Int)) ≥ 0 by omega)⟩
  · rw [e0, e1, hB]
    exact ⟨rfl, rfl⟩
theorem batchOk (l : List (Ty.T y124)) (hb : l.length ≤ 1048576) : d83 l = true ∧ d87 l = true ∧ v87 l = v83 l := by
  have h := implBatch l hb
  unfold d83 d87 v83 v87
  rw [h.1, h.2]
  rcases specBatch l hb with ⟨hB, e0, j, hw⟩ | ⟨hB, e0, e1, hw⟩
  · rw [e0, hw, hB]
    cases decide ((l.length : Int) ≤ (4 : Int)) <;> exact ⟨rfl, rfl, rfl⟩
  · rw [e0, e1, hw, hB]
    simp only [cond_true, cond_false]
    cases decide ((l.length : Int) ≤ (4 : Int)) <;> simp
theorem actFits' (k n p s z kind : Int) (b : Bool) (l : List (Ty.T y124)) : v135 ((k, n, p, s, z, b, l) : Ty.T y70) kind = v126 ((k, n, p, s, z, b, l) : Ty.T y70) kind := by
  simp only [v135, v126, v82, v131, v161]
  dsimp only [Ty.T]
  have cc : ∀ (p q r : Bool), cond p q r = true ↔ (p = true ∧ q = true) ∨ (p = false ∧ r = true) := by decide
  have cf : ∀ (p q r : Bool), cond p q r = false ↔ (p = true ∧ q = false) ∨ (p = false ∧ r = false) := by decide
  by_cases h1 : k = 1
  · subst h1; rw [Bool.eq_iff_iff]; simp [cc, cf] <;> omega
  by_cases h2 : k = 2
  · subst h2; rw [Bool.eq_iff_iff]; simp [cc, cf] <;> omega
  by_cases h3 : k = 3
  · subst h3; rw [Bool.eq_iff_iff]; simp [cc, cf] <;> omega
  by_cases h4 : k = 4
  · subst h4; rw [Bool.eq_iff_iff]; simp [cc, cf] <;> omega
  by_cases h5 : k = 5
  · subst h5; rw [Bool.eq_iff_iff]; simp [cc, cf] <;> omega
  by_cases h6 : k = 6
  · subst h6; rw [Bool.eq_iff_iff]; simp [cc, cf] <;> omega
  by_cases h7 : k = 7
  · subst h7; rw [Bool.eq_iff_iff]; simp [cc, cf] <;> omega
  by_cases h8 : k = 8
  · subst h8; rw [Bool.eq_iff_iff]; simp [cc, cf] <;> omega
  by_cases h9 : k = 9
  · subst h9; rw [Bool.eq_iff_iff]; simp [cc, cf] <;> omega
  rw [Bool.eq_iff_iff]; simp [cc, cf, *] <;> omega
theorem actFits (a : Ty.T y70) (kind : Int) : v135 a kind = v126 a kind := by
  obtain ⟨k, n, p, s, z, b, l⟩ := a
  exact actFits' k n p s z kind b l
theorem actOk' (k n p s z : Int) (b : Bool) (l : List (Ty.T y124)) (hb : l.length ≤ 1048576) : d125 ((k, n, p, s, z, b, l) : Ty.T y70) = true ∧ d134 ((k, n, p, s, z, b, l) : Ty.T y70) = true ∧ v134 ((k, n, p, s, z, b, l) : Ty.T y70) = v125 ((k, n, p, s, z, b, l) : Ty.T y70) := by
  have hi := implAct l hb
  have hs := specAct ((k, n, p, s, z, b, l) : Ty.T y70) hb
  dsimp only at hs
  have cc : ∀ (p q r : Bool), cond p q r = true ↔ (p = true ∧ q = true) ∨ (p = false ∧ r = true) := by decide
  have cf : ∀ (p q r : Bool), cond p q r = false ↔ (p = true ∧ q = false) ∨ (p = false ∧ r = false) := by decide
  rcases hs with ⟨hB, e0, j, hw⟩ | ⟨hB, e0, e1, hw⟩
  · simp only [d125, d134, v125, v134, c134_0, c134_1, c134_2, c134_3, c134_4, c134_5, g134_5, v158, v82, v131, v86, v130, v165, hi.1, hi.2, hB, e0, hw]
    dsimp only [Ty.T]
    have hl : 0 ≤ (List.length (α := Ty.T y124) l : Int) := by omega
    generalize (List.length (α := Ty.T y124) l : Int) = m at hl
    by_cases h1 : k = 1
    · subst h1; refine ⟨by simp, by simp, ?_⟩; rw [Bool.eq_iff_iff]; cases b <;> simp [cc, cf, *] <;> omega
    by_cases h2 : k = 2
    · subst h2; refine ⟨by simp, by simp, ?_⟩; rw [Bool.eq_iff_iff]; cases b <;> simp [cc, cf, *] <;> omega
    by_cases h3 : k = 3
    · subst h3; refine ⟨by simp, by simp, ?_⟩; rw [Bool.eq_iff_iff]; cases b <;> simp [cc, cf, *] <;> omega
    by_cases h4 : k = 4
    · subst h4; refine ⟨by simp, by simp, ?_⟩; rw [Bool.eq_iff_iff]; cases b <;> simp [cc, cf, *] <;> omega
    by_cases h5 : k = 5
    · subst h5; refine ⟨by simp, by simp, ?_⟩; rw [Bool.eq_iff_iff]; cases b <;> simp [cc, cf, *] <;> omega
    by_cases h6 : k = 6
    · subst h6; refine ⟨by simp, by simp, ?_⟩; rw [Bool.eq_iff_iff]; cases b <;> simp [cc, cf, *] <;> omega
    by_cases h7 : k = 7
    · subst h7; refine ⟨by simp, by simp, ?_⟩; rw [Bool.eq_iff_iff]; cases b <;> simp [cc, cf, *] <;> omega
    by_cases h8 : k = 8
    · subst h8; refine ⟨by simp, by simp, ?_⟩; rw [Bool.eq_iff_iff]; cases b <;> simp [cc, cf, *] <;> omega
    by_cases h9 : k = 9
    · subst h9; refine ⟨by simp, by simp, ?_⟩; rw [Bool.eq_iff_iff]; cases b <;> simp [cc, cf, *] <;> omega
    refine ⟨by simp [*], by simp [*], ?_⟩; rw [Bool.eq_iff_iff]; cases b <;> simp [cc, cf, *] <;> omega
  · simp only [d125, d134, v125, v134, c134_0, c134_1, c134_2, c134_3, c134_4, c134_5, g134_5, v158, v82, v131, v86, v130, v165, hi.1, hi.2, hB, e0, e1, hw]
    dsimp only [Ty.T]
    have hl : 0 ≤ (List.length (α := Ty.T y124) l : Int) := by omega
    generalize (List.length (α := Ty.T y124) l : Int) = m at hl
    by_cases h1 : k = 1
    · subst h1; refine ⟨by simp, by simp, ?_⟩; rw [Bool.eq_iff_iff]; cases b <;> simp [cc, cf, *] <;> omega
    by_cases h2 : k = 2
    · subst h2; refine ⟨by simp, by simp, ?_⟩; rw [Bool.eq_iff_iff]; cases b <;> simp [cc, cf, *] <;> omega
    by_cases h3 : k = 3
    · subst h3; refine ⟨by simp, by simp, ?_⟩; rw [Bool.eq_iff_iff]; cases b <;> simp [cc, cf, *] <;> omega
    by_cases h4 : k = 4
    · subst h4; refine ⟨by simp, by simp, ?_⟩; rw [Bool.eq_iff_iff]; cases b <;> simp [cc, cf, *] <;> omega
    by_cases h5 : k = 5
    · subst h5; refine ⟨by simp, by simp, ?_⟩; rw [Bool.eq_iff_iff]; cases b <;> simp [cc, cf, *] <;> omega
    by_cases h6 : k = 6
    · subst h6; refine ⟨by simp, by simp, ?_⟩; rw [Bool.eq_iff_iff]; cases b <;> simp [cc, cf, *] <;> omega
    by_cases h7 : k = 7
    · subst h7; refine ⟨by simp, by simp, ?_⟩; rw [Bool.eq_iff_iff]; cases b <;> simp [cc, cf, *] <;> omega
    by_cases h8 : k = 8
    · subst h8; refine ⟨by simp, by simp, ?_⟩; rw [Bool.eq_iff_iff]; cases b <;> simp [cc, cf, *] <;> omega
    by_cases h9 : k = 9
    · subst h9; refine ⟨by simp, by simp, ?_⟩; rw [Bool.eq_iff_iff]; cases b <;> simp [cc, cf, *] <;> omega
    refine ⟨by simp [*], by simp [*], ?_⟩; rw [Bool.eq_iff_iff]; cases b <;> simp [cc, cf, *] <;> omega
theorem actOk (a : Ty.T y70) (hb : a.2.2.2.2.2.2.length ≤ 1048576) : d125 a = true ∧ d134 a = true ∧ v134 a = v125 a := by
  obtain ⟨k, n, p, s, z, b, l⟩ := a
  exact actOk' k n p s z b l hb
theorem effectOk' (i1 i2 i3 i4 : Int) (p : Ty.T y56) (g : Ty.T y58) (a : Ty.T y70) (u l : Int) (hb : a.2.2.2.2.2.2.length ≤ 1048576) : d80 ((i1, i2, i3, i4, p, g, a, u, l) : Ty.T y72) = true ∧ d85 ((i1, i2, i3, i4, p, g, a, u, l) : Ty.T y72) = true ∧ v85 ((i1, i2, i3, i4, p, g, a, u, l) : Ty.T y72) = v80 ((i1, i2, i3, i4, p, g, a, u, l) : Ty.T y72) := by
  have ha := actOk a hb
  simp only [d80, d85, v80, v85, v82, v131, v86, v130, patOk, guardOk, actFits, ha.1, ha.2.1, ha.2.2]
  generalize v123 p = b1
  generalize v124 g = b2
  generalize v126 a p.1 = b3
  generalize v125 a = b4
  generalize (a.1 == (2 : Int)) = b5
  dsimp only [Ty.T]
  have cc : ∀ (p q r : Bool), cond p q r = true ↔ (p = true ∧ q = true) ∨ (p = false ∧ r = true) := by decide
  have cf : ∀ (p q r : Bool), cond p q r = false ↔ (p = true ∧ q = false) ∨ (p = false ∧ r = false) := by decide
  cases b5
  · cases b1 <;> cases b2 <;> cases b3 <;> cases b4 <;> (refine ⟨by simp, by simp, ?_⟩; rw [Bool.eq_iff_iff]; simp [cc, cf] <;> omega)
  · cases b1 <;> cases b2 <;> cases b3 <;> cases b4 <;> (refine ⟨by simp, by simp, ?_⟩; rw [Bool.eq_iff_iff]; simp [cc, cf] <;> omega)
theorem effectOk (e : Ty.T y72) (hb : e.2.2.2.2.2.2.1.2.2.2.2.2.2.length ≤ 1048576) : d80 e = true ∧ d85 e = true ∧ v85 e = v80 e := by
  obtain ⟨i1, i2, i3, i4, p, g, a, u, l⟩ := e
  exact effectOk' i1 i2 i3 i4 p g a u l hb
theorem emptyS (a b : Ty.T y70) (ha : a.2.2.2.2.2.2 = []) : k127_0 false 0 b a 0 = false ∧ k127_0 false 0 b a 1 = true := by
  have h : iter s127_0 (n127_0 (false, 0, b, a, ())) (false, 0, b, a, ()) = some (1, (false, 0, b, a, ())) := by
    obtain ⟨m, hm⟩ : ∃ m, n127_0 (false, 0, b, a, ()) = m + 1 := ⟨n127_0 (false, 0, b, a, ()) - 1, by simp only [n127_0]; omega⟩
    rw [hm, iter]
    simp [s127_0, t127_0, ha]
  exact ⟨at_of h 0, at_of h 1⟩
theorem emptyE (b : Bool) : d160 ([] : List (Ty.T y124)) [] = true ∧ v160 ([] : List (Ty.T y124)) [] = true := by
  have h : iter s160_0 (n160_0 (([] : List (Ty.T y124)), ([] : List (Ty.T y124)), false, ((([] : List (Ty.T y124))).length : Int), 0, ())) (([] : List (Ty.T y124)), ([] : List (Ty.T y124)), false, ((([] : List (Ty.T y124))).length : Int), 0, ()) = some (1, (([] : List (Ty.T y124)), ([] : List (Ty.T y124)), false, ((([] : List (Ty.T y124))).length : Int), 0, ())) := by
    obtain ⟨m, hm⟩ : ∃ m, n160_0 (([] : List (Ty.T y124)), ([] : List (Ty.T y124)), false, ((([] : List (Ty.T y124))).length : Int), 0, ()) = m + 1 := ⟨n160_0 (([] : List (Ty.T y124)), ([] : List (Ty.T y124)), false, ((([] : List (Ty.T y124))).length : Int), 0, ()) - 1, by simp only [n160_0]; omega⟩
    rw [hm, iter]
    simp [s160_0, t160_0]
  have e0 : k160_0 ([] : List (Ty.T y124)) ([] : List (Ty.T y124)) false ((([] : List (Ty.T y124))).length : Int) 0 0 = false := at_of h 0
  have e1 : k160_0 ([] : List (Ty.T y124)) ([] : List (Ty.T y124)) false ((([] : List (Ty.T y124))).length : Int) 0 1 = true := at_of h 1
  unfold d160 v160
  rw [e0, e1]
  exact ⟨rfl, rfl⟩
theorem nonE (x : Ty.T y124) (l : List (Ty.T y124)) : d160 (x :: l) [] = true ∧ v160 (x :: l) [] = false := by
  have h : (((x :: l).length : Int) != (([] : List (Ty.T y124)).length : Int)) = true := by simp only [List.length_cons, List.length_nil, bne_iff_ne, ne_eq]; omega
  unfold d160 v160
  rw [h]
  exact ⟨rfl, rfl⟩
theorem sameZ (e : Ty.T y72) : d127 e (0, (0, (0, (0, ((0, (0, (0, (0, (0, (0, 0)))))), ((0, 0), ((0, (0, (0, (0, (0, (false, [])))))), (0, 0)))))))) = true ∧ d84 e (0, (0, (0, (0, ((0, (0, (0, (0, (0, (0, 0)))))), ((0, 0), ((0, (0, (0, (0, (0, (false, [])))))), (0, 0)))))))) = true ∧ v84 e (0, (0, (0, (0, ((0, (0, (0, (0, (0, (0, 0)))))), ((0, 0), ((0, (0, (0, (0, (0, (false, [])))))), (0, 0)))))))) = v127 e (0, (0, (0, (0, ((0, (0, (0, (0, (0, (0, 0)))))), ((0, 0), ((0, (0, (0, (0, (0, (false, [])))))), (0, 0)))))))) := by
  obtain ⟨i1, i2, i3, i4, p, g, ⟨k, n, q, s, z, b, l⟩, u, m⟩ := e
  cases l with
  | nil =>
    have h1 := emptyS (k, n, q, s, z, b, []) (0, (0, (0, (0, (0, (false, [])))))) rfl
    have h2 := emptyE true
    simp only [d127, d84, v127, v84, d129, v129, h1.1, h1.2, h2.1, h2.2, bne]
    generalize ((p.1 == (0 : Int)) && ((p.2.1 == (0 : Int)) && ((p.2.2.1 == (0 : Int)) && ((p.2.2.2.1 == (0 : Int)) && ((p.2.2.2.2.1 == (0 : Int)) && ((p.2.2.2.2.2.1 == (0 : Int)) && ((p.2.2.2.2.2.2 == (0 : Int)) && true))))))) = P
    generalize ((g.1 == (0 : Int)) && ((g.2 == (0 : Int)) && true)) = G
    generalize (b == false) = B
    cases P
    · simp
    cases G
    · simp
    cases (i1 == (0 : Int))
    · simp
    cases (i2 == (0 : Int))
    · simp
    cases (i3 == (0 : Int))
    · simp
    cases (i4 == (0 : Int))
    · simp
    cases (u == (0 : Int))
    · simp
    cases (m == (0 : Int))
    · simp
    cases (k == (0 : Int))
    · simp
    cases (n == (0 : Int))
    · simp
    cases (q == (0 : Int))
    · simp
    cases (s == (0 : Int))
    · simp
    cases (z == (0 : Int))
    · simp
    cases B
    · simp
    first | (simp; done) | (simp; exact ⟨.inl (by omega), fun h => absurd h (by omega)⟩)
  | cons x l =>
    have h2 := nonE x l
    have hl : (((x :: l).length : Int) != (([] : List (Ty.T y124)).length : Int)) = true := by simp only [List.length_cons, List.length_nil, bne_iff_ne, ne_eq]; omega
    simp only [d127, d84, v127, v84, d129, v129, hl, h2.1, h2.2, bne]
    generalize ((p.1 == (0 : Int)) && ((p.2.1 == (0 : Int)) && ((p.2.2.1 == (0 : Int)) && ((p.2.2.2.1 == (0 : Int)) && ((p.2.2.2.2.1 == (0 : Int)) && ((p.2.2.2.2.2.1 == (0 : Int)) && ((p.2.2.2.2.2.2 == (0 : Int)) && true))))))) = P
    generalize ((g.1 == (0 : Int)) && ((g.2 == (0 : Int)) && true)) = G
    generalize (b == false) = B
    cases P
    · simp
    cases G
    · simp
    cases (i1 == (0 : Int))
    · simp
    cases (i2 == (0 : Int))
    · simp
    cases (i3 == (0 : Int))
    · simp
    cases (i4 == (0 : Int))
    · simp
    cases (u == (0 : Int))
    · simp
    cases (m == (0 : Int))
    · simp
    cases (k == (0 : Int))
    · simp
    cases (n == (0 : Int))
    · simp
    cases (q == (0 : Int))
    · simp
    cases (s == (0 : Int))
    · simp
    cases (z == (0 : Int))
    · simp
    cases B
    · simp
    first | (simp; done) | (simp; exact ⟨.inl (by omega), fun h => absurd h (by omega)⟩)
theorem orderOk' (k i : Int) (e : Ty.T y72) (l : List (Ty.T y124)) (h1 : e.2.2.2.2.2.2.1.2.2.2.2.2.2.length ≤ 1048576) (h2 : l.length ≤ 1048576) : d38 ((k, e, i, l) : Ty.T y74) = true ∧ d40 ((k, e, i, l) : Ty.T y74) = true ∧ v40 ((k, e, i, l) : Ty.T y74) = v38 ((k, e, i, l) : Ty.T y74) := by
  have ha := effectOk e h1
  have hz := sameZ e
  have hb := batchOk l h2
  simp only [d38, d40, v38, v40, d81, v81, ha.1, ha.2.1, ha.2.2, hz.1, hz.2.1, hz.2.2, hb.1, hb.2.1, hb.2.2, v82, v131, v86]
  generalize v80 e = b1
  generalize v127 e (0, (0, (0, (0, ((0, (0, (0, (0, (0, (0, 0)))))), ((0, 0), ((0, (0, (0, (0, (0, (false, [])))))), (0, 0)))))))) = b2
  generalize v83 l = b3
  have hl : 0 ≤ (List.length (α := Ty.T y124) l : Int) := by omega
  generalize (List.length (α := Ty.T y124) l : Int) = m at hl
  dsimp only [Ty.T]
  have cc : ∀ (p q r : Bool), cond p q r = true ↔ (p = true ∧ q = true) ∨ (p = false ∧ r = true) := by decide
  have cf : ∀ (p q r : Bool), cond p q r = false ↔ (p = true ∧ q = false) ∨ (p = false ∧ r = false) := by decide
  cases b1 <;> cases b2 <;> cases b3 <;> (refine ⟨by simp, by simp, ?_⟩; rw [Bool.eq_iff_iff]; simp [cc, cf] <;> omega)
theorem orderOk (a : Ty.T y74) (h1 : a.2.1.2.2.2.2.2.2.1.2.2.2.2.2.2.length ≤ 1048576) (h2 : a.2.2.2.length ≤ 1048576) : d38 a = true ∧ d40 a = true ∧ v40 a = v38 a := by
  obtain ⟨k, e, i, l⟩ := a
  exact orderOk' k i e l h1 h2
theorem law (a0 : Ty.T y64) (w0 : Ty.ok y64 a0) : d6 a0 = true ∧ v6 a0 = true := by
  unfold d6 v6
  have y0 := sz37 a0 w0 1048576 (by omega) (by omega)
  have z0 := y0
  by_cases g0 : v37 a0 1048576 < 0
  · rw [decide_eq_true g0]; exact ⟨rfl, rfl⟩
  · rw [decide_eq_false g0]
    have s0 := z0.2 (by omega)
    have t0_39 := to39 a0 s0
    have q0_41 := eq41 a0 s0
    have hb1 : a0.2.1.2.2.2.2.2.2.1.2.2.2.2.2.2.length ≤ 1048576 := s0.2.1.2.2.2.2.2.2.1.2.2.2.2.2.2.1
    have hb2 : a0.2.2.2.length ≤ 1048576 := s0.2.2.2.1
    have q := orderOk a0 hb1 hb2
    simp only [t0_39.1, t0_39.2, pair_eta, q0_41.1, q0_41.2, q.1, q.2.1, q.2.2]
    simp
end Go.Proofs.Ytcladakiniekcaa.Vm
namespace Go.Proofs.Ytcladakiniekcaa.Pure
open Go Go.Proofs.Ytcladakiniekcaa.Lib Go.Proofs.Ytcladakiniekcaa.Vm
theorem fnExactOrderOk : Go.Proofs.Ytcladakiniekcaa.fnExactOrderOk.Pure := fun a0 w0 => by
  have h := law a0 w0
  show cond (d6 a0) (some (f6 (v6 a0))) none = _
  rw [h.1, h.2]
  rfl
end Go.Proofs.Ytcladakiniekcaa.Pure
