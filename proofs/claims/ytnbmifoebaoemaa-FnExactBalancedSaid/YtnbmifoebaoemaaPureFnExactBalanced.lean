/- FnExactBalanced: the program and the reference answer alike. No condition. -/
import Derived.Test.YtnbmifoebaoemaaVmRowFnExactBalanced
import Derived.Test.YtnbmifoebaoemaaVmLibTwo
namespace Go.Proofs.Ytnbmifoebaoemaa.Vm
open Go Go.Proofs.Ytnbmifoebaoemaa.Lib
set_option linter.unusedSimpArgs false
set_option linter.unusedVariables false
theorem to60 (xs : List (Int)) (hs : Ty.short (.sl 3 (.int .i64)) xs) : d60 xs = true ∧ v60 xs = xs := by
  have hb := hs.1
  have h : ∀ (n : Nat) (hn : xs.length < n) (out : List (Int)) (ho : out.length = xs.length), iter s60_0 n (xs, [], 0, out, ()) = some (0, (xs, [], (xs.length : Int), xs, ())) := fun n hn out ho => by
    have := map_iter (s := s60_0) (mk := fun i o => (xs, [], i, o, ())) (xs := xs) (conv := fun x => x) (fun i out x hx hl => by
      obtain ⟨hi, rfl⟩ := List.getElem?_eq_some_iff.1 hx
      skip
      simp [s60_0, t60_0, optC_some, hi, hl,  wrap_nat (n := i) (by omega)]) (fun out hl => by simp [s60_0, t60_0]) xs.length 0 out n (by omega) ho hn
    simpa using this
  have h := h (n60_0 (xs, [], 0, (List.replicate ((xs.length : Int)).toNat (Ty.zero (.int .i64))), ())) (by simp [n60_0]; omega) (List.replicate ((xs.length : Int)).toNat (Ty.zero (.int .i64))) (by simp)
  have hk : k60_0 xs [] 0 (List.replicate ((xs.length : Int)).toNat (Ty.zero (.int .i64))) 0 = true := at_of h 0
  have hw : w60_0 xs [] 0 (List.replicate ((xs.length : Int)).toNat (Ty.zero (.int .i64))) = (xs, [], (xs.length : Int), xs, ()) := val_of h
  constructor
  · show (_ && (_ && (cond (k60_0 xs [] 0 (List.replicate ((xs.length : Int)).toNat (Ty.zero (.int .i64))) 0) true false))) = true
    rw [hk]
    simp
    omega
  · show cond (k60_0 xs [] 0 (List.replicate ((xs.length : Int)).toNat (Ty.zero (.int .i64))) 0) (w60_0 xs [] 0 (List.replicate ((xs.length : Int)).toNat (Ty.zero (.int .i64)))).2.2.2.1 [] = xs
    rw [hk, hw]
    rfl
theorem v74_eq (x : Ty.T y33) : v74 x = x := rfl
theorem to68 (xs : List (Ty.T y33)) (hs : Ty.short (.sl 34 y33) xs) : d68 xs = true ∧ v68 xs = xs := by
  have hb := hs.1
  have h : ∀ (n : Nat) (hn : xs.length < n) (out : List (Ty.T y33)) (ho : out.length = xs.length), iter s68_0 n (xs, [], 0, out, ()) = some (0, (xs, [], (xs.length : Int), xs, ())) := fun n hn out ho => by
    have := map_iter (s := s68_0) (mk := fun i o => (xs, [], i, o, ())) (xs := xs) (conv := fun x => x) (fun i out x hx hl => by
      obtain ⟨hi, rfl⟩ := List.getElem?_eq_some_iff.1 hx
      skip
      simp [s68_0, t68_0, optC_some, hi, hl, v74_eq, wrap_nat (n := i) (by omega)]) (fun out hl => by simp [s68_0, t68_0]) xs.length 0 out n (by omega) ho hn
    simpa using this
  have h := h (n68_0 (xs, [], 0, (List.replicate ((xs.length : Int)).toNat (Ty.zero y33)), ())) (by simp [n68_0]; omega) (List.replicate ((xs.length : Int)).toNat (Ty.zero y33)) (by simp)
  have hk : k68_0 xs [] 0 (List.replicate ((xs.length : Int)).toNat (Ty.zero y33)) 0 = true := at_of h 0
  have hw : w68_0 xs [] 0 (List.replicate ((xs.length : Int)).toNat (Ty.zero y33)) = (xs, [], (xs.length : Int), xs, ()) := val_of h
  constructor
  · show (_ && (_ && (cond (k68_0 xs [] 0 (List.replicate ((xs.length : Int)).toNat (Ty.zero y33)) 0) true false))) = true
    rw [hk]
    simp
    omega
  · show cond (k68_0 xs [] 0 (List.replicate ((xs.length : Int)).toNat (Ty.zero y33)) 0) (w68_0 xs [] 0 (List.replicate ((xs.length : Int)).toNat (Ty.zero y33))).2.2.2.1 [] = xs
    rw [hk, hw]
    rfl
theorem to49 (x : Ty.T y93) (hs : Ty.short y93 x) : d49 x = true ∧ v49 x = (x.1, x.2.1, x.2.2.1, x.2.2.2.1, x.2.2.2.2.1.1, x.2.2.2.2.1.2.1, x.2.2.2.2.1.2.2.1, x.2.2.2.2.1.2.2.2.1, x.2.2.2.2.1.2.2.2.2.1, x.2.2.2.2.1.2.2.2.2.2.1, x.2.2.2.2.1.2.2.2.2.2.2, x.2.2.2.2.2.2.1, x.2.2.2.2.2.2.2, x.2.2.2.2.2.1) := by
  have h := to68 x.2.2.2.2.2.1 hs.2.2.2.2.2.1
  unfold d49 v49
  rw [h.1, h.2]
  exact ⟨rfl, rfl⟩
theorem to16 (xs : List (Ty.T y93)) (hs : Ty.short (.sl 94 y93) xs) : d16 xs = true ∧ v16 xs = xs := by
  have hb := hs.1
  have h : ∀ (n : Nat) (hn : xs.length < n) (out : List (Ty.T y97)) (ho : out.length = xs.length), iter s16_0 n (xs, [], 0, out, ()) = some (0, (xs, [], (xs.length : Int), xs, ())) := fun n hn out ho => by
    have := map_iter (s := s16_0) (mk := fun i o => (xs, [], i, o, ())) (xs := xs) (conv := fun x => x) (fun i out x hx hl => by
      obtain ⟨hi, rfl⟩ := List.getElem?_eq_some_iff.1 hx
      have h49 := to49 xs[i] (hs.2 _ (List.getElem_mem hi))
      simp [s16_0, t16_0, optC_some, hi, hl, h49.1, h49.2, wrap_nat (n := i) (by omega)]) (fun out hl => by simp [s16_0, t16_0]) xs.length 0 out n (by omega) ho hn
    simpa using this
  have h := h (n16_0 (xs, [], 0, (List.replicate ((xs.length : Int)).toNat (Ty.zero y97)), ())) (by simp [n16_0]; omega) (List.replicate ((xs.length : Int)).toNat (Ty.zero y97)) (by simp)
  have hk : k16_0 xs [] 0 (List.replicate ((xs.length : Int)).toNat (Ty.zero y97)) 0 = true := at_of h 0
  have hw : w16_0 xs [] 0 (List.replicate ((xs.length : Int)).toNat (Ty.zero y97)) = (xs, [], (xs.length : Int), xs, ()) := val_of h
  constructor
  · show (_ && (_ && (cond (k16_0 xs [] 0 (List.replicate ((xs.length : Int)).toNat (Ty.zero y97)) 0) true false))) = true
    rw [hk]
    simp
    omega
  · show cond (k16_0 xs [] 0 (List.replicate ((xs.length : Int)).toNat (Ty.zero y97)) 0) (w16_0 xs [] 0 (List.replicate ((xs.length : Int)).toNat (Ty.zero y97))).2.2.2.1 [] = xs
    rw [hk, hw]
    rfl
theorem to83 (x : Ty.T y51) (hs : Ty.short y51 x) : d83 x = true ∧ v83 x = (x.1, x.2.1, x.2.2.1, x.2.2.2.1, x.2.2.2.2.1, x.2.2.2.2.2.1, x.2.2.2.2.2.2) := by
  have h := to68 x.2.2.2.2.2.2 hs.2.2.2.2.2.2
  unfold d83 v83
  rw [h.1, h.2]
  exact ⟨rfl, rfl⟩
theorem to28 (x : Ty.T y53) (hs : Ty.short y53 x) : d28 x = true ∧ v28 x = (x.1, x.2.1, x.2.2.1, x.2.2.2.1, x.2.2.2.2.1.1, x.2.2.2.2.1.2.1, x.2.2.2.2.1.2.2.1, x.2.2.2.2.1.2.2.2.1, x.2.2.2.2.1.2.2.2.2.1, x.2.2.2.2.1.2.2.2.2.2.1, x.2.2.2.2.1.2.2.2.2.2.2, x.2.2.2.2.2.1.1, x.2.2.2.2.2.1.2, x.2.2.2.2.2.2.1.1, x.2.2.2.2.2.2.1.2.1, x.2.2.2.2.2.2.1.2.2.1, x.2.2.2.2.2.2.1.2.2.2.1, x.2.2.2.2.2.2.1.2.2.2.2.1, x.2.2.2.2.2.2.1.2.2.2.2.2.1, x.2.2.2.2.2.2.2.1, x.2.2.2.2.2.2.2.2, x.2.2.2.2.2.2.1.2.2.2.2.2.2) := by
  have h := to83 x.2.2.2.2.2.2.1 hs.2.2.2.2.2.2.1
  unfold d28 v28
  rw [h.1, h.2]
  exact ⟨rfl, rfl⟩
theorem to34 (xs : List (Ty.T y53)) (hs : Ty.short (.sl 54 y53) xs) : d34 xs = true ∧ v34 xs = xs := by
  have hb := hs.1
  have h : ∀ (n : Nat) (hn : xs.length < n) (out : List (Ty.T y62)) (ho : out.length = xs.length), iter s34_0 n (xs, [], 0, out, ()) = some (0, (xs, [], (xs.length : Int), xs, ())) := fun n hn out ho => by
    have := map_iter (s := s34_0) (mk := fun i o => (xs, [], i, o, ())) (xs := xs) (conv := fun x => x) (fun i out x hx hl => by
      obtain ⟨hi, rfl⟩ := List.getElem?_eq_some_iff.1 hx
      have h28 := to28 xs[i] (hs.2 _ (List.getElem_mem hi))
      simp [s34_0, t34_0, optC_some, hi, hl, h28.1, h28.2, wrap_nat (n := i) (by omega)]) (fun out hl => by simp [s34_0, t34_0]) xs.length 0 out n (by omega) ho hn
    simpa using this
  have h := h (n34_0 (xs, [], 0, (List.replicate ((xs.length : Int)).toNat (Ty.zero y62)), ())) (by simp [n34_0]; omega) (List.replicate ((xs.length : Int)).toNat (Ty.zero y62)) (by simp)
  have hk : k34_0 xs [] 0 (List.replicate ((xs.length : Int)).toNat (Ty.zero y62)) 0 = true := at_of h 0
  have hw : w34_0 xs [] 0 (List.replicate ((xs.length : Int)).toNat (Ty.zero y62)) = (xs, [], (xs.length : Int), xs, ()) := val_of h
  constructor
  · show (_ && (_ && (cond (k34_0 xs [] 0 (List.replicate ((xs.length : Int)).toNat (Ty.zero y62)) 0) true false))) = true
    rw [hk]
    simp
    omega
  · show cond (k34_0 xs [] 0 (List.replicate ((xs.length : Int)).toNat (Ty.zero y62)) 0) (w34_0 xs [] 0 (List.replicate ((xs.length : Int)).toNat (Ty.zero y62))).2.2.2.1 [] = xs
    rw [hk, hw]
    rfl
theorem to61 (x : Ty.T y112) (hs : Ty.short y112 x) : d61 x = true ∧ v61 x = (x.1, x.2.1, x.2.2.1, x.2.2.2) := by
  have h1 := to68 x.1 hs.1
  have h2 := to34 x.2.1 hs.2.1
  have h3 := to60 x.2.2.1 hs.2.2.1
  have h4 := to16 x.2.2.2 hs.2.2.2
  unfold d61 v61
  rw [h1.1, h1.2, h2.1, h2.2, h3.1, h3.2, h4.1, h4.2]
  exact ⟨rfl, rfl⟩
theorem eq18 (xs : List (Int)) (hs : Ty.short (.sl 3 (.int .i64)) xs) : d18 xs xs = true ∧ v18 xs xs = true := by
  have hb := hs.1
  have h := all_iter (s := s18_0) (mk := fun i => (xs, xs, false, i, ())) (c := 1) (N := xs.length) (fun i hi => by
    skip
    simp [s18_0, t18_0, optC_some, hi,  wrap_nat (n := i) (by omega)]) (by simp [s18_0, t18_0]) xs.length 0 (n18_0 (xs, xs, false, 0, ())) (by omega) (by simp [n18_0]; omega)
  have h0 : k18_0 xs xs false 0 0 = false := at_of h 0
  have h1 : k18_0 xs xs false 0 1 = true := at_of h 1
  unfold d18 v18
  rw [h0, h1]
  simp
theorem eq110 (x : Ty.T y33) : v110 x x = true := by simp [v110]
theorem eq70 (xs : List (Ty.T y33)) (hs : Ty.short (.sl 40 y33) xs) : d70 xs xs = true ∧ v70 xs xs = true := by
  have hb := hs.1
  have h := all_iter (s := s70_0) (mk := fun i => (xs, xs, false, i, ())) (c := 1) (N := xs.length) (fun i hi => by
    skip
    simp [s70_0, t70_0, optC_some, hi, eq110, wrap_nat (n := i) (by omega)]) (by simp [s70_0, t70_0]) xs.length 0 (n70_0 (xs, xs, false, 0, ())) (by omega) (by simp [n70_0]; omega)
  have h0 : k70_0 xs xs false 0 0 = false := at_of h 0
  have h1 : k70_0 xs xs false 0 1 = true := at_of h 1
  unfold d70 v70
  rw [h0, h1]
  simp
theorem eq51 (x : Ty.T y97) (hs : Ty.short y97 x) : d51 x x = true ∧ v51 x x = true := by
  have h := eq70 x.2.2.2.2.2.1 hs.2.2.2.2.2.1
  unfold d51 v51
  rw [h.1, h.2, eq110]
  simp
theorem eq19 (xs : List (Ty.T y97)) (hs : Ty.short (.sl 98 y97) xs) : d19 xs xs = true ∧ v19 xs xs = true := by
  have hb := hs.1
  have h := all_iter (s := s19_0) (mk := fun i => (xs, xs, false, i, ())) (c := 1) (N := xs.length) (fun i hi => by
    have h51 := eq51 xs[i] (hs.2 _ (List.getElem_mem hi))
    simp [s19_0, t19_0, optC_some, hi, h51.1, h51.2, wrap_nat (n := i) (by omega)]) (by simp [s19_0, t19_0]) xs.length 0 (n19_0 (xs, xs, false, 0, ())) (by omega) (by simp [n19_0]; omega)
  have h0 : k19_0 xs xs false 0 0 = false := at_of h 0
  have h1 : k19_0 xs xs false 0 1 = true := at_of h 1
  unfold d19 v19
  rw [h0, h1]
  simp
theorem eq86 (x : Ty.T y46) : v86 x x = true := by simp [v86]
theorem eq87 (x : Ty.T y48) : v87 x x = true := by simp [v87]
theorem eq88 (x : Ty.T y60) (hs : Ty.short y60 x) : d88 x x = true ∧ v88 x x = true := by
  have h := eq70 x.2.2.2.2.2.2 hs.2.2.2.2.2.2
  unfold d88 v88
  rw [h.1, h.2]
  simp
theorem eq30 (x : Ty.T y62) (hs : Ty.short y62 x) : d30 x x = true ∧ v30 x x = true := by
  have h := eq88 x.2.2.2.2.2.2.1 hs.2.2.2.2.2.2.1
  unfold d30 v30
  rw [h.1, h.2, eq86, eq87]
  simp
theorem eq36 (xs : List (Ty.T y62)) (hs : Ty.short (.sl 63 y62) xs) : d36 xs xs = true ∧ v36 xs xs = true := by
  have hb := hs.1
  have h := all_iter (s := s36_0) (mk := fun i => (xs, xs, false, i, ())) (c := 1) (N := xs.length) (fun i hi => by
    have h30 := eq30 xs[i] (hs.2 _ (List.getElem_mem hi))
    simp [s36_0, t36_0, optC_some, hi, h30.1, h30.2, wrap_nat (n := i) (by omega)]) (by simp [s36_0, t36_0]) xs.length 0 (n36_0 (xs, xs, false, 0, ())) (by omega) (by simp [n36_0]; omega)
  have h0 : k36_0 xs xs false 0 0 = false := at_of h 0
  have h1 : k36_0 xs xs false 0 1 = true := at_of h 1
  unfold d36 v36
  rw [h0, h1]
  simp
theorem eq63 (x : Ty.T y117) (hs : Ty.short y117 x) : d63 x x = true ∧ v63 x x = true := by
  have h1 := eq70 x.1 hs.1
  have h2 := eq36 x.2.1 hs.2.1
  have h3 := eq18 x.2.2.1 hs.2.2.1
  have h4 := eq19 x.2.2.2 hs.2.2.2
  unfold d63 v63
  rw [h1.1, h1.2, h2.1, h2.2, h3.1, h3.2, h4.1, h4.2]
  simp
def SZ (r n : Int) (S : Prop) : Prop := r ≤ n ∧ (0 ≤ r → S)
theorem SZ.neg {n : Int} {S : Prop} (h0 : 0 ≤ n) : SZ (-1) n S := ⟨by omega, fun h => absurd h (by omega)⟩
theorem short33 (x : Ty.T y33) : Ty.short y33 x := by simp [Ty.short]
theorem sz66 (l : List (Ty.T y33)) (ho : Ty.ok (.sl 34 y33) l) (n : Int) (h0 : 0 ≤ n) (h1 : n ≤ 1048576) : SZ (v66 l n) n (Ty.short (.sl 34 y33) l) := by
  have hl := ho.2
  unfold v66
  rw [wrap_in (by omega) (by omega)]
  by_cases h : n - (l.length : Int) < 0
  · rw [decide_eq_true h]; exact .neg h0
  · rw [decide_eq_false h]; exact ⟨show n - (l.length : Int) ≤ n by omega, fun _ => ⟨by omega, fun x _ => short33 x⟩⟩
theorem sz111 (l : List Int) (ho : Ty.ok (.sl 3 (.int .i64)) l) (n : Int) (h0 : 0 ≤ n) (h1 : n ≤ 1048576) : SZ (v111 l n) n (Ty.short (.sl 3 (.int .i64)) l) := by
  have hl := ho.2
  unfold v111
  rw [wrap_in (by omega) (by omega)]
  by_cases h : n - (l.length : Int) < 0
  · rw [decide_eq_true h]; exact .neg h0
  · rw [decide_eq_false h]; exact ⟨show n - (l.length : Int) ≤ n by omega, fun _ => ⟨by omega, fun x _ => trivial⟩⟩
theorem sz47 (x : Ty.T y93) (ho : Ty.ok y93 x) (n : Int) (h0 : 0 ≤ n) (h1 : n ≤ 1048576) : SZ (v47 x n) n (Ty.short y93 x) := by
  have h2 := sz66 x.2.2.2.2.2.1 ho.2.2.2.2.2.1 n h0 h1
  unfold v47
  by_cases h : v66 x.2.2.2.2.2.1 n < 0
  · rw [decide_eq_true h]; exact .neg h0
  · rw [decide_eq_false h]; exact ⟨h2.1, fun h3 => ⟨trivial, trivial, trivial, trivial, short33 _, h2.2 h3, trivial, trivial⟩⟩
theorem sz78 (x : Ty.T y51) (ho : Ty.ok y51 x) (n : Int) (h0 : 0 ≤ n) (h1 : n ≤ 1048576) : SZ (v78 x n) n (Ty.short y51 x) := by
  have h2 := sz66 x.2.2.2.2.2.2 ho.2.2.2.2.2.2 n h0 h1
  unfold v78
  by_cases h : v66 x.2.2.2.2.2.2 n < 0
  · rw [decide_eq_true h]; exact .neg h0
  · rw [decide_eq_false h]; exact ⟨h2.1, fun h3 => ⟨trivial, trivial, trivial, trivial, trivial, trivial, h2.2 h3⟩⟩
theorem short46 (x : Ty.T y46) : Ty.short y46 x := by simp [Ty.short]
theorem short48 (x : Ty.T y48) : Ty.short y48 x := by simp [Ty.short]
theorem sz26 (x : Ty.T y53) (ho : Ty.ok y53 x) (n : Int) (h0 : 0 ≤ n) (h1 : n ≤ 1048576) : SZ (v26 x n) n (Ty.short y53 x) := by
  have h2 := sz78 x.2.2.2.2.2.2.1 ho.2.2.2.2.2.2.1 n h0 h1
  unfold v26
  by_cases h : v78 x.2.2.2.2.2.2.1 n < 0
  · rw [decide_eq_true h]; exact .neg h0
  · rw [decide_eq_false h]; exact ⟨h2.1, fun h3 => ⟨trivial, trivial, trivial, trivial, short46 _, short48 _, h2.2 h3, trivial, trivial⟩⟩
theorem sz14 (xs : List (Ty.T y93)) (ho : Ty.ok (.sl 94 y93) xs) (n : Int) (h0 : 0 ≤ n) (h1 : n ≤ 1048576) : d14 xs n = true ∧ SZ (v14 xs n) n (Ty.short (.sl 94 y93) xs) := by
  have hl := ho.2
  unfold d14 v14
  rw [wrap_in (n := n - (xs.length : Int)) (by omega) (by omega)]
  by_cases h : n - (xs.length : Int) < 0
  · rw [decide_eq_true h]; exact ⟨rfl, .neg h0⟩
  · rw [decide_eq_false h]
    have key := sz_iter (s := s14_0) (mk := fun n r i => (xs, n, r, i, ())) (xs := xs) (g := v47) (S := Ty.short y93) (B := 1048576) (fun x hx n h0 h1 => sz47 x (ho.1 x hx) n h0 h1) (fun i x n r hn0 hn1 hx => by
      obtain ⟨hi, rfl⟩ := List.getElem?_eq_some_iff.1 hx
      simp [s14_0, t14_0, optC_some, hi, wrap_nat (n := i) (by omega), Bool.cond_decide]) (fun n r => by simp [s14_0, t14_0]) xs.length 0 (n - (xs.length : Int)) 0 (n14_0 (xs, n - (xs.length : Int), 0, 0, ())) (by omega) (by simp [n14_0]; omega) (by omega) (by omega)
    rcases key with ⟨n', i', hk⟩ | ⟨n', hk, g0, g1, g2⟩
    · have e0 : k14_0 xs (n - (xs.length : Int)) 0 0 0 = true := at_of hk 0
      have ew : w14_0 xs (n - (xs.length : Int)) 0 0 = (xs, n', -1, i', ()) := val_of hk
      rw [e0, ew]
      exact ⟨rfl, .neg h0⟩
    · have e0 : k14_0 xs (n - (xs.length : Int)) 0 0 0 = false := at_of hk 0
      have e1 : k14_0 xs (n - (xs.length : Int)) 0 0 1 = true := at_of hk 1
      have ew : w14_0 xs (n - (xs.length : Int)) 0 0 = (xs, n', 0, (xs.length : Int), ()) := val_of hk
      rw [e0, e1, ew]
      refine ⟨rfl, ?_, fun _ => ⟨by omega, fun x hx => ?_⟩⟩
      · show n' ≤ n
        omega
      · obtain ⟨j, hj⟩ := List.getElem?_of_mem hx
        exact g2 j x (Nat.zero_le _) hj
theorem sz32 (xs : List (Ty.T y53)) (ho : Ty.ok (.sl 54 y53) xs) (n : Int) (h0 : 0 ≤ n) (h1 : n ≤ 1048576) : d32 xs n = true ∧ SZ (v32 xs n) n (Ty.short (.sl 54 y53) xs) := by
  have hl := ho.2
  unfold d32 v32
  rw [wrap_in (n := n - (xs.length : Int)) (by omega) (by omega)]
  by_cases h : n - (xs.length : Int) < 0
  · rw [decide_eq_true h]; exact ⟨rfl, .neg h0⟩
  · rw [decide_eq_false h]
    have key := sz_iter (s := s32_0) (mk := fun n r i => (xs, n, r, i, ())) (xs := xs) (g := v26) (S := Ty.short y53) (B := 1048576) (fun x hx n h0 h1 => sz26 x (ho.1 x hx) n h0 h1) (fun i x n r hn0 hn1 hx => by
      obtain ⟨hi, rfl⟩ := List.getElem?_eq_some_iff.1 hx
      simp [s32_0, t32_0, optC_some, hi, wrap_nat (n := i) (by omega), Bool.cond_decide]) (fun n r => by simp [s32_0, t32_0]) xs.length 0 (n - (xs.length : Int)) 0 (n32_0 (xs, n - (xs.length : Int), 0, 0, ())) (by omega) (by simp [n32_0]; omega) (by omega) (by omega)
    rcases key with ⟨n', i', hk⟩ | ⟨n', hk, g0, g1, g2⟩
    · have e0 : k32_0 xs (n - (xs.length : Int)) 0 0 0 = true := at_of hk 0
      have ew : w32_0 xs (n - (xs.length : Int)) 0 0 = (xs, n', -1, i', ()) := val_of hk
      rw [e0, ew]
      exact ⟨rfl, .neg h0⟩
    · have e0 : k32_0 xs (n - (xs.length : Int)) 0 0 0 = false := at_of hk 0
      have e1 : k32_0 xs (n - (xs.length : Int)) 0 0 1 = true := at_of hk 1
      have ew : w32_0 xs (n - (xs.length : Int)) 0 0 = (xs, n', 0, (xs.length : Int), ()) := val_of hk
      rw [e0, e1, ew]
      refine ⟨rfl, ?_, fun _ => ⟨by omega, fun x hx => ?_⟩⟩
      · show n' ≤ n
        omega
      · obtain ⟨j, hj⟩ := List.getElem?_of_mem hx
        exact g2 j x (Nat.zero_le _) hj
theorem sz58 (x : Ty.T y112) (ho : Ty.ok y112 x) (B : Int) (b0 : 0 ≤ B) (b1 : B ≤ 1048576) : d58 x B = true ∧ (0 ≤ v58 x B → Ty.short y112 x) := by
  have a1 := sz66 x.1 ho.1 B b0 b1
  unfold d58 v58
  by_cases h1 : v66 x.1 B < 0
  · rw [decide_eq_true h1]; exact ⟨rfl, fun h => absurd (show (0 : Int) ≤ -1 from h) (by decide)⟩
  · rw [decide_eq_false h1]
    have a2 := sz32 x.2.1 ho.2.1 (v66 x.1 B) (by omega) (by have := a1.1; omega)
    rw [a2.1]
    by_cases h2 : v32 x.2.1 (v66 x.1 B) < 0
    · rw [decide_eq_true h2]; exact ⟨rfl, fun h => absurd (show (0 : Int) ≤ -1 from h) (by decide)⟩
    · rw [decide_eq_false h2]
      have a3 := sz111 x.2.2.1 ho.2.2.1 (v32 x.2.1 (v66 x.1 B)) (by omega) (by have := a1.1; have := a2.2.1; omega)
      by_cases h3 : v111 x.2.2.1 (v32 x.2.1 (v66 x.1 B)) < 0
      · rw [decide_eq_true h3]; exact ⟨rfl, fun h => absurd (show (0 : Int) ≤ -1 from h) (by decide)⟩
      · rw [decide_eq_false h3]
        have a4 := sz14 x.2.2.2 ho.2.2.2 (v111 x.2.2.1 (v32 x.2.1 (v66 x.1 B))) (by omega) (by have := a1.1; have := a2.2.1; have := a3.1; omega)
        rw [a4.1]
        by_cases h4 : v14 x.2.2.2 (v111 x.2.2.1 (v32 x.2.1 (v66 x.1 B))) < 0
        · rw [decide_eq_true h4]; exact ⟨rfl, fun h => absurd (show (0 : Int) ≤ -1 from h) (by decide)⟩
        · rw [decide_eq_false h4]
          exact ⟨rfl, fun _ => ⟨a1.2 (by omega), a2.2.2 (by omega), a3.2 (by omega), a4.2.2 (by omega)⟩⟩
theorem upto_eq (x : Int) : v100 x 2147483647 = v105 x 2147483647 := by
  unfold v100 v105
  rw [decide_eq_false (show ¬ (2147483647 : Int) < 0 by omega)]
  by_cases h : (2147483647 : Int) < x
  · rw [decide_eq_true h, if_pos h]; rfl
  · rw [decide_eq_false h, if_neg h]
    by_cases h2 : x < 0
    · rw [decide_eq_true h2, if_neg (by omega)]; rfl
    · rw [decide_eq_false h2]
      by_cases h3 : x > 0
      · rw [if_pos h3]; rfl
      · rw [if_neg h3]; show x = 0; omega
noncomputable def ft (k : Int) (e : Ty.T y33) : Int := cond (e.1 == 1) (IntKind.wrap .i64 (k + v105 e.2.2.2.2.1 2147483647)) k
noncomputable def tot (l : List (Ty.T y33)) : Int := l.foldl ft 0
noncomputable def chg (x : Ty.T y97) : Int := IntKind.wrap .i64 (IntKind.wrap .i64 (tot x.2.2.2.2.2.1 + v105 x.2.2.2.2.2.2.1 2147483647) - tot [x.2.2.2.2.1])
noncomputable def fc (k : Int) (x : Ty.T y97) : Int := IntKind.wrap .i64 (k + chg x)
noncomputable def fs (k : Int) (x : Ty.T y97) : Int := IntKind.wrap .i64 (k + v105 x.2.2.2.2.2.2.1 2147483647)
theorem b115 (xs : List (Ty.T y33)) (hb : xs.length ≤ 1048576) : d115 xs = true ∧ v115 xs = xs.foldl ft 0 := by
  have h := fold_iter (s := s115_0) (mk := fun (k : Int) i => (xs, 0, k, i, ())) (xs := xs) (f := ft) (Inv := fun _ _ => True) (fun i x k hx hI => by
    obtain ⟨hi, rfl⟩ := List.getElem?_eq_some_iff.1 hx
    refine ⟨?_, trivial⟩
    by_cases hg : (xs[i]).1 = 1
    · simp [s115_0, t115_0, optC_some, hi, hg, ft, upto_eq, wrap_nat (n := i) (by omega)]
    · have hg2 : ((xs[i]).1 == (1 : Int)) = false := by simpa using hg
      simp [s115_0, t115_0, optC_some, hi, hg, hg2, ft, wrap_nat (n := i) (by omega)]) (fun k => by simp [s115_0, t115_0]) xs.length 0 0 (n115_0 (xs, 0, 0, 0, ())) (by omega) (by simp only [n115_0]; omega) trivial
  have hk : k115_0 xs 0 0 0 0 = true := at_of h 0
  have hw : w115_0 xs 0 0 0 = _ := val_of h
  unfold d115 v115
  rw [hk, hw]
  exact ⟨rfl, rfl⟩
theorem b119 (xs : List (Ty.T y33)) (hb : xs.length ≤ 1048576) : d119 xs = true ∧ v119 xs = xs.foldl ft 0 := by
  have h := fold_iter (s := s119_0) (mk := fun (k : Int) i => (0, k, xs, (xs.length : Int), i, ())) (xs := xs) (f := ft) (Inv := fun _ _ => True) (fun i x k hx hI => by
    obtain ⟨hi, rfl⟩ := List.getElem?_eq_some_iff.1 hx
    refine ⟨?_, trivial⟩
    by_cases hg : (xs[i]).1 = 1
    · simp [s119_0, t119_0, optC_some, hi, hg, ft, upto_eq, wrap_nat (n := i) (by omega)]
    · have hg2 : ((xs[i]).1 == (1 : Int)) = false := by simpa using hg
      simp [s119_0, t119_0, optC_some, hi, hg, hg2, ft, wrap_nat (n := i) (by omega)]) (fun k => by simp [s119_0, t119_0]) xs.length 0 0 (n119_0 (0, 0, xs, (xs.length : Int), 0, ())) (by omega) (by simp only [n119_0]; omega) trivial
  have hk : k119_0 0 0 xs (xs.length : Int) 0 0 = true := at_of h 0
  have hw : w119_0 0 0 xs (xs.length : Int) 0 = _ := val_of h
  unfold d119 v119
  rw [hk, hw]
  exact ⟨rfl, rfl⟩
theorem b132 (x : Ty.T y97) (hs : Ty.short y97 x) : d132 x = true ∧ v132 x = chg x := by
  have h1 := b115 x.2.2.2.2.2.1 hs.2.2.2.2.2.1.1
  have h2 := b115 [x.2.2.2.2.1] (by simp)
  unfold d132 v132 chg tot
  rw [h1.1, h2.1, h1.2, h2.2, upto_eq]
  exact ⟨rfl, rfl⟩
theorem b133 (x : Ty.T y97) (hs : Ty.short y97 x) : d133 x = true ∧ v133 x = chg x := by
  have h1 := b119 x.2.2.2.2.2.1 hs.2.2.2.2.2.1.1
  have h2 := b119 [x.2.2.2.2.1] (by simp)
  unfold d133 v133 chg tot
  rw [h1.1, h2.1, h1.2, h2.2]
  exact ⟨rfl, rfl⟩
theorem b113 (xs : List (Ty.T y97)) (hs : Ty.short (.sl 98 y97) xs) : d113 xs = true ∧ v113 xs = xs.foldl fc 0 := by
  have h := fold_iter (s := s113_0) (mk := fun (k : Int) i => (xs, 0, k, i, ())) (xs := xs) (f := fc) (Inv := fun _ _ => True) (fun i x k hx hI => by
    obtain ⟨hi, rfl⟩ := List.getElem?_eq_some_iff.1 hx
    refine ⟨?_, trivial⟩
    have hb := hs.1
    have hq := b132 xs[i] (hs.2 _ (List.getElem_mem hi))
    simp [s113_0, t113_0, optC_some, hi, hq.1, hq.2, fc, wrap_nat (n := i) (by omega)]) (fun k => by simp [s113_0, t113_0]) xs.length 0 0 (n113_0 (xs, 0, 0, 0, ())) (by omega) (by simp only [n113_0]; omega) trivial
  have hk : k113_0 xs 0 0 0 0 = true := at_of h 0
  have hw : w113_0 xs 0 0 0 = _ := val_of h
  unfold d113 v113
  rw [hk, hw]
  exact ⟨rfl, rfl⟩
theorem b117 (xs : List (Ty.T y97)) (hs : Ty.short (.sl 98 y97) xs) : d117 xs = true ∧ v117 xs = xs.foldl fc 0 := by
  have h := fold_iter (s := s117_0) (mk := fun (k : Int) i => (0, k, xs, (xs.length : Int), i, ())) (xs := xs) (f := fc) (Inv := fun _ _ => True) (fun i x k hx hI => by
    obtain ⟨hi, rfl⟩ := List.getElem?_eq_some_iff.1 hx
    refine ⟨?_, trivial⟩
    have hb := hs.1
    have hq := b133 xs[i] (hs.2 _ (List.getElem_mem hi))
    simp [s117_0, t117_0, optC_some, hi, hq.1, hq.2, fc, wrap_nat (n := i) (by omega)]) (fun k => by simp [s117_0, t117_0]) xs.length 0 0 (n117_0 (0, 0, xs, (xs.length : Int), 0, ())) (by omega) (by simp only [n117_0]; omega) trivial
  have hk : k117_0 0 0 xs (xs.length : Int) 0 0 = true := at_of h 0
  have hw : w117_0 0 0 xs (xs.length : Int) 0 = _ := val_of h
  unfold d117 v117
  rw [hk, hw]
  exact ⟨rfl, rfl⟩
theorem b114 (xs : List (Ty.T y97)) (hb : xs.length ≤ 1048576) : d114 xs = true ∧ v114 xs = xs.foldl fs 0 := by
  have h := fold_iter (s := s114_0) (mk := fun (k : Int) i => (xs, 0, k, i, ())) (xs := xs) (f := fs) (Inv := fun _ _ => True) (fun i x k hx hI => by
    obtain ⟨hi, rfl⟩ := List.getElem?_eq_some_iff.1 hx
    refine ⟨?_, trivial⟩
    simp [s114_0, t114_0, optC_some, hi, upto_eq, fs, wrap_nat (n := i) (by omega)]) (fun k => by simp [s114_0, t114_0]) xs.length 0 0 (n114_0 (xs, 0, 0, 0, ())) (by omega) (by simp only [n114_0]; omega) trivial
  have hk : k114_0 xs 0 0 0 0 = true := at_of h 0
  have hw : w114_0 xs 0 0 0 = _ := val_of h
  unfold d114 v114
  rw [hk, hw]
  exact ⟨rfl, rfl⟩
theorem b118 (xs : List (Ty.T y97)) (hb : xs.length ≤ 1048576) : d118 xs = true ∧ v118 xs = xs.foldl fs 0 := by
  have h := fold_iter (s := s118_0) (mk := fun (k : Int) i => (0, k, xs, (xs.length : Int), i, ())) (xs := xs) (f := fs) (Inv := fun _ _ => True) (fun i x k hx hI => by
    obtain ⟨hi, rfl⟩ := List.getElem?_eq_some_iff.1 hx
    refine ⟨?_, trivial⟩
    simp [s118_0, t118_0, optC_some, hi, upto_eq, fs, wrap_nat (n := i) (by omega)]) (fun k => by simp [s118_0, t118_0]) xs.length 0 0 (n118_0 (0, 0, xs, (xs.length : Int), 0, ())) (by omega) (by simp only [n118_0]; omega) trivial
  have hk : k118_0 0 0 xs (xs.length : Int) 0 0 = true := at_of h 0
  have hw : w118_0 0 0 xs (xs.length : Int) 0 = _ := val_of h
  unfold d118 v118
  rw [hk, hw]
  exact ⟨rfl, rfl⟩
theorem bal (a0 : List (Ty.T y33)) (f : Ty.T y117) (h0 : a0.length ≤ 1048576) (hs : Ty.short y117 f) : d67 a0 f = true ∧ d69 a0 f = true ∧ v69 a0 f = v67 a0 f := by
  have q1 := b115 a0 h0
  have q2 := b119 a0 h0
  have q3 := b113 f.2.2.2 hs.2.2.2
  have q4 := b117 f.2.2.2 hs.2.2.2
  have q5 := b114 f.2.2.2 hs.2.2.2.1
  have q6 := b118 f.2.2.2 hs.2.2.2.1
  have q7 := b115 f.1 hs.1.1
  have q8 := b119 f.1 hs.1.1
  unfold d67 d69 v67 v69 d112 v112 d116 v116
  rw [q1.1, q2.1, q3.1, q4.1, q5.1, q6.1, q7.1, q8.1, q1.2, q2.2, q3.2, q4.2, q5.2, q6.2, q7.2, q8.2]
  exact ⟨rfl, rfl, rfl⟩
theorem balanced (a0 : List (Ty.T y33)) (a1 : Ty.T y112) (w0 : Ty.ok (.sl 34 y33) a0) (w1 : Ty.ok y112 a1) : d13 a0 a1 = true ∧ v13 a0 a1 = true := by
  have z := sz66 a0 w0 1048576 (by omega) (by omega)
  unfold d13 v13
  by_cases h0 : v66 a0 1048576 < 0
  · rw [decide_eq_true h0]; exact ⟨rfl, rfl⟩
  · rw [decide_eq_false h0]
    have s := sz58 a1 w1 (v66 a0 1048576) (by omega) z.1
    rw [s.1]
    by_cases h1 : v58 a1 (v66 a0 1048576) < 0
    · rw [decide_eq_true h1]; exact ⟨rfl, rfl⟩
    · rw [decide_eq_false h1]
      have hs := s.2 (by omega)
      have hs0 := z.2 (by omega)
      have t0 := to68 a0 hs0
      have t1 := to61 a1 hs
      have q0 := eq70 a0 hs0
      have q1 := eq63 a1 hs
      have bb := bal a0 a1 hs0.1 hs
      have e1 : v61 a1 = a1 := t1.2
      rw [t0.1, t0.2, t1.1, e1, q0.1, q0.2, q1.1, q1.2, bb.1, bb.2.1, bb.2.2]
      simp
end Go.Proofs.Ytnbmifoebaoemaa.Vm
namespace Go.Proofs.Ytnbmifoebaoemaa.Pure
open Go Go.Proofs.Ytnbmifoebaoemaa.Lib Go.Proofs.Ytnbmifoebaoemaa.Vm
theorem fnExactBalanced : Go.Proofs.Ytnbmifoebaoemaa.fnExactBalanced.Pure := fun a0 a1 w0 w1 => by
  have h := balanced a0 a1 w0 w1
  show cond (d13 a0 a1) (some (f13 (v13 a0 a1))) none = _
  rw [h.1, h.2]
  rfl
end Go.Proofs.Ytnbmifoebaoemaa.Pure
