/- FnExactNeeded: the program and the reference answer alike. No condition. -/
import Derived.Test.YtnbmifoebaoemaaVmRowFnExactNeeded
import Derived.Test.YtnbmifoebaoemaaVmLibTwo
namespace Go.Proofs.Ytnbmifoebaoemaa.Vm
open Go Go.Proofs.Ytnbmifoebaoemaa.Lib
set_option linter.unusedSimpArgs false
set_option linter.unusedVariables false
theorem to60 (xs : List (Int)) (hs : Ty.short (.sl 3 (.int .i64)) xs) : d60 xs = true ∧ v60 xs = xs := by
  have hb := hs.1
  have h : ∀ (n : Nat) (hn : xs.length < n) (out : List (Int)) (ho : out.length = xs.length), iter s60_0 n (xs, [], 0, out, ()) = some (0, (xs, [], (xs.length : Int), xs, ())) := fun n hn out ho => by
    have := map_iter (s := s60_0) (mk := fun i o => (xs, [], i, o, ())) (xs := xs) (conv := fun x => x) (fun i out x hx hl => by
      obtain ⟨hi, rfl⟩ := List.getElem?_eq_some_iff.1 hx
      skip
      simp [s60_0, t60_0, optC_some, hi, hl,  wrap_nat (n := i) (by omega)]) (fun out hl => by simp [s60_0, t60_0]) xs.length 0 out n (by omega) ho hn
    simpa using this
  have h := h (n60_0 (xs, [], 0, (List.replicate ((xs.length : Int)).toNat (Ty.zero (.int .i64))), ())) (by simp [n60_0]; omega) (List.replicate ((xs.length : Int)).toNat (Ty.zero (.int .i64))) (by simp)
  have hk : k60_0 xs [] 0 (List.replicate ((xs.length : Int)).toNat (Ty.zero (.int .i64))) 0 = true := at_of h 0
  have hw : w60_0 xs [] 0 (List.replicate ((xs.length : Int)).toNat (Ty.zero (.int .i64))) = (xs, [], (xs.length : Int), xs, ()) := val_of h
  constructor
  · show (_ && (_ && (cond (k60_0 xs [] 0 (List.replicate ((xs.length : Int)).toNat (Ty.zero (.int .i64))) 0) true false))) = true
    rw [hk]
    simp
    omega
  · show cond (k60_0 xs [] 0 (List.replicate ((xs.length : Int)).toNat (Ty.zero (.int .i64))) 0) (w60_0 xs [] 0 (List.replicate ((xs.length : Int)).toNat (Ty.zero (.int .i64)))).2.2.2.1 [] = xs
    rw [hk, hw]
    rfl
theorem v74_eq (x : Ty.T y33) : v74 x = x := rfl
theorem to68 (xs : List (Ty.T y33)) (hs : Ty.short (.sl 34 y33) xs) : d68 xs = true ∧ v68 xs = xs := by
  have hb := hs.1
  have h : ∀ (n : Nat) (hn : xs.length < n) (out : List (Ty.T y33)) (ho : out.length = xs.length), iter s68_0 n (xs, [], 0, out, ()) = some (0, (xs, [], (xs.length : Int), xs, ())) := fun n hn out ho => by
    have := map_iter (s := s68_0) (mk := fun i o => (xs, [], i, o, ())) (xs := xs) (conv := fun x => x) (fun i out x hx hl => by
      obtain ⟨hi, rfl⟩ := List.getElem?_eq_some_iff.1 hx
      skip
      simp [s68_0, t68_0, optC_some, hi, hl, v74_eq, wrap_nat (n := i) (by omega)]) (fun out hl => by simp [s68_0, t68_0]) xs.length 0 out n (by omega) ho hn
    simpa using this
  have h := h (n68_0 (xs, [], 0, (List.replicate ((xs.length : Int)).toNat (Ty.zero y33)), ())) (by simp [n68_0]; omega) (List.replicate ((xs.length : Int)).toNat (Ty.zero y33)) (by simp)
  have hk : k68_0 xs [] 0 (List.replicate ((xs.length : Int)).toNat (Ty.zero y33)) 0 = true := at_of h 0
  have hw : w68_0 xs [] 0 (List.replicate ((xs.length : Int)).toNat (Ty.zero y33)) = (xs, [], (xs.length : Int), xs, ()) := val_of h
  constructor
  · show (_ && (_ && (cond (k68_0 xs [] 0 (List.replicate ((xs.length : Int)).toNat (Ty.zero y33)) 0) true false))) = true
    rw [hk]
    simp
    omega
  · show cond (k68_0 xs [] 0 (List.replicate ((xs.length : Int)).toNat (Ty.zero y33)) 0) (w68_0 xs [] 0 (List.replicate ((xs.length : Int)).toNat (Ty.zero y33))).2.2.2.1 [] = xs
    rw [hk, hw]
    rfl
theorem to49 (x : Ty.T y93) (hs : Ty.short y93 x) : d49 x = true ∧ v49 x = (x.1, x.2.1, x.2.2.1, x.2.2.2.1, x.2.2.2.2.1.1, x.2.2.2.2.1.2.1, x.2.2.2.2.1.2.2.1, x.2.2.2.2.1.2.2.2.1, x.2.2.2.2.1.2.2.2.2.1, x.2.2.2.2.1.2.2.2.2.2.1, x.2.2.2.2.1.2.2.2.2.2.2, x.2.2.2.2.2.2.1, x.2.2.2.2.2.2.2, x.2.2.2.2.2.1) := by
  have h := to68 x.2.2.2.2.2.1 hs.2.2.2.2.2.1
  unfold d49 v49
  rw [h.1, h.2]
  exact ⟨rfl, rfl⟩
theorem to16 (xs : List (Ty.T y93)) (hs : Ty.short (.sl 94 y93) xs) : d16 xs = true ∧ v16 xs = xs := by
  have hb := hs.1
  have h : ∀ (n : Nat) (hn : xs.length < n) (out : List (Ty.T y97)) (ho : out.length = xs.length), iter s16_0 n (xs, [], 0, out, ()) = some (0, (xs, [], (xs.length : Int), xs, ())) := fun n hn out ho => by
    have := map_iter (s := s16_0) (mk := fun i o => (xs, [], i, o, ())) (xs := xs) (conv := fun x => x) (fun i out x hx hl => by
      obtain ⟨hi, rfl⟩ := List.getElem?_eq_some_iff.1 hx
      have h49 := to49 xs[i] (hs.2 _ (List.getElem_mem hi))
      simp [s16_0, t16_0, optC_some, hi, hl, h49.1, h49.2, wrap_nat (n := i) (by omega)]) (fun out hl => by simp [s16_0, t16_0]) xs.length 0 out n (by omega) ho hn
    simpa using this
  have h := h (n16_0 (xs, [], 0, (List.replicate ((xs.length : Int)).toNat (Ty.zero y97)), ())) (by simp [n16_0]; omega) (List.replicate ((xs.length : Int)).toNat (Ty.zero y97)) (by simp)
  have hk : k16_0 xs [] 0 (List.replicate ((xs.length : Int)).toNat (Ty.zero y97)) 0 = true := at_of h 0
  have hw : w16_0 xs [] 0 (List.replicate ((xs.length : Int)).toNat (Ty.zero y97)) = (xs, [], (xs.length : Int), xs, ()) := val_of h
  constructor
  · show (_ && (_ && (cond (k16_0 xs [] 0 (List.replicate ((xs.length : Int)).toNat (Ty.zero y97)) 0) true false))) = true
    rw [hk]
    simp
    omega
  · show cond (k16_0 xs [] 0 (List.replicate ((xs.length : Int)).toNat (Ty.zero y97)) 0) (w16_0 xs [] 0 (List.replicate ((xs.length : Int)).toNat (Ty.zero y97))).2.2.2.1 [] = xs
    rw [hk, hw]
    rfl
theorem to83 (x : Ty.T y51) (hs : Ty.short y51 x) : d83 x = true ∧ v83 x = (x.1, x.2.1, x.2.2.1, x.2.2.2.1, x.2.2.2.2.1, x.2.2.2.2.2.1, x.2.2.2.2.2.2) := by
  have h := to68 x.2.2.2.2.2.2 hs.2.2.2.2.2.2
  unfold d83 v83
  rw [h.1, h.2]
  exact ⟨rfl, rfl⟩
theorem to28 (x : Ty.T y53) (hs : Ty.short y53 x) : d28 x = true ∧ v28 x = (x.1, x.2.1, x.2.2.1, x.2.2.2.1, x.2.2.2.2.1.1, x.2.2.2.2.1.2.1, x.2.2.2.2.1.2.2.1, x.2.2.2.2.1.2.2.2.1, x.2.2.2.2.1.2.2.2.2.1, x.2.2.2.2.1.2.2.2.2.2.1, x.2.2.2.2.1.2.2.2.2.2.2, x.2.2.2.2.2.1.1, x.2.2.2.2.2.1.2, x.2.2.2.2.2.2.1.1, x.2.2.2.2.2.2.1.2.1, x.2.2.2.2.2.2.1.2.2.1, x.2.2.2.2.2.2.1.2.2.2.1, x.2.2.2.2.2.2.1.2.2.2.2.1, x.2.2.2.2.2.2.1.2.2.2.2.2.1, x.2.2.2.2.2.2.2.1, x.2.2.2.2.2.2.2.2, x.2.2.2.2.2.2.1.2.2.2.2.2.2) := by
  have h := to83 x.2.2.2.2.2.2.1 hs.2.2.2.2.2.2.1
  unfold d28 v28
  rw [h.1, h.2]
  exact ⟨rfl, rfl⟩
theorem to34 (xs : List (Ty.T y53)) (hs : Ty.short (.sl 54 y53) xs) : d34 xs = true ∧ v34 xs = xs := by
  have hb := hs.1
  have h : ∀ (n : Nat) (hn : xs.length < n) (out : List (Ty.T y62)) (ho : out.length = xs.length), iter s34_0 n (xs, [], 0, out, ()) = some (0, (xs, [], (xs.length : Int), xs, ())) := fun n hn out ho => by
    have := map_iter (s := s34_0) (mk := fun i o => (xs, [], i, o, ())) (xs := xs) (conv := fun x => x) (fun i out x hx hl => by
      obtain ⟨hi, rfl⟩ := List.getElem?_eq_some_iff.1 hx
      have h28 := to28 xs[i] (hs.2 _ (List.getElem_mem hi))
      simp [s34_0, t34_0, optC_some, hi, hl, h28.1, h28.2, wrap_nat (n := i) (by omega)]) (fun out hl => by simp [s34_0, t34_0]) xs.length 0 out n (by omega) ho hn
    simpa using this
  have h := h (n34_0 (xs, [], 0, (List.replicate ((xs.length : Int)).toNat (Ty.zero y62)), ())) (by simp [n34_0]; omega) (List.replicate ((xs.length : Int)).toNat (Ty.zero y62)) (by simp)
  have hk : k34_0 xs [] 0 (List.replicate ((xs.length : Int)).toNat (Ty.zero y62)) 0 = true := at_of h 0
  have hw : w34_0 xs [] 0 (List.replicate ((xs.length : Int)).toNat (Ty.zero y62)) = (xs, [], (xs.length : Int), xs, ()) := val_of h
  constructor
  · show (_ && (_ && (cond (k34_0 xs [] 0 (List.replicate ((xs.length : Int)).toNat (Ty.zero y62)) 0) true false))) = true
    rw [hk]
    simp
    omega
  · show cond (k34_0 xs [] 0 (List.replicate ((xs.length : Int)).toNat (Ty.zero y62)) 0) (w34_0 xs [] 0 (List.replicate ((xs.length : Int)).toNat (Ty.zero y62))).2.2.2.1 [] = xs
    rw [hk, hw]
    rfl
theorem to61 (x : Ty.T y112) (hs : Ty.short y112 x) : d61 x = true ∧ v61 x = (x.1, x.2.1, x.2.2.1, x.2.2.2) := by
  have h1 := to68 x.1 hs.1
  have h2 := to34 x.2.1 hs.2.1
  have h3 := to60 x.2.2.1 hs.2.2.1
  have h4 := to16 x.2.2.2 hs.2.2.2
  unfold d61 v61
  rw [h1.1, h1.2, h2.1, h2.2, h3.1, h3.2, h4.1, h4.2]
  exact ⟨rfl, rfl⟩
theorem eq18 (xs : List (Int)) (hs : Ty.short (.sl 3 (.int .i64)) xs) : d18 xs xs = true ∧ v18 xs xs = true := by
  have hb := hs.1
  have h := all_iter (s := s18_0) (mk := fun i => (xs, xs, false, i, ())) (c := 1) (N := xs.length) (fun i hi => by
    skip
    simp [s18_0, t18_0, optC_some, hi,  wrap_nat (n := i) (by omega)]) (by simp [s18_0, t18_0]) xs.length 0 (n18_0 (xs, xs, false, 0, ())) (by omega) (by simp [n18_0]; omega)
  have h0 : k18_0 xs xs false 0 0 = false := at_of h 0
  have h1 : k18_0 xs xs false 0 1 = true := at_of h 1
  unfold d18 v18
  rw [h0, h1]
  simp
theorem eq110 (x : Ty.T y33) : v110 x x = true := by simp [v110]
theorem eq70 (xs : List (Ty.T y33)) (hs : Ty.short (.sl 40 y33) xs) : d70 xs xs = true ∧ v70 xs xs = true := by
  have hb := hs.1
  have h := all_iter (s := s70_0) (mk := fun i => (xs, xs, false, i, ())) (c := 1) (N := xs.length) (fun i hi => by
    skip
    simp [s70_0, t70_0, optC_some, hi, eq110, wrap_nat (n := i) (by omega)]) (by simp [s70_0, t70_0]) xs.length 0 (n70_0 (xs, xs, false, 0, ())) (by omega) (by simp [n70_0]; omega)
  have h0 : k70_0 xs xs false 0 0 = false := at_of h 0
  have h1 : k70_0 xs xs false 0 1 = true := at_of h 1
  unfold d70 v70
  rw [h0, h1]
  simp
theorem eq51 (x : Ty.T y97) (hs : Ty.short y97 x) : d51 x x = true ∧ v51 x x = true := by
  have h := eq70 x.2.2.2.2.2.1 hs.2.2.2.2.2.1
  unfold d51 v51
  rw [h.1, h.2, eq110]
  simp
theorem eq19 (xs : List (Ty.T y97)) (hs : Ty.short (.sl 98 y97) xs) : d19 xs xs = true ∧ v19 xs xs = true := by
  have hb := hs.1
  have h := all_iter (s := s19_0) (mk := fun i => (xs, xs, false, i, ())) (c := 1) (N := xs.length) (fun i hi => by
    have h51 := eq51 xs[i] (hs.2 _ (List.getElem_mem hi))
    simp [s19_0, t19_0, optC_some, hi, h51.1, h51.2, wrap_nat (n := i) (by omega)]) (by simp [s19_0, t19_0]) xs.length 0 (n19_0 (xs, xs, false, 0, ())) (by omega) (by simp [n19_0]; omega)
  have h0 : k19_0 xs xs false 0 0 = false := at_of h 0
  have h1 : k19_0 xs xs false 0 1 = true := at_of h 1
  unfold d19 v19
  rw [h0, h1]
  simp
theorem eq86 (x : Ty.T y46) : v86 x x = true := by simp [v86]
theorem eq87 (x : Ty.T y48) : v87 x x = true := by simp [v87]
theorem eq88 (x : Ty.T y60) (hs : Ty.short y60 x) : d88 x x = true ∧ v88 x x = true := by
  have h := eq70 x.2.2.2.2.2.2 hs.2.2.2.2.2.2
  unfold d88 v88
  rw [h.1, h.2]
  simp
theorem eq30 (x : Ty.T y62) (hs : Ty.short y62 x) : d30 x x = true ∧ v30 x x = true := by
  have h := eq88 x.2.2.2.2.2.2.1 hs.2.2.2.2.2.2.1
  unfold d30 v30
  rw [h.1, h.2, eq86, eq87]
  simp
theorem eq36 (xs : List (Ty.T y62)) (hs : Ty.short (.sl 63 y62) xs) : d36 xs xs = true ∧ v36 xs xs = true := by
  have hb := hs.1
  have h := all_iter (s := s36_0) (mk := fun i => (xs, xs, false, i, ())) (c := 1) (N := xs.length) (fun i hi => by
    have h30 := eq30 xs[i] (hs.2 _ (List.getElem_mem hi))
    simp [s36_0, t36_0, optC_some, hi, h30.1, h30.2, wrap_nat (n := i) (by omega)]) (by simp [s36_0, t36_0]) xs.length 0 (n36_0 (xs, xs, false, 0, ())) (by omega) (by simp [n36_0]; omega)
  have h0 : k36_0 xs xs false 0 0 = false := at_of h 0
  have h1 : k36_0 xs xs false 0 1 = true := at_of h 1
  unfold d36 v36
  rw [h0, h1]
  simp
theorem eq63 (x : Ty.T y117) (hs : Ty.short y117 x) : d63 x x = true ∧ v63 x x = true := by
  have h1 := eq70 x.1 hs.1
  have h2 := eq36 x.2.1 hs.2.1
  have h3 := eq18 x.2.2.1 hs.2.2.1
  have h4 := eq19 x.2.2.2 hs.2.2.2
  unfold d63 v63
  rw [h1.1, h1.2, h2.1, h2.2, h3.1, h3.2, h4.1, h4.2]
  simp
def SZ (r n : Int) (S : Prop) : Prop := r ≤ n ∧ (0 ≤ r → S)
theorem SZ.neg {n : Int} {S : Prop} (h0 : 0 ≤ n) : SZ (-1) n S := ⟨by omega, fun h => absurd h (by omega)⟩
theorem short33 (x : Ty.T y33) : Ty.short y33 x := by simp [Ty.short]
theorem sz66 (l : List (Ty.T y33)) (ho : Ty.ok (.sl 34 y33) l) (n : Int) (h0 : 0 ≤ n) (h1 : n ≤ 1048576) : SZ (v66 l n) n (Ty.short (.sl 34 y33) l) := by
  have hl := ho.2
  unfold v66
  rw [wrap_in (by omega) (by omega)]
  by_cases h : n - (l.length : Int) < 0
  · rw [decide_eq_true h]; exact .neg h0
  · rw [decide_eq_false h]; exact ⟨show n - (l.length : Int) ≤ n by omega, fun _ => ⟨by omega, fun x _ => short33 x⟩⟩
theorem sz111 (l : List Int) (ho : Ty.ok (.sl 3 (.int .i64)) l) (n : Int) (h0 : 0 ≤ n) (h1 : n ≤ 1048576) : SZ (v111 l n) n (Ty.short (.sl 3 (.int .i64)) l) := by
  have hl := ho.2
  unfold v111
  rw [wrap_in (by omega) (by omega)]
  by_cases h : n - (l.length : Int) < 0
  · rw [decide_eq_true h]; exact .neg h0
  · rw [decide_eq_false h]; exact ⟨show n - (l.length : Int) ≤ n by omega, fun _ => ⟨by omega, fun x _ => trivial⟩⟩
theorem sz47 (x : Ty.T y93) (ho : Ty.ok y93 x) (n : Int) (h0 : 0 ≤ n) (h1 : n ≤ 1048576) : SZ (v47 x n) n (Ty.short y93 x) := by
  have h2 := sz66 x.2.2.2.2.2.1 ho.2.2.2.2.2.1 n h0 h1
  unfold v47
  by_cases h : v66 x.2.2.2.2.2.1 n < 0
  · rw [decide_eq_true h]; exact .neg h0
  · rw [decide_eq_false h]; exact ⟨h2.1, fun h3 => ⟨trivial, trivial, trivial, trivial, short33 _, h2.2 h3, trivial, trivial⟩⟩
theorem sz78 (x : Ty.T y51) (ho : Ty.ok y51 x) (n : Int) (h0 : 0 ≤ n) (h1 : n ≤ 1048576) : SZ (v78 x n) n (Ty.short y51 x) := by
  have h2 := sz66 x.2.2.2.2.2.2 ho.2.2.2.2.2.2 n h0 h1
  unfold v78
  by_cases h : v66 x.2.2.2.2.2.2 n < 0
  · rw [decide_eq_true h]; exact .neg h0
  · rw [decide_eq_false h]; exact ⟨h2.1, fun h3 => ⟨trivial, trivial, trivial, trivial, trivial, trivial, h2.2 h3⟩⟩
theorem short46 (x : Ty.T y46) : Ty.short y46 x := by simp [Ty.short]
theorem short48 (x : Ty.T y48) : Ty.short y48 x := by simp [Ty.short]
theorem sz26 (x : Ty.T y53) (ho : Ty.ok y53 x) (n : Int) (h0 : 0 ≤ n) (h1 : n ≤ 1048576) : SZ (v26 x n) n (Ty.short y53 x) := by
  have h2 := sz78 x.2.2.2.2.2.2.1 ho.2.2.2.2.2.2.1 n h0 h1
  unfold v26
  by_cases h : v78 x.2.2.2.2.2.2.1 n < 0
  · rw [decide_eq_true h]; exact .neg h0
  · rw [decide_eq_false h]; exact ⟨h2.1, fun h3 => ⟨trivial, trivial, trivial, trivial, short46 _, short48 _, h2.2 h3, trivial, trivial⟩⟩
theorem sz14 (xs : List (Ty.T y93)) (ho : Ty.ok (.sl 94 y93) xs) (n : Int) (h0 : 0 ≤ n) (h1 : n ≤ 1048576) : d14 xs n = true ∧ SZ (v14 xs n) n (Ty.short (.sl 94 y93) xs) := by
  have hl := ho.2
  unfold d14 v14
  rw [wrap_in (n := n - (xs.length : Int)) (by omega) (by omega)]
  by_cases h : n - (xs.length : Int) < 0
  · rw [decide_eq_true h]; exact ⟨rfl, .neg h0⟩
  · rw [decide_eq_false h]
    have key := sz_iter (s := s14_0) (mk := fun n r i => (xs, n, r, i, ())) (xs := xs) (g := v47) (S := Ty.short y93) (B := 1048576) (fun x hx n h0 h1 => sz47 x (ho.1 x hx) n h0 h1) (fun i x n r hn0 hn1 hx => by
      obtain ⟨hi, rfl⟩ := List.getElem?_eq_some_iff.1 hx
      simp [s14_0, t14_0, optC_some, hi, wrap_nat (n := i) (by omega), Bool.cond_decide]) (fun n r => by simp [s14_0, t14_0]) xs.length 0 (n - (xs.length : Int)) 0 (n14_0 (xs, n - (xs.length : Int), 0, 0, ())) (by omega) (by simp [n14_0]; omega) (by omega) (by omega)
    rcases key with ⟨n', i', hk⟩ | ⟨n', hk, g0, g1, g2⟩
    · have e0 : k14_0 xs (n - (xs.length : Int)) 0 0 0 = true := at_of hk 0
      have ew : w14_0 xs (n - (xs.length : Int)) 0 0 = (xs, n', -1, i', ()) := val_of hk
      rw [e0, ew]
      exact ⟨rfl, .neg h0⟩
    · have e0 : k14_0 xs (n - (xs.length : Int)) 0 0 0 = false := at_of hk 0
      have e1 : k14_0 xs (n - (xs.length : Int)) 0 0 1 = true := at_of hk 1
      have ew : w14_0 xs (n - (xs.length : Int)) 0 0 = (xs, n', 0, (xs.length : Int), ()) := val_of hk
      rw [e0, e1, ew]
      refine ⟨rfl, ?_, fun _ => ⟨by omega, fun x hx => ?_⟩⟩
      · show n' ≤ n
        omega
      · obtain ⟨j, hj⟩ := List.getElem?_of_mem hx
        exact g2 j x (Nat.zero_le _) hj
theorem sz32 (xs : List (Ty.T y53)) (ho : Ty.ok (.sl 54 y53) xs) (n : Int) (h0 : 0 ≤ n) (h1 : n ≤ 1048576) : d32 xs n = true ∧ SZ (v32 xs n) n (Ty.short (.sl 54 y53) xs) := by
  have hl := ho.2
  unfold d32 v32
  rw [wrap_in (n := n - (xs.length : Int)) (by omega) (by omega)]
  by_cases h : n - (xs.length : Int) < 0
  · rw [decide_eq_true h]; exact ⟨rfl, .neg h0⟩
  · rw [decide_eq_false h]
    have key := sz_iter (s := s32_0) (mk := fun n r i => (xs, n, r, i, ())) (xs := xs) (g := v26) (S := Ty.short y53) (B := 1048576) (fun x hx n h0 h1 => sz26 x (ho.1 x hx) n h0 h1) (fun i x n r hn0 hn1 hx => by
      obtain ⟨hi, rfl⟩ := List.getElem?_eq_some_iff.1 hx
      simp [s32_0, t32_0, optC_some, hi, wrap_nat (n := i) (by omega), Bool.cond_decide]) (fun n r => by simp [s32_0, t32_0]) xs.length 0 (n - (xs.length : Int)) 0 (n32_0 (xs, n - (xs.length : Int), 0, 0, ())) (by omega) (by simp [n32_0]; omega) (by omega) (by omega)
    rcases key with ⟨n', i', hk⟩ | ⟨n', hk, g0, g1, g2⟩
    · have e0 : k32_0 xs (n - (xs.length : Int)) 0 0 0 = true := at_of hk 0
      have ew : w32_0 xs (n - (xs.length : Int)) 0 0 = (xs, n', -1, i', ()) := val_of hk
      rw [e0, ew]
      exact ⟨rfl, .neg h0⟩
    · have e0 : k32_0 xs (n - (xs.length : Int)) 0 0 0 = false := at_of hk 0
      have e1 : k32_0 xs (n - (xs.length : Int)) 0 0 1 = true := at_of hk 1
      have ew : w32_0 xs (n - (xs.length : Int)) 0 0 = (xs, n', 0, (xs.length : Int), ()) := val_of hk
      rw [e0, e1, ew]
      refine ⟨rfl, ?_, fun _ => ⟨by omega, fun x hx => ?_⟩⟩
      · show n' ≤ n
        omega
      · obtain ⟨j, hj⟩ := List.getElem?_of_mem hx
        exact g2 j x (Nat.zero_le _) hj
theorem sz58 (x : Ty.T y112) (ho : Ty.ok y112 x) (B : Int) (b0 : 0 ≤ B) (b1 : B ≤ 1048576) : d58 x B = true ∧ (0 ≤ v58 x B → Ty.short y112 x) := by
  have a1 := sz66 x.1 ho.1 B b0 b1
  unfold d58 v58
  by_cases h1 : v66 x.1 B < 0
  · rw [decide_eq_true h1]; exact ⟨rfl, fun h => absurd (show (0 : Int) ≤ -1 from h) (by decide)⟩
  · rw [decide_eq_false h1]
    have a2 := sz32 x.2.1 ho.2.1 (v66 x.1 B) (by omega) (by have := a1.1; omega)
    rw [a2.1]
    by_cases h2 : v32 x.2.1 (v66 x.1 B) < 0
    · rw [decide_eq_true h2]; exact ⟨rfl, fun h => absurd (show (0 : Int) ≤ -1 from h) (by decide)⟩
    · rw [decide_eq_false h2]
      have a3 := sz111 x.2.2.1 ho.2.2.1 (v32 x.2.1 (v66 x.1 B)) (by omega) (by have := a1.1; have := a2.2.1; omega)
      by_cases h3 : v111 x.2.2.1 (v32 x.2.1 (v66 x.1 B)) < 0
      · rw [decide_eq_true h3]; exact ⟨rfl, fun h => absurd (show (0 : Int) ≤ -1 from h) (by decide)⟩
      · rw [decide_eq_false h3]
        have a4 := sz14 x.2.2.2 ho.2.2.2 (v111 x.2.2.1 (v32 x.2.1 (v66 x.1 B))) (by omega) (by have := a1.1; have := a2.2.1; have := a3.1; omega)
        rw [a4.1]
        by_cases h4 : v14 x.2.2.2 (v111 x.2.2.1 (v32 x.2.1 (v66 x.1 B))) < 0
        · rw [decide_eq_true h4]; exact ⟨rfl, fun h => absurd (show (0 : Int) ≤ -1 from h) (by decide)⟩
        · rw [decide_eq_false h4]
          exact ⟨rfl, fun _ => ⟨a1.2 (by omega), a2.2.2 (by omega), a3.2 (by omega), a4.2.2 (by omega)⟩⟩
theorem spec64 (f : Ty.T y117) (hs : Ty.short y117 f) : d64 f = true ∧ v64 f = f.2.2.2.foldl (fun (k : Int) (x : Ty.T y97) => if x.2.2.2.1 ≥ 2 then k + 1 else k) 0 := by
  have hb : f.2.2.2.length ≤ 1048576 := hs.2.2.2.1
  have h := fold_iter (s := s64_0) (mk := fun (k : Int) i => ((0 : Int), k, i, f, ())) (xs := f.2.2.2) (f := fun (k : Int) (x : Ty.T y97) => if x.2.2.2.1 ≥ 2 then k + 1 else k) (Inv := fun i k => 0 ≤ k ∧ k ≤ i) (fun i x k hx hI => by
    obtain ⟨hi, rfl⟩ := List.getElem?_eq_some_iff.1 hx
    have hk := wrap_in (n := k + 1) (by omega) (by omega)
    by_cases hg : (f.2.2.2[i]).2.2.2.1 ≥ 2
    · refine ⟨?_, ?_⟩
      · simp [s64_0, t64_0, optC_some, hi, hg, hk, wrap_nat (n := i) (by omega)]
      · rw [if_pos hg]; omega
    · refine ⟨?_, ?_⟩
      · simp [s64_0, t64_0, optC_some, hi, hg, wrap_nat (n := i) (by omega)]
      · rw [if_neg hg]; omega) (fun k => by simp [s64_0, t64_0]) f.2.2.2.length 0 0 (n64_0 (0, 0, 0, f, ())) (by omega) (by simp [n64_0]; omega) ⟨by omega, by omega⟩
  have hk : k64_0 0 0 0 f 0 = true := at_of h 0
  have hw : w64_0 0 0 0 f = _ := val_of h
  unfold d64 v64
  rw [hk, hw]
  exact ⟨rfl, rfl⟩
theorem impl17 (xs : List (Ty.T y97)) (hb : xs.length ≤ 1048576) : d17 xs = true ∧ v17 xs = xs.foldl (fun (l : List Int) (x : Ty.T y97) => if x.2.2.2.1 ≥ 2 then l ++ [x.2.2.1] else l) [] := by
  have h := fold_iter (s := s17_0) (mk := fun (l : List Int) i => ([], xs, (xs.length : Int), i, l, ())) (xs := xs) (f := fun (l : List Int) (x : Ty.T y97) => if x.2.2.2.1 ≥ 2 then l ++ [x.2.2.1] else l) (Inv := fun i l => l.length ≤ i) (fun i x l hx hI => by
    obtain ⟨hi, rfl⟩ := List.getElem?_eq_some_iff.1 hx
    by_cases hg : (xs[i]).2.2.2.1 ≥ 2
    · refine ⟨?_, ?_⟩
      · have hc : (l.length + 1) * 8 ≤ 140737488351232 := by omega
        simp [s17_0, t17_0, optC_some, hi, hg, hc, wrap_nat (n := i) (by omega)]
      · rw [if_pos hg]; simp; omega
    · refine ⟨?_, ?_⟩
      · simp [s17_0, t17_0, optC_some, hi, hg, wrap_nat (n := i) (by omega)]
      · rw [if_neg hg]; omega) (fun l => by simp [s17_0, t17_0]) xs.length 0 [] (n17_0 ([], xs, (xs.length : Int), 0, [], ())) (by omega) (by simp [n17_0]; omega) (Nat.zero_le _)
  have hk : k17_0 [] xs (xs.length : Int) 0 [] 0 = true := at_of h 0
  have hw : w17_0 [] xs (xs.length : Int) 0 [] = _ := val_of h
  unfold d17 v17
  rw [hk, hw]
  exact ⟨rfl, rfl⟩
theorem count (xs : List (Ty.T y97)) : ∀ l : List Int, ((xs.foldl (fun (l : List Int) (x : Ty.T y97) => if x.2.2.2.1 ≥ 2 then l ++ [x.2.2.1] else l) l).length : Int) = xs.foldl (fun (k : Int) (x : Ty.T y97) => if x.2.2.2.1 ≥ 2 then k + 1 else k) (l.length : Int) := by
  induction xs with
  | nil => intro l; rfl
  | cons x xs ih =>
    intro l
    rw [List.foldl_cons, List.foldl_cons, ih]
    congr 1
    split
    · rw [List.length_append]; rfl
    · rfl
theorem needed (a0 : Ty.T y112) (w0 : Ty.ok y112 a0) : d12 a0 = true ∧ v12 a0 = true := by
  unfold d12 v12
  have s := sz58 a0 w0 1048576 (by omega) (by omega)
  rw [s.1]
  by_cases h1 : v58 a0 1048576 < 0
  · rw [decide_eq_true h1]; exact ⟨rfl, rfl⟩
  · rw [decide_eq_false h1]
    have hs := s.2 (by omega)
    have t1 := to61 a0 hs
    have q1 := eq63 a0 hs
    have p1 := spec64 a0 hs
    have p2 := impl17 a0.2.2.2 hs.2.2.2.1
    have p3 : d65 a0 = true ∧ v65 a0 = v64 a0 := by
      unfold d65 v65
      rw [p2.1, p2.2, p1.2]
      exact ⟨rfl, count a0.2.2.2 []⟩
    have e1 : v61 a0 = a0 := t1.2
    rw [t1.1, e1, q1.1, q1.2, p1.1, p3.1, p3.2]
    simp
end Go.Proofs.Ytnbmifoebaoemaa.Vm
namespace Go.Proofs.Ytnbmifoebaoemaa.Pure
open Go Go.Proofs.Ytnbmifoebaoemaa.Lib Go.Proofs.Ytnbmifoebaoemaa.Vm
theorem fnExactNeeded : Go.Proofs.Ytnbmifoebaoemaa.fnExactNeeded.Pure := fun a0 w0 => by
  have h := needed a0 w0
  show cond (d12 a0) (some (f12 (v12 a0))) none = _
  rw [h.1, h.2]
  rfl
end Go.Proofs.Ytnbmifoebaoemaa.Pure
