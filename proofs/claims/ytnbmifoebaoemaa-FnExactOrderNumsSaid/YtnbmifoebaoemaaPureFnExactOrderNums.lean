/- FnExactOrderNums: the program and the reference answer alike. No condition. -/
import Derived.Test.YtnbmifoebaoemaaVmRowFnExactOrderNums
import Derived.Test.YtnbmifoebaoemaaVmLibThree
namespace Go.Proofs.Ytnbmifoebaoemaa.Vm
open Go Go.Proofs.Ytnbmifoebaoemaa.Lib
set_option linter.unusedSimpArgs false
set_option linter.unusedVariables false
theorem eq18 (xs : List (Int)) (hs : Ty.short (.sl 3 (.int .i64)) xs) : d18 xs xs = true ∧ v18 xs xs = true := by
  have hb := hs.1
  have h := all_iter (s := s18_0) (mk := fun i => (xs, xs, false, i, ())) (c := 1) (N := xs.length) (fun i hi => by
    skip
    simp [s18_0, t18_0, optC_some, hi,  wrap_nat (n := i) (by omega)]) (by simp [s18_0, t18_0]) xs.length 0 (n18_0 (xs, xs, false, 0, ())) (by omega) (by simp [n18_0]; omega)
  have h0 : k18_0 xs xs false 0 0 = false := at_of h 0
  have h1 : k18_0 xs xs false 0 1 = true := at_of h 1
  unfold d18 v18
  rw [h0, h1]
  simp
def SZ (r n : Int) (S : Prop) : Prop := r ≤ n ∧ (0 ≤ r → S)
theorem SZ.neg {n : Int} {S : Prop} (h0 : 0 ≤ n) : SZ (-1) n S := ⟨by omega, fun h => absurd h (by omega)⟩
theorem sz66 (x : List (Ty.T y33)) (ho : Ty.ok (.sl 34 y33) x) (n : Int) (h0 : 0 ≤ n) (h1 : n ≤ 1048576) : SZ (v66 x n) n (Ty.short (.sl 34 y33) x) := by
  have hl := ho.2
  unfold v66
  rw [wrap_in (by omega) (by omega)]
  by_cases h : n - (x.length : Int) < 0
  · rw [decide_eq_true h]; exact .neg h0
  · rw [decide_eq_false h]; exact ⟨show n - (x.length : Int) ≤ n by omega, fun _ => ⟨by omega, fun x _ => by simp [Ty.short]⟩⟩
theorem sz78 (x : Ty.T y51) (ho : Ty.ok y51 x) (n : Int) (h0 : 0 ≤ n) (h1 : n ≤ 1048576) : SZ (v78 x n) n (Ty.short y51 x) := by
  unfold v78
  have y0 := sz66 x.2.2.2.2.2.2 ho.2.2.2.2.2.2 n h0 h1
  have z0 := y0
  by_cases g0 : v66 x.2.2.2.2.2.2 n < 0
  · rw [decide_eq_true g0]; exact .neg h0
  · rw [decide_eq_false g0]
    exact ⟨show v66 x.2.2.2.2.2.2 n ≤ n by have := z0.1; omega, fun _ => ⟨(by simp [Ty.short]), ⟨(by simp [Ty.short]), ⟨(by simp [Ty.short]), ⟨(by simp [Ty.short]), ⟨(by simp [Ty.short]), ⟨(by simp [Ty.short]), (z0.2 (by omega))⟩⟩⟩⟩⟩⟩⟩
theorem sz26 (x : Ty.T y53) (ho : Ty.ok y53 x) (n : Int) (h0 : 0 ≤ n) (h1 : n ≤ 1048576) : SZ (v26 x n) n (Ty.short y53 x) := by
  unfold v26
  have y0 := sz78 x.2.2.2.2.2.2.1 ho.2.2.2.2.2.2.1 n h0 h1
  have z0 := y0
  by_cases g0 : v78 x.2.2.2.2.2.2.1 n < 0
  · rw [decide_eq_true g0]; exact .neg h0
  · rw [decide_eq_false g0]
    exact ⟨show v78 x.2.2.2.2.2.2.1 n ≤ n by have := z0.1; omega, fun _ => ⟨(by simp [Ty.short]), ⟨(by simp [Ty.short]), ⟨(by simp [Ty.short]), ⟨(by simp [Ty.short]), ⟨(by simp [Ty.short]), ⟨(by simp [Ty.short]), ⟨(z0.2 (by omega)), (by simp [Ty.short])⟩⟩⟩⟩⟩⟩⟩⟩
theorem sz52 (x : Ty.T y102) (ho : Ty.ok y102 x) (n : Int) (h0 : 0 ≤ n) (h1 : n ≤ 1048576) : SZ (v52 x n) n (Ty.short y102 x) := by
  unfold v52
  have y0 := sz26 x.2.1 ho.2.1 n h0 h1
  have z0 := y0
  by_cases g0 : v26 x.2.1 n < 0
  · rw [decide_eq_true g0]; exact .neg h0
  · rw [decide_eq_false g0]
    have y1 := sz66 x.2.2.2 ho.2.2.2 (v26 x.2.1 n) (by omega) (by have := z0.1; omega)
    have z1 := y1
    by_cases g1 : v66 x.2.2.2 (v26 x.2.1 n) < 0
    · rw [decide_eq_true g1]; exact .neg h0
    · rw [decide_eq_false g1]
      exact ⟨show v66 x.2.2.2 (v26 x.2.1 n) ≤ n by have := z0.1; have := z1.1; omega, fun _ => ⟨(by simp [Ty.short]), ⟨(z0.2 (by omega)), ⟨(by simp [Ty.short]), (z1.2 (by omega))⟩⟩⟩⟩
theorem to81 (x : Ty.T y46) : v81 x = x := rfl
theorem to82 (x : Ty.T y48) : v82 x = x := rfl
theorem to74 (x : Ty.T y33) : v74 x = x := rfl
theorem to68 (xs : List (Ty.T y33)) (hs : Ty.short (.sl 34 y33) xs) : d68 xs = true ∧ v68 xs = xs := by
  have hb := hs.1
  have h : ∀ (n : Nat) (hn : xs.length < n) (out : List (Ty.T y33)) (ho : out.length = xs.length), iter s68_0 n (xs, [], 0, out, ()) = some (0, (xs, [], (xs.length : Int), xs, ())) := fun n hn out ho => by
    have := map_iter (s := s68_0) (mk := fun i o => (xs, [], i, o, ())) (xs := xs) (conv := fun x => x) (fun i out x hx hl => by
      obtain ⟨hi, rfl⟩ := List.getElem?_eq_some_iff.1 hx
      skip
      simp [s68_0, t68_0, optC_some, hi, hl, to74, wrap_nat (n := i) (by omega)]) (fun out hl => by simp [s68_0, t68_0]) xs.length 0 out n (by omega) ho hn
    simpa using this
  have h := h (n68_0 (xs, [], 0, (List.replicate ((xs.length : Int)).toNat (Ty.zero y33)), ())) (by simp [n68_0]; omega) (List.replicate ((xs.length : Int)).toNat (Ty.zero y33)) (by simp)
  have hk : k68_0 xs [] 0 (List.replicate ((xs.length : Int)).toNat (Ty.zero y33)) 0 = true := at_of h 0
  have hw : w68_0 xs [] 0 (List.replicate ((xs.length : Int)).toNat (Ty.zero y33)) = (xs, [], (xs.length : Int), xs, ()) := val_of h
  constructor
  · show (_ && (_ && (cond (k68_0 xs [] 0 (List.replicate ((xs.length : Int)).toNat (Ty.zero y33)) 0) true false))) = true
    rw [hk]
    simp
    omega
  · show cond (k68_0 xs [] 0 (List.replicate ((xs.length : Int)).toNat (Ty.zero y33)) 0) (w68_0 xs [] 0 (List.replicate ((xs.length : Int)).toNat (Ty.zero y33))).2.2.2.1 [] = xs
    rw [hk, hw]
    rfl
theorem to83 (x : Ty.T y51) (hs : Ty.short y51 x) : d83 x = true ∧ v83 x = (x.1, x.2.1, x.2.2.1, x.2.2.2.1, x.2.2.2.2.1, x.2.2.2.2.2.1, x.2.2.2.2.2.2) := by
  have h0 := to68 x.2.2.2.2.2.2 hs.2.2.2.2.2.2
  unfold d83 v83
  rw [h0.1, h0.2]
  exact ⟨rfl, rfl⟩
theorem to28 (x : Ty.T y53) (hs : Ty.short y53 x) : d28 x = true ∧ v28 x = (x.1, x.2.1, x.2.2.1, x.2.2.2.1, x.2.2.2.2.1.1, x.2.2.2.2.1.2.1, x.2.2.2.2.1.2.2.1, x.2.2.2.2.1.2.2.2.1, x.2.2.2.2.1.2.2.2.2.1, x.2.2.2.2.1.2.2.2.2.2.1, x.2.2.2.2.1.2.2.2.2.2.2, x.2.2.2.2.2.1.1, x.2.2.2.2.2.1.2, x.2.2.2.2.2.2.1.1, x.2.2.2.2.2.2.1.2.1, x.2.2.2.2.2.2.1.2.2.1, x.2.2.2.2.2.2.1.2.2.2.1, x.2.2.2.2.2.2.1.2.2.2.2.1, x.2.2.2.2.2.2.1.2.2.2.2.2.1, x.2.2.2.2.2.2.2.1, x.2.2.2.2.2.2.2.2, x.2.2.2.2.2.2.1.2.2.2.2.2.2) := by
  have h0 : True ∧ v81 x.2.2.2.2.1 = _ := ⟨trivial, to81 x.2.2.2.2.1⟩
  have h1 : True ∧ v82 x.2.2.2.2.2.1 = _ := ⟨trivial, to82 x.2.2.2.2.2.1⟩
  have h2 := to83 x.2.2.2.2.2.2.1 hs.2.2.2.2.2.2.1
  unfold d28 v28
  rw [h0.2, h1.2, h2.1, h2.2]
  exact ⟨rfl, rfl⟩
theorem to54 (x : Ty.T y102) (hs : Ty.short y102 x) : d54 x = true ∧ v54 x = (x.1, x.2.1.1, x.2.1.2.1, x.2.1.2.2.1, x.2.1.2.2.2.1, x.2.1.2.2.2.2.1.1, x.2.1.2.2.2.2.1.2.1, x.2.1.2.2.2.2.1.2.2.1, x.2.1.2.2.2.2.1.2.2.2.1, x.2.1.2.2.2.2.1.2.2.2.2.1, x.2.1.2.2.2.2.1.2.2.2.2.2.1, x.2.1.2.2.2.2.1.2.2.2.2.2.2, x.2.1.2.2.2.2.2.1.1, x.2.1.2.2.2.2.2.1.2, x.2.1.2.2.2.2.2.2.1.1, x.2.1.2.2.2.2.2.2.1.2.1, x.2.1.2.2.2.2.2.2.1.2.2.1, x.2.1.2.2.2.2.2.2.1.2.2.2.1, x.2.1.2.2.2.2.2.2.1.2.2.2.2.1, x.2.1.2.2.2.2.2.2.1.2.2.2.2.2.1, x.2.1.2.2.2.2.2.2.2.1, x.2.1.2.2.2.2.2.2.2.2, x.2.2.1, x.2.1.2.2.2.2.2.2.1.2.2.2.2.2.2, x.2.2.2) := by
  have h0 := to28 x.2.1 hs.2.1
  have h1 := to68 x.2.2.2 hs.2.2.2
  unfold d54 v54
  rw [h0.1, h0.2, h1.1, h1.2]
  exact ⟨rfl, rfl⟩
theorem eq86 (x : Ty.T y46) : v86 x x = true := by simp [v86]
theorem eq87 (x : Ty.T y48) : v87 x x = true := by simp [v87]
theorem eq110 (x : Ty.T y33) : v110 x x = true := by simp [v110]
theorem eq70 (xs : List (Ty.T y33)) (hs : Ty.short (.sl 40 y33) xs) : d70 xs xs = true ∧ v70 xs xs = true := by
  have hb := hs.1
  have h := all_iter (s := s70_0) (mk := fun i => (xs, xs, false, i, ())) (c := 1) (N := xs.length) (fun i hi => by
    skip
    simp [s70_0, t70_0, optC_some, hi, eq110, wrap_nat (n := i) (by omega)]) (by simp [s70_0, t70_0]) xs.length 0 (n70_0 (xs, xs, false, 0, ())) (by omega) (by simp [n70_0]; omega)
  have h0 : k70_0 xs xs false 0 0 = false := at_of h 0
  have h1 : k70_0 xs xs false 0 1 = true := at_of h 1
  unfold d70 v70
  rw [h0, h1]
  simp
theorem eq88 (x : Ty.T y60) (hs : Ty.short y60 x) : d88 x x = true ∧ v88 x x = true := by
  have h0 := eq70 x.2.2.2.2.2.2 hs.2.2.2.2.2.2
  unfold d88 v88
  rw [h0.1, h0.2]
  simp
theorem eq30 (x : Ty.T y62) (hs : Ty.short y62 x) : d30 x x = true ∧ v30 x x = true := by
  have h2 := eq88 x.2.2.2.2.2.2.1 hs.2.2.2.2.2.2.1
  unfold d30 v30
  rw [h2.1, h2.2, eq86, eq87]
  simp
theorem eq56 (x : Ty.T y106) (hs : Ty.short y106 x) : d56 x x = true ∧ v56 x x = true := by
  have h0 := eq30 x.2.1 hs.2.1
  have h1 := eq70 x.2.2.2 hs.2.2.2
  unfold d56 v56
  rw [h0.1, h0.2, h1.1, h1.2]
  simp
theorem markI (k : Int) (r : List Int) (hk : 0 ≤ k) (hk2 : k ≤ 1152921504606846976) (hr : r.length ≤ 1099511627776) : d21 k r = true ∧ v21 k r = (k + r.length, ramp k r.length) := by
  have h := march_iter (A := Int × List Int) (c := 0) (s := s21_0) (mk := fun a i => (a.1, 0, i, a.2, ())) (N := r.length) (Inv := fun i a => a.1 = k + i ∧ a.2 = ramp k i ++ r.drop i) (fun i a hi hI => by
    obtain ⟨k', r'⟩ := a
    obtain ⟨e1, e2⟩ := hI
    simp only at e1 e2
    subst e1; subst e2
    have hl : (ramp k i ++ r.drop i).length = r.length := by rw [List.length_append, ramp_length, List.length_drop]; omega
    refine ⟨(k + (i : Int) + 1, ramp k (i + 1) ++ r.drop (i + 1)), ?_, by simp only; omega, rfl⟩
    have h1 : i < (ramp k i ++ r.drop i).length := by omega
    have h2 : (ramp k i ++ r.drop i)[i]? = some (ramp k i ++ r.drop i)[i] := List.getElem?_eq_getElem h1
    have h3 : (i : Int) < ((ramp k i ++ r.drop i).length : Int) := by omega
    simp only [s21_0, t21_0, h3, decide_true, cond_true, if_pos (show (0 : Int) ≤ (i : Int) by omega), if_true, Int.toNat_natCast, h2, optC_some, ramp_set k r i hi]
    rw [wrap_in (n := k + (i : Int) + 1) (by omega) (by omega), wrap_nat (n := i) (by omega)]) (fun a hI => by
    obtain ⟨k', r'⟩ := a
    obtain ⟨e1, e2⟩ := hI
    simp only at e2
    have hl : r'.length = r.length := by rw [e2, List.length_append, ramp_length, List.length_drop]; omega
    simp [s21_0, t21_0, hl]) r.length 0 (k, r) (n21_0 (k, 0, 0, r, ())) (by omega) (by simp only [n21_0]; omega) ⟨by simp, by simp [ramp]⟩
  obtain ⟨⟨k', r'⟩, hi, e1, e2⟩ := h
  have ek : k21_0 k 0 0 r 0 = true := at_of hi 0
  have ew : w21_0 k 0 0 r = _ := val_of hi
  simp only at e1 e2
  unfold d21 v21
  rw [ek, ew]
  refine ⟨rfl, ?_⟩
  show (k', r') = _
  rw [e1, e2, List.drop_length, List.append_nil]
theorem heldI (k : Int) (n : Nat) (hk : 0 ≤ k) (hk2 : k ≤ 1152921504606846976) (hn : n ≤ 1099511627776) : d22 (ramp k n) k = true ∧ v22 (ramp k n) k = k + n := by
  have hl := ramp_length k n
  have h := march_iter (A := Int) (c := 1) (s := s22_0) (mk := fun a i => (ramp k n, a, 0, i, ())) (N := n) (Inv := fun i a => a = k + i) (fun i a hi hI => by
    subst hI
    have h1 := ramp_get k n i hi
    refine ⟨k + (i : Int) + 1, ?_, by omega⟩
    have h3 : (i : Int) < ((ramp k n).length : Int) := by omega
    have h4 : (k + (i : Int) != k + (i : Int)) = false := by simp
    simp only [s22_0, t22_0, h3, decide_true, cond_true, if_pos (show (0 : Int) ≤ (i : Int) by omega), Int.toNat_natCast, h1, optC_some, h4, cond_false]
    rw [wrap_in (n := k + (i : Int) + 1) (by omega) (by omega), wrap_nat (n := i) (by omega)]) (fun a hI => by simp [s22_0, t22_0, hl]) n 0 k (n22_0 (ramp k n, k, 0, 0, ())) (by omega) (by simp only [n22_0]; omega) (by simp)
  obtain ⟨k', hi, e1⟩ := h
  have e0 : k22_0 (ramp k n) k 0 0 0 = false := at_of hi 0
  have ek : k22_0 (ramp k n) k 0 0 1 = true := at_of hi 1
  have ew : w22_0 (ramp k n) k 0 0 = _ := val_of hi
  unfold d22 v22
  rw [e0, ek, ew]
  refine ⟨rfl, ?_⟩
  show k' = _
  rw [e1]
theorem same18 (xs ys : List (Ty.T (.int .i64))) (hx : xs.length ≤ 1099511627776) : d18 xs ys = true ∧ v18 xs ys = decide (xs = ys) := by
  unfold d18 v18
  by_cases hl : (xs.length : Int) = (ys.length : Int)
  · have hl' : xs.length = ys.length := by omega
    have h := find_iter (s := s18_0) (mk := fun i => (xs, ys, false, i, ())) (fin := fun i => (xs, ys, false, (i : Int), ())) (p := fun i => match xs[i]?, ys[i]? with | some x, some y => !decide (x = y) | _, _ => false) (N := xs.length) (fun i hi => by
      have h1 := List.getElem?_eq_getElem hi
      have h2 := List.getElem?_eq_getElem (l := ys) (i := i) (by omega)
      simp only [h1, h2]
      skip
      by_cases he : xs[i] = ys[i]
      · simp [s18_0, t18_0, optC_some, hi, h1, h2, he,  wrap_nat (n := i) (by omega)]
      · have hb : ((xs[i] : Int) != (ys[i] : Int)) = true := by simpa using he
        simp [s18_0, t18_0, optC_some, hi, h1, h2, he, hb,  wrap_nat (n := i) (by omega)]) (by simp [s18_0, t18_0]) xs.length 0 (n18_0 (xs, ys, false, 0, ())) (by omega) (by simp [n18_0]; omega)
    have hf := first_lists (q := fun x y => !decide (x = y)) (xs := xs) (ys := ys) (fun _ _ => rfl) hl' (p := fun i => match xs[i]?, ys[i]? with | some x, some y => !decide (x = y) | _, _ => false) (fun i x y h1 h2 => by simp only [h1, h2])
    rw [show ((xs.length : Int) != (ys.length : Int)) = false by simp [hl]]
    revert h hf
    generalize first _ 0 xs.length = o
    intro h hf
    cases o with
    | none =>
      have e0 : k18_0 xs ys false 0 0 = false := at_of h 0
      have e1 : k18_0 xs ys false 0 1 = true := at_of h 1
      rw [e0, e1, ← hf]
      exact ⟨rfl, rfl⟩
    | some j =>
      have e0 : k18_0 xs ys false 0 0 = true := at_of h 0
      have hw : w18_0 xs ys false 0 = _ := val_of h
      rw [e0, hw, ← hf]
      exact ⟨rfl, rfl⟩
  · rw [show ((xs.length : Int) != (ys.length : Int)) = true by simp [hl]]
    have : xs ≠ ys := fun e => hl (by rw [e])
    simp [this]
noncomputable def evF (l : List Int) (x : Ty.T y33) : List Int := l ++ v80 x
theorem evs (x : Ty.T y33) : v85 x = v80 x := rfl
theorem evl (x : Ty.T y33) : List.length (α := Int) (v80 x) = 7 := rfl
theorem loopS (a : Ty.T y62) (hb : a.2.2.2.2.2.2.1.2.2.2.2.2.2.length ≤ 1048576) (pre : List Int) (hp : pre.length ≤ 100) : iter s27_0 (n27_0 ([], 0, pre, a.2.2.2.2.2.2.1, a, ())) ([], 0, pre, a.2.2.2.2.2.2.1, a, ()) = some (0, ([], (a.2.2.2.2.2.2.1.2.2.2.2.2.2.length : Int), (a.2.2.2.2.2.2.1.2.2.2.2.2.2.foldl evF pre), a.2.2.2.2.2.2.1, a, ())) ∧ (a.2.2.2.2.2.2.1.2.2.2.2.2.2.foldl evF pre).length ≤ 7340132 := by
  have hlen : ∀ (l : List (Ty.T y33)) (k : List Int), (l.foldl evF k).length = k.length + 7 * l.length := by
    intro l
    induction l with
    | nil => intro k; simp
    | cons x l ih =>
      intro k
      rw [List.foldl_cons, ih]
      simp only [evF, List.length_append, evl, List.length_cons]
      omega
  refine ⟨fold_iter (s := s27_0) (mk := fun (k : List Int) i => ([], i, k, a.2.2.2.2.2.2.1, a, ())) (xs := a.2.2.2.2.2.2.1.2.2.2.2.2.2) (f := evF) (Inv := fun i k => k.length ≤ 100 + 7 * i) (fun i x k hx hI => by
    obtain ⟨hi, rfl⟩ := List.getElem?_eq_some_iff.1 hx
    have hc : (k.length + 7) * 8 ≤ 140737488351232 := by omega
    refine ⟨by simp [s27_0, t27_0, optC_some, hi, evF, evs, evl, hc, wrap_nat (n := i) (by omega)], by simp only [evF, List.length_append, evl]; omega⟩) (fun k => by simp [s27_0, t27_0]) a.2.2.2.2.2.2.1.2.2.2.2.2.2.length 0 pre (n27_0 ([], 0, pre, a.2.2.2.2.2.2.1, a, ())) (by omega) (by simp only [n27_0]; omega) (by omega), by rw [hlen]; omega⟩
theorem loopI (a : Ty.T y62) (hb : a.2.2.2.2.2.2.1.2.2.2.2.2.2.length ≤ 1048576) (pre : List Int) (hp : pre.length ≤ 100) : iter s29_0 (n29_0 ([], a.2.2.2.2.2.2.1.2.2.2.2.2.2, ((a.2.2.2.2.2.2.1.2.2.2.2.2.2).length : Int), 0, pre, a, ())) ([], a.2.2.2.2.2.2.1.2.2.2.2.2.2, ((a.2.2.2.2.2.2.1.2.2.2.2.2.2).length : Int), 0, pre, a, ()) = some (0, ([], a.2.2.2.2.2.2.1.2.2.2.2.2.2, ((a.2.2.2.2.2.2.1.2.2.2.2.2.2).length : Int), (a.2.2.2.2.2.2.1.2.2.2.2.2.2.length : Int), (a.2.2.2.2.2.2.1.2.2.2.2.2.2.foldl evF pre), a, ())) ∧ (a.2.2.2.2.2.2.1.2.2.2.2.2.2.foldl evF pre).length ≤ 7340132 := by
  have hlen : ∀ (l : List (Ty.T y33)) (k : List Int), (l.foldl evF k).length = k.length + 7 * l.length := by
    intro l
    induction l with
    | nil => intro k; simp
    | cons x l ih =>
      intro k
      rw [List.foldl_cons, ih]
      simp only [evF, List.length_append, evl, List.length_cons]
      omega
  refine ⟨fold_iter (s := s29_0) (mk := fun (k : List Int) i => ([], a.2.2.2.2.2.2.1.2.2.2.2.2.2, ((a.2.2.2.2.2.2.1.2.2.2.2.2.2).length : Int), i, k, a, ())) (xs := a.2.2.2.2.2.2.1.2.2.2.2.2.2) (f := evF) (Inv := fun i k => k.length ≤ 100 + 7 * i) (fun i x k hx hI => by
    obtain ⟨hi, rfl⟩ := List.getElem?_eq_some_iff.1 hx
    have hc : (k.length + 7) * 8 ≤ 140737488351232 := by omega
    refine ⟨by simp [s29_0, t29_0, optC_some, hi, evF, evs, evl, hc, wrap_nat (n := i) (by omega)], by simp only [evF, List.length_append, evl]; omega⟩) (fun k => by simp [s29_0, t29_0]) a.2.2.2.2.2.2.1.2.2.2.2.2.2.length 0 pre (n29_0 ([], a.2.2.2.2.2.2.1.2.2.2.2.2.2, ((a.2.2.2.2.2.2.1.2.2.2.2.2.2).length : Int), 0, pre, a, ())) (by omega) (by simp only [n29_0]; omega) (by omega), by rw [hlen]; omega⟩
theorem nums (a : Ty.T y62) (hb : a.2.2.2.2.2.2.1.2.2.2.2.2.2.length ≤ 1048576) : d27 a = true ∧ d29 a = true ∧ v29 a = v27 a ∧ (v27 a).length ≤ 7340134 := by
  have k1 : ∀ pre : List Int, pre.length ≤ 100 → k27_0 [] 0 pre a.2.2.2.2.2.2.1 a 0 = true := fun pre hp => at_of (loopS a hb pre hp).1 0
  have w1 : ∀ pre : List Int, pre.length ≤ 100 → w27_0 [] 0 pre a.2.2.2.2.2.2.1 a = ([], (a.2.2.2.2.2.2.1.2.2.2.2.2.2.length : Int), (a.2.2.2.2.2.2.1.2.2.2.2.2.2.foldl evF pre), a.2.2.2.2.2.2.1, a, ()) := fun pre hp => val_of (loopS a hb pre hp).1
  have k2 : ∀ pre : List Int, pre.length ≤ 100 → k29_0 [] a.2.2.2.2.2.2.1.2.2.2.2.2.2 ((a.2.2.2.2.2.2.1.2.2.2.2.2.2).length : Int) 0 pre a 0 = true := fun pre hp => at_of (loopI a hb pre hp).1 0
  have w2 : ∀ pre : List Int, pre.length ≤ 100 → w29_0 [] a.2.2.2.2.2.2.1.2.2.2.2.2.2 ((a.2.2.2.2.2.2.1.2.2.2.2.2.2).length : Int) 0 pre a = ([], a.2.2.2.2.2.2.1.2.2.2.2.2.2, ((a.2.2.2.2.2.2.1.2.2.2.2.2.2).length : Int), (a.2.2.2.2.2.2.1.2.2.2.2.2.2.length : Int), (a.2.2.2.2.2.2.1.2.2.2.2.2.2.foldl evF pre), a, ()) := fun pre hp => val_of (loopI a hb pre hp).1
  have len : ∀ pre : List Int, pre.length ≤ 100 → ((a.2.2.2.2.2.2.1.2.2.2.2.2.2.foldl evF pre).length) ≤ 7340132 := fun pre hp => (loopS a hb pre hp).2
  unfold d27 d29 v27 v29
  rw [k1, w1, k2, w2]
  · simp only [cond_true, Bool.and_true, List.length_append, List.length_cons, List.length_nil]
    have key : ∀ (pre : List Int) (c : Nat), pre.length ≤ 100 → c ≤ 2 → ((a.2.2.2.2.2.2.1.2.2.2.2.2.2.foldl evF pre).length + c) * 8 ≤ 140737488351232 := fun pre c hp hc => by have := len pre hp; omega
    have key2 : ∀ (pre : List Int) (c : Nat), pre.length ≤ 100 → c ≤ 2 → (a.2.2.2.2.2.2.1.2.2.2.2.2.2.foldl evF pre).length + c ≤ 7340134 := fun pre c hp hc => by have := len pre hp; omega
    exact ⟨decide_eq_true (key _ _ (by simp) (by omega)), decide_eq_true (key _ _ (by simp) (by omega)), rfl, key2 _ _ (by simp) (by omega)⟩
  all_goals simp
theorem mark71 (a1 : Int) (r0 : List (Ty.T y33)) (hk : 0 ≤ a1) (hk2 : a1 ≤ 1152921504606846976) (hr0 : r0.length ≤ 1048576) : d71 a1 r0 = true ∧ a1 ≤ (v71 a1 r0).1 ∧ (v71 a1 r0).1 ≤ a1 + 1099511627776 := by
  have h := march_iter (A := Int × List (Ty.T y33)) (c := 0) (s := s71_0) (mk := fun a i => (a.1, 0, i, a.2, ())) (N := r0.length) (Inv := fun i a => a.1 = a1 + 7 * i ∧ a.2.length = r0.length) (fun i a hi hI => by
    obtain ⟨k, r⟩ := a
    obtain ⟨e1, e2⟩ := hI
    simp only at e1 e2
    have hi' : i < r.length := by omega
    refine ⟨(k + 1 + 1 + 1 + 1 + 1 + 1 + 1, r.set i ((k, (k + 1, (k + 1 + 1, (k + 1 + 1 + 1, (k + 1 + 1 + 1 + 1, (k + 1 + 1 + 1 + 1 + 1, (Int.tmod (k + 1 + 1 + 1 + 1 + 1 + 1) 3 == 0))))))))), ?_, by simp only; omega, by simp only [List.length_set]; exact e2⟩
    simp [s71_0, t71_0, optC_some, hi', wrap_in (n := k + 1) (by omega) (by omega), wrap_in (n := k + 1 + 1) (by omega) (by omega), wrap_in (n := k + 1 + 1 + 1) (by omega) (by omega), wrap_in (n := k + 1 + 1 + 1 + 1) (by omega) (by omega), wrap_in (n := k + 1 + 1 + 1 + 1 + 1) (by omega) (by omega), wrap_in (n := k + 1 + 1 + 1 + 1 + 1 + 1) (by omega) (by omega), wrap_in (n := k + 1 + 1 + 1 + 1 + 1 + 1 + 1) (by omega) (by omega), wrap_nat (n := i) (by omega)]) (fun a hI => by
    obtain ⟨k, r⟩ := a
    obtain ⟨e1, e2⟩ := hI
    simp only at e2
    simp [s71_0, t71_0, e2]) r0.length 0 (a1, r0) (n71_0 (a1, 0, 0, r0, ())) (by omega) (by simp only [n71_0]; omega) ⟨by simp, rfl⟩
  obtain ⟨⟨k', r'⟩, hi, e1, e2⟩ := h
  have ek : k71_0 a1 0 0 r0 0 = true := at_of hi 0
  have ew : w71_0 a1 0 0 r0 = _ := val_of hi
  unfold d71 v71
  rw [ek, ew]
  simp only at e1
  refine ⟨rfl, ?_, ?_⟩
  · show a1 ≤ k'
    omega
  · show k' ≤ a1 + 1099511627776
    omega
theorem mark89 (a0_0 : Int) (a0_1 : Int) (a0_2 : Int) (a0_3 : Int) (a0_4 : Int) (a0_5 : Bool) (a1 : Int) (r6 : List (Ty.T y33)) (hk : 0 ≤ a1) (hk2 : a1 ≤ 1152921504606846976) (hr6 : r6.length ≤ 1048576) : d89 a0_0 a0_1 a0_2 a0_3 a0_4 a0_5 a1 r6 = true ∧ a1 ≤ (v89 a0_0 a0_1 a0_2 a0_3 a0_4 a0_5 a1 r6).1 ∧ (v89 a0_0 a0_1 a0_2 a0_3 a0_4 a0_5 a1 r6).1 ≤ a1 + 1099511627776 := by
  have m0 := mark71 a1 r6 (by omega) (by omega) hr6
  unfold d89 v89
  rw [m0.1]
  simp only [cond_true]
  refine ⟨trivial, ?_, ?_⟩ <;> (have := m0.2.1; have := m0.2.2; omega)
theorem mark31 (a0_0 : Int) (a0_1 : Int) (a0_2 : Int) (a0_3 : Int) (a0_4 : Int) (a0_5 : Int) (a0_6 : Int) (a0_7 : Int) (a0_8 : Int) (a0_9 : Int) (a0_10 : Int) (a0_11 : Int) (a0_12 : Int) (a0_13 : Int) (a0_14 : Int) (a0_15 : Int) (a0_16 : Int) (a0_17 : Int) (a0_18 : Bool) (a0_20 : Int) (a0_21 : Int) (a1 : Int) (r19 : List (Ty.T y33)) (hk : 0 ≤ a1) (hk2 : a1 ≤ 1152921504606846976) (hr19 : r19.length ≤ 1048576) : d31 a0_0 a0_1 a0_2 a0_3 a0_4 a0_5 a0_6 a0_7 a0_8 a0_9 a0_10 a0_11 a0_12 a0_13 a0_14 a0_15 a0_16 a0_17 a0_18 a0_20 a0_21 a1 r19 = true ∧ a1 ≤ (v31 a0_0 a0_1 a0_2 a0_3 a0_4 a0_5 a0_6 a0_7 a0_8 a0_9 a0_10 a0_11 a0_12 a0_13 a0_14 a0_15 a0_16 a0_17 a0_18 a0_20 a0_21 a1 r19).1 ∧ (v31 a0_0 a0_1 a0_2 a0_3 a0_4 a0_5 a0_6 a0_7 a0_8 a0_9 a0_10 a0_11 a0_12 a0_13 a0_14 a0_15 a0_16 a0_17 a0_18 a0_20 a0_21 a1 r19).1 ≤ a1 + 1099511627776 := by
  have m0 := mark89 a0_13 a0_14 a0_15 a0_16 a0_17 a0_18 a1 r19 (by omega) (by omega) hr19
  unfold d31 v31
  rw [m0.1]
  simp only [cond_true]
  refine ⟨trivial, ?_, ?_⟩ <;> (have := m0.2.1; have := m0.2.2; omega)
theorem mark57 (a0_0 : Int) (a0_1 : Int) (a0_2 : Int) (a0_3 : Int) (a0_4 : Int) (a0_5 : Int) (a0_6 : Int) (a0_7 : Int) (a0_8 : Int) (a0_9 : Int) (a0_10 : Int) (a0_11 : Int) (a0_12 : Int) (a0_13 : Int) (a0_14 : Int) (a0_15 : Int) (a0_16 : Int) (a0_17 : Int) (a0_18 : Int) (a0_19 : Bool) (a0_21 : Int) (a0_22 : Int) (a0_23 : Int) (a1 : Int) (r20 : List (Ty.T y33)) (r24 : List (Ty.T y33)) (hk : 0 ≤ a1) (hk2 : a1 ≤ 1152920405095219200) (hr20 : r20.length ≤ 1048576) (hr24 : r24.length ≤ 1048576) : d57 a0_0 a0_1 a0_2 a0_3 a0_4 a0_5 a0_6 a0_7 a0_8 a0_9 a0_10 a0_11 a0_12 a0_13 a0_14 a0_15 a0_16 a0_17 a0_18 a0_19 a0_21 a0_22 a0_23 a1 r20 r24 = true ∧ a1 ≤ (v57 a0_0 a0_1 a0_2 a0_3 a0_4 a0_5 a0_6 a0_7 a0_8 a0_9 a0_10 a0_11 a0_12 a0_13 a0_14 a0_15 a0_16 a0_17 a0_18 a0_19 a0_21 a0_22 a0_23 a1 r20 r24).1 ∧ (v57 a0_0 a0_1 a0_2 a0_3 a0_4 a0_5 a0_6 a0_7 a0_8 a0_9 a0_10 a0_11 a0_12 a0_13 a0_14 a0_15 a0_16 a0_17 a0_18 a0_19 a0_21 a0_22 a0_23 a1 r20 r24).1 ≤ a1 + 2199023255552 := by
  have m0 := mark31 a0_1 a0_2 a0_3 a0_4 a0_5 a0_6 a0_7 a0_8 a0_9 a0_10 a0_11 a0_12 a0_13 a0_14 a0_15 a0_16 a0_17 a0_18 a0_19 a0_21 a0_22 a1 r20 (by omega) (by omega) hr20
  have m1 := mark71 (v31 a0_1 a0_2 a0_3 a0_4 a0_5 a0_6 a0_7 a0_8 a0_9 a0_10 a0_11 a0_12 a0_13 a0_14 a0_15 a0_16 a0_17 a0_18 a0_19 a0_21 a0_22 a1 r20).1 r24 (by have := m0.2.1; have := m0.2.2; omega) (by have := m0.2.1; have := m0.2.2; omega) hr24
  unfold d57 v57
  rw [m0.1, m1.1]
  simp only [cond_true]
  refine ⟨trivial, ?_, ?_⟩ <;> (have := m0.2.1; have := m0.2.2; have := m1.2.1; have := m1.2.2; omega)
theorem loopOS (a : Ty.T y106) (hb : a.2.2.2.length ≤ 1048576) (pre : List Int) (hp : pre.length ≤ 100) : iter s53_0 (n53_0 ([], 0, pre, a, ())) ([], 0, pre, a, ()) = some (0, ([], (a.2.2.2.length : Int), (a.2.2.2.foldl evF pre), a, ())) ∧ (a.2.2.2.foldl evF pre).length ≤ 7340132 := by
  have hlen : ∀ (l : List (Ty.T y33)) (k : List Int), (l.foldl evF k).length = k.length + 7 * l.length := by
    intro l
    induction l with
    | nil => intro k; simp
    | cons x l ih =>
      intro k
      rw [List.foldl_cons, ih]
      simp only [evF, List.length_append, evl, List.length_cons]
      omega
  refine ⟨fold_iter (s := s53_0) (mk := fun (k : List Int) i => ([], i, k, a, ())) (xs := a.2.2.2) (f := evF) (Inv := fun i k => k.length ≤ 100 + 7 * i) (fun i x k hx hI => by
    obtain ⟨hi, rfl⟩ := List.getElem?_eq_some_iff.1 hx
    have hc : (k.length + 7) * 8 ≤ 140737488351232 := by omega
    refine ⟨by simp [s53_0, t53_0, optC_some, hi, evF, evs, evl, hc, wrap_nat (n := i) (by omega)], by simp only [evF, List.length_append, evl]; omega⟩) (fun k => by simp [s53_0, t53_0]) a.2.2.2.length 0 pre (n53_0 ([], 0, pre, a, ())) (by omega) (by simp only [n53_0]; omega) (by omega), by rw [hlen]; omega⟩
theorem loopOI (a : Ty.T y106) (hb : a.2.2.2.length ≤ 1048576) (pre : List Int) (hp : pre.length ≤ 100) : iter s55_0 (n55_0 ([], a.2.2.2, ((a.2.2.2).length : Int), 0, pre, ())) ([], a.2.2.2, ((a.2.2.2).length : Int), 0, pre, ()) = some (0, ([], a.2.2.2, ((a.2.2.2).length : Int), (a.2.2.2.length : Int), (a.2.2.2.foldl evF pre), ())) ∧ (a.2.2.2.foldl evF pre).length ≤ 7340132 := by
  have hlen : ∀ (l : List (Ty.T y33)) (k : List Int), (l.foldl evF k).length = k.length + 7 * l.length := by
    intro l
    induction l with
    | nil => intro k; simp
    | cons x l ih =>
      intro k
      rw [List.foldl_cons, ih]
      simp only [evF, List.length_append, evl, List.length_cons]
      omega
  refine ⟨fold_iter (s := s55_0) (mk := fun (k : List Int) i => ([], a.2.2.2, ((a.2.2.2).length : Int), i, k, ())) (xs := a.2.2.2) (f := evF) (Inv := fun i k => k.length ≤ 100 + 7 * i) (fun i x k hx hI => by
    obtain ⟨hi, rfl⟩ := List.getElem?_eq_some_iff.1 hx
    have hc : (k.length + 7) * 8 ≤ 140737488351232 := by omega
    refine ⟨by simp [s55_0, t55_0, optC_some, hi, evF, evs, evl, hc, wrap_nat (n := i) (by omega)], by simp only [evF, List.length_append, evl]; omega⟩) (fun k => by simp [s55_0, t55_0]) a.2.2.2.length 0 pre (n55_0 ([], a.2.2.2, ((a.2.2.2).length : Int), 0, pre, ())) (by omega) (by simp only [n55_0]; omega) (by omega), by rw [hlen]; omega⟩
theorem onums (a : Ty.T y106) (h1 : a.2.1.2.2.2.2.2.2.1.2.2.2.2.2.2.length ≤ 1048576) (hb : a.2.2.2.length ≤ 1048576) : d53 a = true ∧ d55 a = true ∧ v55 a = v53 a ∧ (v53 a).length ≤ 7340200 := by
  have m := nums a.2.1 h1
  have hp : (([a.1] ++ [((a.2.2.2).length : Int)]) : List Int).length ≤ 100 := by simp
  have l1 := loopOS a hb ([a.1] ++ [((a.2.2.2).length : Int)]) hp
  have l2 := loopOI a hb ([a.1] ++ [((a.2.2.2).length : Int)]) hp
  have k1 : k53_0 [] 0 ([a.1] ++ [((a.2.2.2).length : Int)]) a 0 = true := at_of l1.1 0
  have w1 : w53_0 [] 0 ([a.1] ++ [((a.2.2.2).length : Int)]) a = ([], (a.2.2.2.length : Int), (a.2.2.2.foldl evF ([a.1] ++ [((a.2.2.2).length : Int)])), a, ()) := val_of l1.1
  have k2 : k55_0 [] a.2.2.2 ((a.2.2.2).length : Int) 0 ([a.1] ++ [((a.2.2.2).length : Int)]) 0 = true := at_of l2.1 0
  have w2 : w55_0 [] a.2.2.2 ((a.2.2.2).length : Int) 0 ([a.1] ++ [((a.2.2.2).length : Int)]) = ([], a.2.2.2, ((a.2.2.2).length : Int), (a.2.2.2.length : Int), (a.2.2.2.foldl evF ([a.1] ++ [((a.2.2.2).length : Int)])), ()) := val_of l2.1
  have hl := l1.2
  unfold d53 d55 v53 v55
  rw [k1, w1, k2, w2, m.1, m.2.1, m.2.2.1]
  have hm := m.2.2.2
  revert hl hm
  generalize a.2.2.2.foldl evF ([a.1] ++ [((a.2.2.2).length : Int)]) = z
  generalize v27 a.2.1 = y
  intro hl hm
  have hl : (List.length (α := Int) z) ≤ 7340132 := hl
  have hm : (List.length (α := Int) y) ≤ 7340134 := hm
  cases (a.1 == (1 : Int)) <;> cases (a.1 == (2 : Int)) <;> cases (a.1 == (3 : Int)) <;> simp only [cond_true, cond_false, Bool.and_true, Bool.true_and, List.length_append, List.length_cons, List.length_nil, decide_eq_true_eq] <;> refine ⟨?_, ?_, ?_, ?_⟩ <;> first | rfl | trivial | omega | (simp <;> omega)
theorem law (a0 : Ty.T y102) (w0 : Ty.ok y102 a0) : d10 a0 = true ∧ v10 a0 = true := by
  unfold d10 v10
  have y0 := sz52 a0 w0 1048576 (by omega) (by omega)
  have z0 := y0
  by_cases g0 : v52 a0 1048576 < 0
  · rw [decide_eq_true g0]; exact ⟨rfl, rfl⟩
  · rw [decide_eq_false g0]
    have s0 := z0.2 (by omega)
    have t0_54 := to54 a0 s0
    have q0_56 := eq56 a0 s0
    have hb1 : a0.2.1.2.2.2.2.2.2.1.2.2.2.2.2.2.length ≤ 1048576 := s0.2.1.2.2.2.2.2.2.1.2.2.2.2.2.2.1
    have hb2 : a0.2.2.2.length ≤ 1048576 := s0.2.2.2.1
    have m := onums a0 hb1 hb2
    have q := same18 (v53 a0) (v53 a0) (by have := m.2.2.2; omega)
    have k1 : ∀ (a0_0 : Int) (a0_1 : Int) (a0_2 : Int) (a0_3 : Int) (a0_4 : Int) (a0_5 : Int) (a0_6 : Int) (a0_7 : Int) (a0_8 : Int) (a0_9 : Int) (a0_10 : Int) (a0_11 : Int) (a0_12 : Int) (a0_13 : Int) (a0_14 : Int) (a0_15 : Int) (a0_16 : Int) (a0_17 : Int) (a0_18 : Int) (a0_19 : Bool) (a0_21 : Int) (a0_22 : Int) (a0_23 : Int), d57 a0_0 a0_1 a0_2 a0_3 a0_4 a0_5 a0_6 a0_7 a0_8 a0_9 a0_10 a0_11 a0_12 a0_13 a0_14 a0_15 a0_16 a0_17 a0_18 a0_19 a0_21 a0_22 a0_23 1 a0.2.1.2.2.2.2.2.2.1.2.2.2.2.2.2 a0.2.2.2 = true := fun a0_0 a0_1 a0_2 a0_3 a0_4 a0_5 a0_6 a0_7 a0_8 a0_9 a0_10 a0_11 a0_12 a0_13 a0_14 a0_15 a0_16 a0_17 a0_18 a0_19 a0_21 a0_22 a0_23 => (mark57 a0_0 a0_1 a0_2 a0_3 a0_4 a0_5 a0_6 a0_7 a0_8 a0_9 a0_10 a0_11 a0_12 a0_13 a0_14 a0_15 a0_16 a0_17 a0_18 a0_19 a0_21 a0_22 a0_23 1 a0.2.1.2.2.2.2.2.2.1.2.2.2.2.2.2 a0.2.2.2 (by omega) (by omega) hb1 hb2).1
    have k2 : ∀ (a0_0 : Int) (a0_1 : Int) (a0_2 : Int) (a0_3 : Int) (a0_4 : Int) (a0_5 : Int) (a0_6 : Int) (a0_7 : Int) (a0_8 : Int) (a0_9 : Int) (a0_10 : Int) (a0_11 : Int) (a0_12 : Int) (a0_13 : Int) (a0_14 : Int) (a0_15 : Int) (a0_16 : Int) (a0_17 : Int) (a0_18 : Int) (a0_19 : Bool) (a0_21 : Int) (a0_22 : Int) (a0_23 : Int), decide ((v57 a0_0 a0_1 a0_2 a0_3 a0_4 a0_5 a0_6 a0_7 a0_8 a0_9 a0_10 a0_11 a0_12 a0_13 a0_14 a0_15 a0_16 a0_17 a0_18 a0_19 a0_21 a0_22 a0_23 1 a0.2.1.2.2.2.2.2.2.1.2.2.2.2.2.2 a0.2.2.2).1 < (0 : Int)) = false := fun a0_0 a0_1 a0_2 a0_3 a0_4 a0_5 a0_6 a0_7 a0_8 a0_9 a0_10 a0_11 a0_12 a0_13 a0_14 a0_15 a0_16 a0_17 a0_18 a0_19 a0_21 a0_22 a0_23 => decide_eq_false (by have := (mark57 a0_0 a0_1 a0_2 a0_3 a0_4 a0_5 a0_6 a0_7 a0_8 a0_9 a0_10 a0_11 a0_12 a0_13 a0_14 a0_15 a0_16 a0_17 a0_18 a0_19 a0_21 a0_22 a0_23 1 a0.2.1.2.2.2.2.2.2.1.2.2.2.2.2.2 a0.2.2.2 (by omega) (by omega) hb1 hb2).2.1; omega)
    have mi := markI 1 (v53 a0) (by omega) (by omega) (by have := m.2.2.2; omega)
    have hi := heldI 1 (v53 a0).length (by omega) (by omega) (by have := m.2.2.2; omega)
    simp only [t0_54.1, t0_54.2, pair_eta, q0_56.1, q0_56.2, m.1, m.2.1, m.2.2.1, q.1, q.2, k1, k2, mi.1, mi.2, hi.1, hi.2]
    simp <;> omega
end Go.Proofs.Ytnbmifoebaoemaa.Vm
namespace Go.Proofs.Ytnbmifoebaoemaa.Pure
open Go Go.Proofs.Ytnbmifoebaoemaa.Lib Go.Proofs.Ytnbmifoebaoemaa.Vm
theorem fnExactOrderNums : Go.Proofs.Ytnbmifoebaoemaa.fnExactOrderNums.Pure := fun a0 w0 => by
  have h := law a0 w0
  show cond (d10 a0) (some (f10 (v10 a0))) none = _
  rw [h.1, h.2]
  rfl
end Go.Proofs.Ytnbmifoebaoemaa.Pure
