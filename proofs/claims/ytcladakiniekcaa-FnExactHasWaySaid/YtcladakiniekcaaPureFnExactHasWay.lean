/- FnExactHasWay: the program and the reference answer alike. No condition. -/
import Derived.Test.YtcladakiniekcaaVmRowFnExactHasWay
import Derived.Test.YtcladakiniekcaaVmLibTwo
namespace Go.Proofs.Ytcladakiniekcaa.Vm
open Go Go.Proofs.Ytcladakiniekcaa.Lib
set_option linter.unusedSimpArgs false
set_option linter.unusedVariables false
def SZ (r n : Int) (S : Prop) : Prop := r ≤ n ∧ (0 ≤ r → S)
theorem SZ.neg {n : Int} {S : Prop} (h0 : 0 ≤ n) : SZ (-1) n S := ⟨by omega, fun h => absurd h (by omega)⟩
theorem sz54 (x : List (Ty.T (.int .i64))) (ho : Ty.ok (.sl 3 (.int .i64)) x) (n : Int) (h0 : 0 ≤ n) (h1 : n ≤ 1048576) : SZ (v54 x n) n (Ty.short (.sl 3 (.int .i64)) x) := by
  have hl := ho.2
  unfold v54
  rw [wrap_in (by omega) (by omega)]
  by_cases h : n - (x.length : Int) < 0
  · rw [decide_eq_true h]; exact .neg h0
  · rw [decide_eq_false h]; exact ⟨show n - (x.length : Int) ≤ n by omega, fun _ => ⟨by omega, fun x _ => by simp [Ty.short]⟩⟩
theorem sz8 (xs : List (Ty.T (.sl 3 (.int .i64)))) (ho : Ty.ok (.sl 23 (.sl 3 (.int .i64))) xs) (n : Int) (h0 : 0 ≤ n) (h1 : n ≤ 1048576) : d8 xs n = true ∧ SZ (v8 xs n) n (Ty.short (.sl 23 (.sl 3 (.int .i64))) xs) := by
  have hl := ho.2
  unfold d8 v8
  rw [wrap_in (n := n - (xs.length : Int)) (by omega) (by omega)]
  by_cases h : n - (xs.length : Int) < 0
  · rw [decide_eq_true h]; exact ⟨rfl, .neg h0⟩
  · rw [decide_eq_false h]
    have key := sz_iter (s := s8_0) (mk := fun n r i => (xs, n, r, i, ())) (xs := xs) (g := v54) (S := Ty.short (.sl 3 (.int .i64))) (B := 1048576) (fun x hx n h0 h1 => sz54 x (ho.1 x hx) n h0 h1) (fun i x n r hn0 hn1 hx => by
      have hxm : x ∈ xs := List.mem_of_getElem? hx
      obtain ⟨hi, rfl⟩ := List.getElem?_eq_some_iff.1 hx
      skip
      simp [s8_0, t8_0, optC_some, hi,  wrap_nat (n := i) (by omega), Bool.cond_decide]) (fun n r => by simp [s8_0, t8_0]) xs.length 0 (n - (xs.length : Int)) 0 (n8_0 (xs, n - (xs.length : Int), 0, 0, ())) (by omega) (by simp [n8_0]; omega) (by omega) (by omega)
    rcases key with ⟨n', i', hk⟩ | ⟨n', hk, g0, g1, g2⟩
    · have e0 : k8_0 xs (n - (xs.length : Int)) 0 0 0 = true := at_of hk 0
      have ew : w8_0 xs (n - (xs.length : Int)) 0 0 = (xs, n', -1, i', ()) := val_of hk
      rw [e0, ew]
      exact ⟨rfl, .neg h0⟩
    · have e0 : k8_0 xs (n - (xs.length : Int)) 0 0 0 = false := at_of hk 0
      have e1 : k8_0 xs (n - (xs.length : Int)) 0 0 1 = true := at_of hk 1
      have ew : w8_0 xs (n - (xs.length : Int)) 0 0 = (xs, n', 0, (xs.length : Int), ()) := val_of hk
      rw [e0, e1, ew]
      refine ⟨rfl, ?_, fun _ => ⟨by omega, fun x hx => ?_⟩⟩
      · show n' ≤ n
        omega
      · obtain ⟨j, hj⟩ := List.getElem?_of_mem hx
        exact g2 j x (Nat.zero_le _) hj
theorem to11 (xs : List (Int)) (hs : Ty.short (.sl 3 (.int .i64)) xs) : d11 xs = true ∧ v11 xs = xs := by
  have hb := hs.1
  have h : ∀ (n : Nat) (hn : xs.length < n) (out : List (Int)) (ho : out.length = xs.length), iter s11_0 n (xs, [], 0, out, ()) = some (0, (xs, [], (xs.length : Int), xs, ())) := fun n hn out ho => by
    have := map_iter (s := s11_0) (mk := fun i o => (xs, [], i, o, ())) (xs := xs) (conv := fun x => x) (fun i out x hx hl => by
      obtain ⟨hi, rfl⟩ := List.getElem?_eq_some_iff.1 hx
      skip
      simp [s11_0, t11_0, optC_some, hi, hl,  wrap_nat (n := i) (by omega)]) (fun out hl => by simp [s11_0, t11_0]) xs.length 0 out n (by omega) ho hn
    simpa using this
  have h := h (n11_0 (xs, [], 0, (List.replicate ((xs.length : Int)).toNat (Ty.zero (.int .i64))), ())) (by simp [n11_0]; omega) (List.replicate ((xs.length : Int)).toNat (Ty.zero (.int .i64))) (by simp)
  have hk : k11_0 xs [] 0 (List.replicate ((xs.length : Int)).toNat (Ty.zero (.int .i64))) 0 = true := at_of h 0
  have hw : w11_0 xs [] 0 (List.replicate ((xs.length : Int)).toNat (Ty.zero (.int .i64))) = (xs, [], (xs.length : Int), xs, ()) := val_of h
  constructor
  · show (_ && (_ && (cond (k11_0 xs [] 0 (List.replicate ((xs.length : Int)).toNat (Ty.zero (.int .i64))) 0) true false))) = true
    rw [hk]
    simp
    omega
  · show cond (k11_0 xs [] 0 (List.replicate ((xs.length : Int)).toNat (Ty.zero (.int .i64))) 0) (w11_0 xs [] 0 (List.replicate ((xs.length : Int)).toNat (Ty.zero (.int .i64)))).2.2.2.1 [] = xs
    rw [hk, hw]
    rfl
theorem to10 (xs : List (List (Ty.T (.int .i64)))) (hs : Ty.short (.sl 23 (.sl 3 (.int .i64))) xs) : d10 xs = true ∧ v10 xs = xs := by
  have hb := hs.1
  have h : ∀ (n : Nat) (hn : xs.length < n) (out : List (List (Ty.T (.int .i64)))) (ho : out.length = xs.length), iter s10_0 n (xs, [], 0, out, ()) = some (0, (xs, [], (xs.length : Int), xs, ())) := fun n hn out ho => by
    have := map_iter (s := s10_0) (mk := fun i o => (xs, [], i, o, ())) (xs := xs) (conv := fun x => x) (fun i out x hx hl => by
      obtain ⟨hi, rfl⟩ := List.getElem?_eq_some_iff.1 hx
      have h0 := to11 xs[i] (hs.2 _ (List.getElem_mem hi))
      simp [s10_0, t10_0, optC_some, hi, hl, h0.1, h0.2, wrap_nat (n := i) (by omega)]) (fun out hl => by simp [s10_0, t10_0]) xs.length 0 out n (by omega) ho hn
    simpa using this
  have h := h (n10_0 (xs, [], 0, (List.replicate ((xs.length : Int)).toNat (Ty.zero (.sl 3 (.int .i64)))), ())) (by simp [n10_0]; omega) (List.replicate ((xs.length : Int)).toNat (Ty.zero (.sl 3 (.int .i64)))) (by simp)
  have hk : k10_0 xs [] 0 (List.replicate ((xs.length : Int)).toNat (Ty.zero (.sl 3 (.int .i64)))) 0 = true := at_of h 0
  have hw : w10_0 xs [] 0 (List.replicate ((xs.length : Int)).toNat (Ty.zero (.sl 3 (.int .i64)))) = (xs, [], (xs.length : Int), xs, ()) := val_of h
  constructor
  · show (_ && (_ && (cond (k10_0 xs [] 0 (List.replicate ((xs.length : Int)).toNat (Ty.zero (.sl 3 (.int .i64)))) 0) true false))) = true
    rw [hk]
    simp
    omega
  · show cond (k10_0 xs [] 0 (List.replicate ((xs.length : Int)).toNat (Ty.zero (.sl 3 (.int .i64)))) 0) (w10_0 xs [] 0 (List.replicate ((xs.length : Int)).toNat (Ty.zero (.sl 3 (.int .i64))))).2.2.2.1 [] = xs
    rw [hk, hw]
    rfl
theorem eq14 (xs : List (Int)) (hs : Ty.short (.sl 3 (.int .i64)) xs) : d14 xs xs = true ∧ v14 xs xs = true := by
  have hb := hs.1
  have h := all_iter (s := s14_0) (mk := fun i => (xs, xs, false, i, ())) (c := 1) (N := xs.length) (fun i hi => by
    skip
    simp [s14_0, t14_0, optC_some, hi,  wrap_nat (n := i) (by omega)]) (by simp [s14_0, t14_0]) xs.length 0 (n14_0 (xs, xs, false, 0, ())) (by omega) (by simp [n14_0]; omega)
  have h0 : k14_0 xs xs false 0 0 = false := at_of h 0
  have h1 : k14_0 xs xs false 0 1 = true := at_of h 1
  unfold d14 v14
  rw [h0, h1]
  simp
theorem eq13 (xs : List (List (Ty.T (.int .i64)))) (hs : Ty.short (.sl 23 (.sl 3 (.int .i64))) xs) : d13 xs xs = true ∧ v13 xs xs = true := by
  have hb := hs.1
  have h := all_iter (s := s13_0) (mk := fun i => (xs, xs, false, i, ())) (c := 1) (N := xs.length) (fun i hi => by
    have h0 := eq14 xs[i] (hs.2 _ (List.getElem_mem hi))
    simp [s13_0, t13_0, optC_some, hi, h0.1, h0.2, wrap_nat (n := i) (by omega)]) (by simp [s13_0, t13_0]) xs.length 0 (n13_0 (xs, xs, false, 0, ())) (by omega) (by simp [n13_0]; omega)
  have h0 : k13_0 xs xs false 0 0 = false := at_of h 0
  have h1 : k13_0 xs xs false 0 1 = true := at_of h 1
  unfold d13 v13
  rw [h0, h1]
  simp
theorem same55 (xs ys : List (Ty.T (.int .i64))) (hx : xs.length ≤ 1048576) : d55 xs ys = true ∧ v55 xs ys = decide (xs = ys) := by
  unfold d55 v55
  by_cases hl : (xs.length : Int) = (ys.length : Int)
  · have hl' : xs.length = ys.length := by omega
    have h := find_iter (s := s55_0) (mk := fun i => (xs, ys, false, i, ())) (fin := fun i => (xs, ys, false, (i : Int), ())) (p := fun i => match xs[i]?, ys[i]? with | some x, some y => !decide (x = y) | _, _ => false) (N := xs.length) (fun i hi => by
      have h1 := List.getElem?_eq_getElem hi
      have h2 := List.getElem?_eq_getElem (l := ys) (i := i) (by omega)
      simp only [h1, h2]
      skip
      by_cases he : xs[i] = ys[i]
      · simp [s55_0, t55_0, optC_some, hi, h1, h2, he,  wrap_nat (n := i) (by omega)]
      · have hb : ((xs[i] : Int) != (ys[i] : Int)) = true := by simpa using he
        simp [s55_0, t55_0, optC_some, hi, h1, h2, he, hb,  wrap_nat (n := i) (by omega)]) (by simp [s55_0, t55_0]) xs.length 0 (n55_0 (xs, ys, false, 0, ())) (by omega) (by simp [n55_0]; omega)
    have hf := first_lists (q := fun x y => !decide (x = y)) (xs := xs) (ys := ys) (fun _ _ => rfl) hl' (p := fun i => match xs[i]?, ys[i]? with | some x, some y => !decide (x = y) | _, _ => false) (fun i x y h1 h2 => by simp only [h1, h2])
    rw [show ((xs.length : Int) != (ys.length : Int)) = false by simp [hl]]
    revert h hf
    generalize first _ 0 xs.length = o
    intro h hf
    cases o with
    | none =>
      have e0 : k55_0 xs ys false 0 0 = false := at_of h 0
      have e1 : k55_0 xs ys false 0 1 = true := at_of h 1
      rw [e0, e1, ← hf]
      exact ⟨rfl, rfl⟩
    | some j =>
      have e0 : k55_0 xs ys false 0 0 = true := at_of h 0
      have hw : w55_0 xs ys false 0 = _ := val_of h
      rw [e0, hw, ← hf]
      exact ⟨rfl, rfl⟩
  · rw [show ((xs.length : Int) != (ys.length : Int)) = true by simp [hl]]
    have : xs ≠ ys := fun e => hl (by rw [e])
    simp [this]
theorem same58 (xs ys : List (Ty.T (.int .i64))) (hx : xs.length ≤ 1048576) : d58 xs ys = true ∧ v58 xs ys = decide (xs = ys) := by
  unfold d58 v58
  by_cases hl : (xs.length : Int) = (ys.length : Int)
  · have hl' : xs.length = ys.length := by omega
    have h := find_iter (s := s58_0) (mk := fun i => (xs, ys, false, ((xs).length : Int), i, ())) (fin := fun i => (xs, ys, false, ((xs).length : Int), (i : Int), ())) (p := fun i => match xs[i]?, ys[i]? with | some x, some y => !decide (x = y) | _, _ => false) (N := xs.length) (fun i hi => by
      have h1 := List.getElem?_eq_getElem hi
      have h2 := List.getElem?_eq_getElem (l := ys) (i := i) (by omega)
      simp only [h1, h2]
      skip
      by_cases he : xs[i] = ys[i]
      · simp [s58_0, t58_0, optC_some, hi, h1, h2, he,  wrap_nat (n := i) (by omega)]
      · have hb : ((xs[i] : Int) != (ys[i] : Int)) = true := by simpa using he
        simp [s58_0, t58_0, optC_some, hi, h1, h2, he, hb,  wrap_nat (n := i) (by omega)]) (by simp [s58_0, t58_0]) xs.length 0 (n58_0 (xs, ys, false, ((xs).length : Int), 0, ())) (by omega) (by simp [n58_0]; omega)
    have hf := first_lists (q := fun x y => !decide (x = y)) (xs := xs) (ys := ys) (fun _ _ => rfl) hl' (p := fun i => match xs[i]?, ys[i]? with | some x, some y => !decide (x = y) | _, _ => false) (fun i x y h1 h2 => by simp only [h1, h2])
    rw [show ((xs.length : Int) != (ys.length : Int)) = false by simp [hl]]
    revert h hf
    generalize first _ 0 xs.length = o
    intro h hf
    cases o with
    | none =>
      have e0 : k58_0 xs ys false ((xs).length : Int) 0 0 = false := at_of h 0
      have e1 : k58_0 xs ys false ((xs).length : Int) 0 1 = true := at_of h 1
      rw [e0, e1, ← hf]
      exact ⟨rfl, rfl⟩
    | some j =>
      have e0 : k58_0 xs ys false ((xs).length : Int) 0 0 = true := at_of h 0
      have hw : w58_0 xs ys false ((xs).length : Int) 0 = _ := val_of h
      rw [e0, hw, ← hf]
      exact ⟨rfl, rfl⟩
  · rw [show ((xs.length : Int) != (ys.length : Int)) = true by simp [hl]]
    have : xs ≠ ys := fun e => hl (by rw [e])
    simp [this]
theorem specWay (l : List (Ty.T (.sl 3 (.int .i64)))) (cs : List (Ty.T (.int .i64))) (hs : Ty.short (.sl 23 (.sl 3 (.int .i64))) l) : d9 l cs = true ∧ v9 l cs = l.any (fun x => decide (x = cs)) := by
  have h := find_iter (s := s9_0) (mk := fun i => (l, cs, false, i, ())) (fin := fun i => (l, cs, true, (i : Int), ())) (p := fun i => match l[i]? with | some x => decide (x = cs) | none => false) (N := l.length) (fun i hi => by
    have h1 := List.getElem?_eq_getElem hi
    simp only [h1]
    have hb := hs.1
    have hq := same55 l[i] cs (hs.2 _ (List.getElem_mem hi)).1
    cases ht : decide (l[i] = cs) <;> simp [s9_0, t9_0, optC_some, hi, h1, ht, hq.1, hq.2, wrap_nat (n := i) (by omega)]) (by simp [s9_0, t9_0]) l.length 0 (n9_0 (l, cs, false, 0, ())) (by omega) (by simp [n9_0]; omega)
  have hf := first_any (p := fun x => decide (x = cs)) (xs := l) (q := fun i => match l[i]? with | some x => decide (x = cs) | none => false) (fun i x h1 => by simp only [h1])
  unfold d9 v9
  revert h hf
  generalize first _ 0 l.length = o
  intro h hf
  cases o with
  | none =>
    have e0 : k9_0 l cs false 0 0 = false := at_of h 0
    have e1 : k9_0 l cs false 0 1 = true := at_of h 1
    rw [e0, e1, ← hf]
    exact ⟨rfl, rfl⟩
  | some j =>
    have e0 : k9_0 l cs false 0 0 = true := at_of h 0
    have hw : w9_0 l cs false 0 = _ := val_of h
    rw [e0, hw, ← hf]
    exact ⟨rfl, rfl⟩
theorem clo (x cs : List (Ty.T (.int .i64))) (hx : x.length ≤ 1048576) : d57c1 x cs = true ∧ v57c1 x cs = decide (x = cs) := by
  have h := same58 x cs hx
  unfold d57c1 v57c1
  rw [h.1, h.2]
  exact ⟨rfl, rfl⟩
theorem implIdx (l : List (Ty.T (.sl 3 (.int .i64)))) (cs : List (Ty.T (.int .i64))) (hs : Ty.short (.sl 23 (.sl 3 (.int .i64))) l) : d104c1 l cs = true ∧ decide (v104c1 l cs ≥ 0) = l.any (fun x => decide (x = cs)) := by
  have hb := hs.1
  have h := find_iter (s := s104c1_0) (mk := fun i => (l, cs, 0, ((l).length : Int), i, ())) (fin := fun i => (l, cs, (i : Int), ((l).length : Int), (i : Int), ())) (p := fun i => match l[i]? with | some x => decide (x = cs) | none => false) (N := l.length) (fun i hi => by
    have h1 := List.getElem?_eq_getElem hi
    simp only [h1]
    have hq := clo l[i] cs (hs.2 _ (List.getElem_mem hi)).1
    cases ht : decide (l[i] = cs) <;> simp [s104c1_0, t104c1_0, optC_some, hi, h1, ht, hq.1, hq.2, wrap_nat (n := i) (by omega)]) (by simp [s104c1_0, t104c1_0]) l.length 0 (n104c1_0 (l, cs, 0, ((l).length : Int), 0, ())) (by omega) (by simp [n104c1_0]; omega)
  have hf := first_any (p := fun x => decide (x = cs)) (xs := l) (q := fun i => match l[i]? with | some x => decide (x = cs) | none => false) (fun i x h1 => by simp only [h1])
  unfold d104c1 v104c1
  revert h hf
  generalize first _ 0 l.length = o
  intro h hf
  cases o with
  | none =>
    have e0 : k104c1_0 l cs 0 ((l).length : Int) 0 0 = false := at_of h 0
    have e1 : k104c1_0 l cs 0 ((l).length : Int) 0 1 = true := at_of h 1
    rw [e0, e1, ← hf]
    exact ⟨rfl, rfl⟩
  | some j =>
    have e0 : k104c1_0 l cs 0 ((l).length : Int) 0 0 = true := at_of h 0
    have hw : w104c1_0 l cs 0 ((l).length : Int) 0 = _ := val_of h
    rw [e0, hw, ← hf]
    exact ⟨rfl, decide_eq_true (show ((j : Int)) ≥ 0 by omega)⟩
theorem both (l : List (Ty.T (.sl 3 (.int .i64)))) (cs : List (Ty.T (.int .i64))) (hs : Ty.short (.sl 23 (.sl 3 (.int .i64))) l) : d9 l cs = true ∧ d12 l cs = true ∧ v12 l cs = v9 l cs := by
  have h := specWay l cs hs
  have h2 := implIdx l cs hs
  have h3 : d56c1 l cs = true ∧ v56c1 l cs = l.any (fun x => decide (x = cs)) := by
    unfold d56c1 v56c1
    rw [h2.1, h2.2]
    exact ⟨rfl, rfl⟩
  unfold d12 v12
  rw [h.1, h.2, h3.1, h3.2]
  exact ⟨rfl, rfl, rfl⟩
theorem law (a0 : List (Ty.T (.sl 3 (.int .i64)))) (a1 : List (Ty.T (.int .i64))) (w0 : Ty.ok (.sl 23 (.sl 3 (.int .i64))) a0) (w1 : Ty.ok (.sl 3 (.int .i64)) a1) : d3 a0 a1 = true ∧ v3 a0 a1 = true := by
  unfold d3 v3
  by_cases b1 : (a1.length : Int) > 1048576
  · rw [decide_eq_true b1]; exact ⟨rfl, rfl⟩
  · rw [decide_eq_false b1]
    have s1 : Ty.short (.sl 3 (.int .i64)) a1 := ⟨by omega, fun _ _ => by simp [Ty.short]⟩
    have y0 := sz8 a0 w0 1048576 (by omega) (by omega)
    rw [y0.1]
    have z0 := y0.2
    by_cases g0 : v8 a0 1048576 < 0
    · rw [decide_eq_true g0]; exact ⟨rfl, rfl⟩
    · rw [decide_eq_false g0]
      have s0 := z0.2 (by omega)
      have t0_10 := to10 a0 s0
      have e0_10 : v10 a0 = a0 := t0_10.2
      have q0_13 := eq13 a0 s0
      have t1_11 := to11 a1 s1
      have e1_11 : v11 a1 = a1 := t1_11.2
      have q1_14 := eq14 a1 s1
      have m := both a0 a1 s0
      simp only [t0_10.1, e0_10, q0_13.1, q0_13.2, t1_11.1, e1_11, q1_14.1, q1_14.2, m.1, m.2.1, m.2.2]
      simp
end Go.Proofs.Ytcladakiniekcaa.Vm
namespace Go.Proofs.Ytcladakiniekcaa.Pure
open Go Go.Proofs.Ytcladakiniekcaa.Lib Go.Proofs.Ytcladakiniekcaa.Vm
theorem fnExactHasWay : Go.Proofs.Ytcladakiniekcaa.fnExactHasWay.Pure := fun a0 a1 w0 w1 => by
  have h := law a0 a1 w0 w1
  show cond (d3 a0 a1) (some (f3 (v3 a0 a1))) none = _
  rw [h.1, h.2]
  rfl
end Go.Proofs.Ytcladakiniekcaa.Pure
