/- FnExactLinkGain: the program and the reference answer alike. No condition. -/
import Derived.Test.YtnbmifoebaoemaaVmRowFnExactLinkGain
import Derived.Test.YtnbmifoebaoemaaVmLibTwo
namespace Go.Proofs.Ytnbmifoebaoemaa.Vm
open Go Go.Proofs.Ytnbmifoebaoemaa.Lib
set_option linter.unusedSimpArgs false
set_option linter.unusedVariables false
def SZ (r n : Int) (S : Prop) : Prop := r ≤ n ∧ (0 ≤ r → S)
theorem SZ.neg {n : Int} {S : Prop} (h0 : 0 ≤ n) : SZ (-1) n S := ⟨by omega, fun h => absurd h (by omega)⟩
theorem sz96 (x : List (Ty.T y35)) (ho : Ty.ok (.sl 36 y35) x) (n : Int) (h0 : 0 ≤ n) (h1 : n ≤ 1048576) : SZ (v96 x n) n (Ty.short (.sl 36 y35) x) := by
  have hl := ho.2
  unfold v96
  rw [wrap_in (by omega) (by omega)]
  by_cases h : n - (x.length : Int) < 0
  · rw [decide_eq_true h]; exact .neg h0
  · rw [decide_eq_false h]; exact ⟨show n - (x.length : Int) ≤ n by omega, fun _ => ⟨by omega, fun x _ => by simp [Ty.short]⟩⟩
theorem sz97 (x : List (Ty.T y163)) (ho : Ty.ok (.sl 166 y163) x) (n : Int) (h0 : 0 ≤ n) (h1 : n ≤ 1048576) : SZ (v97 x n) n (Ty.short (.sl 166 y163) x) := by
  have hl := ho.2
  unfold v97
  rw [wrap_in (by omega) (by omega)]
  by_cases h : n - (x.length : Int) < 0
  · rw [decide_eq_true h]; exact .neg h0
  · rw [decide_eq_false h]; exact ⟨show n - (x.length : Int) ≤ n by omega, fun _ => ⟨by omega, fun x _ => by simp [Ty.short]⟩⟩
theorem sz39 (x : Ty.T y77) (ho : Ty.ok y77 x) (n : Int) (h0 : 0 ≤ n) (h1 : n ≤ 1048576) : SZ (v39 x n) n (Ty.short y77 x) := by
  unfold v39
  have y0 := sz96 x.1 ho.1 n h0 h1
  have z0 := y0
  by_cases g0 : v96 x.1 n < 0
  · rw [decide_eq_true g0]; exact .neg h0
  · rw [decide_eq_false g0]
    have y1 := sz97 x.2.1 ho.2.1 (v96 x.1 n) (by omega) (by have := z0.1; omega)
    have z1 := y1
    by_cases g1 : v97 x.2.1 (v96 x.1 n) < 0
    · rw [decide_eq_true g1]; exact .neg h0
    · rw [decide_eq_false g1]
      exact ⟨show v97 x.2.1 (v96 x.1 n) ≤ n by have := z0.1; have := z1.1; omega, fun _ => ⟨(z0.2 (by omega)), ⟨(z1.2 (by omega)), (by simp [Ty.short])⟩⟩⟩
theorem sz40 (x : List (Ty.T y37)) (ho : Ty.ok (.sl 38 y37) x) (n : Int) (h0 : 0 ≤ n) (h1 : n ≤ 1048576) : SZ (v40 x n) n (Ty.short (.sl 38 y37) x) := by
  have hl := ho.2
  unfold v40
  rw [wrap_in (by omega) (by omega)]
  by_cases h : n - (x.length : Int) < 0
  · rw [decide_eq_true h]; exact .neg h0
  · rw [decide_eq_false h]; exact ⟨show n - (x.length : Int) ≤ n by omega, fun _ => ⟨by omega, fun x _ => by simp [Ty.short]⟩⟩
theorem to75 (x : Ty.T y35) : v75 x = x := rfl
theorem to101 (xs : List (Ty.T y35)) (hs : Ty.short (.sl 36 y35) xs) : d101 xs = true ∧ v101 xs = xs := by
  have hb := hs.1
  have h : ∀ (n : Nat) (hn : xs.length < n) (out : List (Ty.T y35)) (ho : out.length = xs.length), iter s101_0 n (xs, [], 0, out, ()) = some (0, (xs, [], (xs.length : Int), xs, ())) := fun n hn out ho => by
    have := map_iter (s := s101_0) (mk := fun i o => (xs, [], i, o, ())) (xs := xs) (conv := fun x => x) (fun i out x hx hl => by
      obtain ⟨hi, rfl⟩ := List.getElem?_eq_some_iff.1 hx
      skip
      simp [s101_0, t101_0, optC_some, hi, hl, to75, wrap_nat (n := i) (by omega)]) (fun out hl => by simp [s101_0, t101_0]) xs.length 0 out n (by omega) ho hn
    simpa using this
  have h := h (n101_0 (xs, [], 0, (List.replicate ((xs.length : Int)).toNat (Ty.zero y35)), ())) (by simp [n101_0]; omega) (List.replicate ((xs.length : Int)).toNat (Ty.zero y35)) (by simp)
  have hk : k101_0 xs [] 0 (List.replicate ((xs.length : Int)).toNat (Ty.zero y35)) 0 = true := at_of h 0
  have hw : w101_0 xs [] 0 (List.replicate ((xs.length : Int)).toNat (Ty.zero y35)) = (xs, [], (xs.length : Int), xs, ()) := val_of h
  constructor
  · show (_ && (_ && (cond (k101_0 xs [] 0 (List.replicate ((xs.length : Int)).toNat (Ty.zero y35)) 0) true false))) = true
    rw [hk]
    simp
    omega
  · show cond (k101_0 xs [] 0 (List.replicate ((xs.length : Int)).toNat (Ty.zero y35)) 0) (w101_0 xs [] 0 (List.replicate ((xs.length : Int)).toNat (Ty.zero y35))).2.2.2.1 [] = xs
    rw [hk, hw]
    rfl
theorem to125 (x : Ty.T y163) : v125 x = x := rfl
theorem to102 (xs : List (Ty.T y163)) (hs : Ty.short (.sl 166 y163) xs) : d102 xs = true ∧ v102 xs = xs := by
  have hb := hs.1
  have h : ∀ (n : Nat) (hn : xs.length < n) (out : List (Ty.T y163)) (ho : out.length = xs.length), iter s102_0 n (xs, [], 0, out, ()) = some (0, (xs, [], (xs.length : Int), xs, ())) := fun n hn out ho => by
    have := map_iter (s := s102_0) (mk := fun i o => (xs, [], i, o, ())) (xs := xs) (conv := fun x => x) (fun i out x hx hl => by
      obtain ⟨hi, rfl⟩ := List.getElem?_eq_some_iff.1 hx
      skip
      simp [s102_0, t102_0, optC_some, hi, hl, to125, wrap_nat (n := i) (by omega)]) (fun out hl => by simp [s102_0, t102_0]) xs.length 0 out n (by omega) ho hn
    simpa using this
  have h := h (n102_0 (xs, [], 0, (List.replicate ((xs.length : Int)).toNat (Ty.zero y163)), ())) (by simp [n102_0]; omega) (List.replicate ((xs.length : Int)).toNat (Ty.zero y163)) (by simp)
  have hk : k102_0 xs [] 0 (List.replicate ((xs.length : Int)).toNat (Ty.zero y163)) 0 = true := at_of h 0
  have hw : w102_0 xs [] 0 (List.replicate ((xs.length : Int)).toNat (Ty.zero y163)) = (xs, [], (xs.length : Int), xs, ()) := val_of h
  constructor
  · show (_ && (_ && (cond (k102_0 xs [] 0 (List.replicate ((xs.length : Int)).toNat (Ty.zero y163)) 0) true false))) = true
    rw [hk]
    simp
    omega
  · show cond (k102_0 xs [] 0 (List.replicate ((xs.length : Int)).toNat (Ty.zero y163)) 0) (w102_0 xs [] 0 (List.replicate ((xs.length : Int)).toNat (Ty.zero y163))).2.2.2.1 [] = xs
    rw [hk, hw]
    rfl
theorem to42 (x : Ty.T y77) (hs : Ty.short y77 x) : d42 x = true ∧ v42 x = (x.2.2.1, x.2.2.2, x.1, x.2.1) := by
  have h0 := to101 x.1 hs.1
  have h1 := to102 x.2.1 hs.2.1
  unfold d42 v42
  rw [h0.1, h0.2, h1.1, h1.2]
  exact ⟨rfl, rfl⟩
theorem to74 (x : Ty.T y33) : v74 x = x := rfl
theorem to24 (x : Ty.T y37) : v24 x = (x.1, (x.2.1, (x.2.2.1, (x.2.2.2.1, x.2.2.2.2)))) := rfl
theorem to43 (xs : List (Ty.T y37)) (hs : Ty.short (.sl 38 y37) xs) : d43 xs = true ∧ v43 xs = xs := by
  have hb := hs.1
  have h : ∀ (n : Nat) (hn : xs.length < n) (out : List (Ty.T y37)) (ho : out.length = xs.length), iter s43_0 n (xs, [], 0, out, ()) = some (0, (xs, [], (xs.length : Int), xs, ())) := fun n hn out ho => by
    have := map_iter (s := s43_0) (mk := fun i o => (xs, [], i, o, ())) (xs := xs) (conv := fun x => x) (fun i out x hx hl => by
      obtain ⟨hi, rfl⟩ := List.getElem?_eq_some_iff.1 hx
      skip
      simp [s43_0, t43_0, optC_some, hi, hl, to24, wrap_nat (n := i) (by omega)]) (fun out hl => by simp [s43_0, t43_0]) xs.length 0 out n (by omega) ho hn
    simpa using this
  have h := h (n43_0 (xs, [], 0, (List.replicate ((xs.length : Int)).toNat (Ty.zero y37)), ())) (by simp [n43_0]; omega) (List.replicate ((xs.length : Int)).toNat (Ty.zero y37)) (by simp)
  have hk : k43_0 xs [] 0 (List.replicate ((xs.length : Int)).toNat (Ty.zero y37)) 0 = true := at_of h 0
  have hw : w43_0 xs [] 0 (List.replicate ((xs.length : Int)).toNat (Ty.zero y37)) = (xs, [], (xs.length : Int), xs, ()) := val_of h
  constructor
  · show (_ && (_ && (cond (k43_0 xs [] 0 (List.replicate ((xs.length : Int)).toNat (Ty.zero y37)) 0) true false))) = true
    rw [hk]
    simp
    omega
  · show cond (k43_0 xs [] 0 (List.replicate ((xs.length : Int)).toNat (Ty.zero y37)) 0) (w43_0 xs [] 0 (List.replicate ((xs.length : Int)).toNat (Ty.zero y37))).2.2.2.1 [] = xs
    rw [hk, hw]
    rfl
theorem eq127 (x : Ty.T y35) : v127 x x = true := by simp [v127]
theorem eq106 (xs : List (Ty.T y35)) (hs : Ty.short (.sl 41 y35) xs) : d106 xs xs = true ∧ v106 xs xs = true := by
  have hb := hs.1
  have h := all_iter (s := s106_0) (mk := fun i => (xs, xs, false, i, ())) (c := 1) (N := xs.length) (fun i hi => by
    skip
    simp [s106_0, t106_0, optC_some, hi, eq127, wrap_nat (n := i) (by omega)]) (by simp [s106_0, t106_0]) xs.length 0 (n106_0 (xs, xs, false, 0, ())) (by omega) (by simp [n106_0]; omega)
  have h0 : k106_0 xs xs false 0 0 = false := at_of h 0
  have h1 : k106_0 xs xs false 0 1 = true := at_of h 1
  unfold d106 v106
  rw [h0, h1]
  simp
theorem eq128 (x : Ty.T y163) : v128 x x = true := by simp [v128]
theorem eq107 (xs : List (Ty.T y163)) (hs : Ty.short (.sl 164 y163) xs) : d107 xs xs = true ∧ v107 xs xs = true := by
  have hb := hs.1
  have h := all_iter (s := s107_0) (mk := fun i => (xs, xs, false, i, ())) (c := 1) (N := xs.length) (fun i hi => by
    skip
    simp [s107_0, t107_0, optC_some, hi, eq128, wrap_nat (n := i) (by omega)]) (by simp [s107_0, t107_0]) xs.length 0 (n107_0 (xs, xs, false, 0, ())) (by omega) (by simp [n107_0]; omega)
  have h0 : k107_0 xs xs false 0 0 = false := at_of h 0
  have h1 : k107_0 xs xs false 0 1 = true := at_of h 1
  unfold d107 v107
  rw [h0, h1]
  simp
theorem eq45 (x : Ty.T y85) (hs : Ty.short y85 x) : d45 x x = true ∧ v45 x x = true := by
  have h0 := eq106 x.1 hs.1
  have h1 := eq107 x.2.1 hs.2.1
  unfold d45 v45
  rw [h0.1, h0.2, h1.1, h1.2]
  simp
theorem eq110 (x : Ty.T y33) : v110 x x = true := by simp [v110]
theorem eq108 (x : Ty.T y37) : v108 x x = true := by simp [v108, eq110, eq127]
theorem eq46 (xs : List (Ty.T y37)) (hs : Ty.short (.sl 43 y37) xs) : d46 xs xs = true ∧ v46 xs xs = true := by
  have hb := hs.1
  have h := all_iter (s := s46_0) (mk := fun i => (xs, xs, false, i, ())) (c := 1) (N := xs.length) (fun i hi => by
    skip
    simp [s46_0, t46_0, optC_some, hi, eq108, wrap_nat (n := i) (by omega)]) (by simp [s46_0, t46_0]) xs.length 0 (n46_0 (xs, xs, false, 0, ())) (by omega) (by simp [n46_0]; omega)
  have h0 : k46_0 xs xs false 0 0 = false := at_of h 0
  have h1 : k46_0 xs xs false 0 1 = true := at_of h 1
  unfold d46 v46
  rw [h0, h1]
  simp
theorem pa (s : Ty.T y85) (id : Int) (hb : s.1.length ≤ 1048576) : d124 s id = true ∧ v124 s id = (match first (fun i => match s.1[i]? with | some x => (x.1 == id) | none => false) 0 s.1.length with | some j => (j : Int) | none => -1) := by
  have h := find_iter (s := s124_0) (mk := fun i => (id, 0, i, s, ())) (fin := fun i => (id, (i : Int), (i : Int), s, ())) (p := fun i => match s.1[i]? with | some x => (x.1 == id) | none => false) (N := s.1.length) (fun i hi => by
    have h1 := List.getElem?_eq_getElem hi
    simp only [h1]
    skip
    cases ht : (((s.1[i]).1 == id) : Bool) <;> simp [s124_0, t124_0, optC_some, hi, h1, ht,  wrap_nat (n := i) (by omega)]) (by simp [s124_0, t124_0]) s.1.length 0 (n124_0 (id, 0, 0, s, ())) (by omega) (by simp [n124_0]; omega)
  unfold d124 v124
  revert h
  generalize first _ 0 s.1.length = o
  intro h
  cases o with
  | none =>
    have e0 : k124_0 id 0 0 s 0 = false := at_of h 0
    have e1 : k124_0 id 0 0 s 1 = true := at_of h 1
    rw [e0, e1]
    exact ⟨rfl, rfl⟩
  | some j =>
    have e0 : k124_0 id 0 0 s 0 = true := at_of h 0
    have hw : w124_0 id 0 0 s = _ := val_of h
    rw [e0, hw]
    exact ⟨rfl, rfl⟩
theorem ia (s : List (Ty.T y35)) (id : Int) (hb : s.length ≤ 1048576) : d140c1 s id = true ∧ v140c1 s id = (match first (fun i => match s[i]? with | some x => (x.1 == id) | none => false) 0 s.length with | some j => (j : Int) | none => -1) := by
  have h := find_iter (s := s140c1_0) (mk := fun i => (s, id, 0, ((s).length : Int), i, ())) (fin := fun i => (s, id, (i : Int), ((s).length : Int), (i : Int), ())) (p := fun i => match s[i]? with | some x => (x.1 == id) | none => false) (N := s.length) (fun i hi => by
    have h1 := List.getElem?_eq_getElem hi
    simp only [h1]
    skip
    cases ht : (((s[i]).1 == id) : Bool) <;> simp [s140c1_0, t140c1_0, optC_some, hi, h1, ht, v141c1, wrap_nat (n := i) (by omega)]) (by simp [s140c1_0, t140c1_0]) s.length 0 (n140c1_0 (s, id, 0, ((s).length : Int), 0, ())) (by omega) (by simp [n140c1_0]; omega)
  unfold d140c1 v140c1
  revert h
  generalize first _ 0 s.length = o
  intro h
  cases o with
  | none =>
    have e0 : k140c1_0 s id 0 ((s).length : Int) 0 0 = false := at_of h 0
    have e1 : k140c1_0 s id 0 ((s).length : Int) 0 1 = true := at_of h 1
    rw [e0, e1]
    exact ⟨rfl, rfl⟩
  | some j =>
    have e0 : k140c1_0 s id 0 ((s).length : Int) 0 0 = true := at_of h 0
    have hw : w140c1_0 s id 0 ((s).length : Int) 0 = _ := val_of h
    rw [e0, hw]
    exact ⟨rfl, rfl⟩
theorem pi (s : Ty.T y85) (id : Int) (hb : s.1.length ≤ 1048576) : d126 s id = true ∧ v126 s id = v124 s id := by
  have h1 := pa s id hb
  have h2 := ia s.1 id hb
  unfold d126 v126
  rw [h2.1, h2.2, h1.2]
  exact ⟨rfl, rfl⟩
theorem src (s : Ty.T y85) (e : Ty.T y33) (hb : s.1.length ≤ 1048576) : d98 s e = true ∧ d103 s e = true ∧ v103 s e = v98 s e := by
  have h1 := pa s e.2.1 hb
  have h2 := pi s e.2.1 hb
  have key : d98 s e = true := by
    unfold d98
    rw [h1.1, h1.2]
    cases h : first (fun i => match s.1[i]? with | some x => (x.1 == e.2.1) | none => false) 0 s.1.length with
    | none => cases (e.1 != (1 : Int)) <;> rfl
    | some j =>
      obtain ⟨_, hj, _⟩ := first_some h
      have : s.1[j]? = some s.1[j] := List.getElem?_eq_getElem (by omega)
      cases (e.1 != (1 : Int)) <;> simp [this, optD]
  refine ⟨key, ?_, ?_⟩
  · rw [← key]
    unfold d98 d103
    rw [h1.1, h2.1, h2.2]
  · unfold v98 v103
    rw [h1.1, h2.1, h2.2]
theorem trait (p : Ty.T y35) : v104 p 1 = v99 p 1 := rfl
theorem upto_eq (x : Int) : v100 x 2147483647 = v105 x 2147483647 := by
  unfold v100 v105
  by_cases h : (2147483647 : Int) < x
  · rw [decide_eq_true h, if_pos h]; rfl
  · rw [decide_eq_false h, if_neg h]
    by_cases h2 : x < 0
    · rw [decide_eq_true h2, if_neg (by omega)]; rfl
    · rw [decide_eq_false h2]
      by_cases h3 : x > 0
      · rw [if_pos h3]; rfl
      · rw [if_neg h3]; show x = 0; omega
noncomputable def gain (s : Ty.T y85) (side : Int) (k : Int) (x : Ty.T y37) : Int := cond (x.1 == (1 : Int)) (cond (v99 (v98 s x.2.1) 1) (cond ((v98 s x.2.1).2.2.1 == side) (IntKind.wrap .i64 (k + v100 x.2.2.1 2147483647)) k) k) k
theorem gainS (s : Ty.T y85) (l : List (Ty.T y37)) (side : Int) (hb : s.1.length ≤ 1048576) (hl : l.length ≤ 1048576) : d41 s l side = true ∧ v41 s l side = l.foldl (gain s side) 0 := by
  have h := fold_iter (s := s41_0) (mk := fun (k : Int) i => (l, side, 0, k, i, s, ())) (xs := l) (f := (gain s side)) (Inv := fun _ _ => True) (fun i x k hx hI => by
    obtain ⟨hi, rfl⟩ := List.getElem?_eq_some_iff.1 hx
    refine ⟨?_, trivial⟩
    skip
    have hs := src s (l[i]).2.1 hb
    cases c1 : ((l[i]).1 == (1 : Int)) <;> cases c2 : v99 (v98 s (l[i]).2.1) 1 <;> cases c3 : ((v98 s (l[i]).2.1).2.2.1 == side) <;> simp [s41_0, t41_0, optC_some, hi, gain, hs.1, hs.2.1, hs.2.2, trait, ← upto_eq, c1, c2, c3, wrap_nat (n := i) (by omega)]) (fun k => by simp [s41_0, t41_0]) l.length 0 0 (n41_0 (l, side, 0, 0, 0, s, ())) (by omega) (by simp [n41_0]; omega) trivial
  have hk : k41_0 l side 0 0 0 s 0 = true := at_of h 0
  have hw : w41_0 l side 0 0 0 s = _ := val_of h
  unfold d41 v41
  rw [hk, hw]
  exact ⟨rfl, rfl⟩
theorem gainI (s : Ty.T y85) (l : List (Ty.T y37)) (side : Int) (hb : s.1.length ≤ 1048576) (hl : l.length ≤ 1048576) : d44 s l side = true ∧ v44 s l side = l.foldl (gain s side) 0 := by
  have h := fold_iter (s := s44_0) (mk := fun (k : Int) i => (side, 0, k, l, ((l).length : Int), i, s, ())) (xs := l) (f := (gain s side)) (Inv := fun _ _ => True) (fun i x k hx hI => by
    obtain ⟨hi, rfl⟩ := List.getElem?_eq_some_iff.1 hx
    refine ⟨?_, trivial⟩
    skip
    have hs := src s (l[i]).2.1 hb
    cases c1 : ((l[i]).1 == (1 : Int)) <;> cases c2 : v99 (v98 s (l[i]).2.1) 1 <;> cases c3 : ((v98 s (l[i]).2.1).2.2.1 == side) <;> simp [s44_0, t44_0, optC_some, hi, gain, hs.1, hs.2.1, hs.2.2, trait, ← upto_eq, c1, c2, c3, wrap_nat (n := i) (by omega)]) (fun k => by simp [s44_0, t44_0]) l.length 0 0 (n44_0 (side, 0, 0, l, ((l).length : Int), 0, s, ())) (by omega) (by simp [n44_0]; omega) trivial
  have hk : k44_0 side 0 0 l ((l).length : Int) 0 s 0 = true := at_of h 0
  have hw : w44_0 side 0 0 l ((l).length : Int) 0 s = _ := val_of h
  unfold d44 v44
  rw [hk, hw]
  exact ⟨rfl, rfl⟩
theorem both (s : Ty.T y85) (l : List (Ty.T y37)) (side : Int) (hb : s.1.length ≤ 1048576) (hl : l.length ≤ 1048576) : d41 s l side = true ∧ d44 s l side = true ∧ v44 s l side = v41 s l side := by
  have h1 := gainS s l side hb hl
  have h2 := gainI s l side hb hl
  exact ⟨h1.1, h2.1, h2.2.trans h1.2.symm⟩
theorem law (a0 : Ty.T y77) (a1 : List (Ty.T y37)) (a2 : Int) (w0 : Ty.ok y77 a0) (w1 : Ty.ok (.sl 38 y37) a1) (w2 : Ty.ok (.int .i64) a2) : d8 a0 a1 a2 = true ∧ v8 a0 a1 a2 = true := by
  unfold d8 v8
  have y0 := sz39 a0 w0 1048576 (by omega) (by omega)
  have z0 := y0
  by_cases g0 : v39 a0 1048576 < 0
  · rw [decide_eq_true g0]; exact ⟨rfl, rfl⟩
  · rw [decide_eq_false g0]
    have s0 := z0.2 (by omega)
    have y1 := sz40 a1 w1 (v39 a0 1048576) (by omega) (by have := z0.1; omega)
    have z1 := y1
    by_cases g1 : v40 a1 (v39 a0 1048576) < 0
    · rw [decide_eq_true g1]; exact ⟨rfl, rfl⟩
    · rw [decide_eq_false g1]
      have s1 := z1.2 (by omega)
      have s2 : Ty.short (.int .i64) a2 := by simp [Ty.short]
      have t0_42 := to42 a0 s0
      have q0_45 := eq45 a0 s0
      have t1_43 := to43 a1 s1
      have e1_43 : v43 a1 = a1 := t1_43.2
      have q1_46 := eq46 a1 s1
      have m : d41 (a0.1, a0.2.1, a0.2.2.1, a0.2.2.2) a1 a2 = true ∧ d44 (a0.1, a0.2.1, a0.2.2.1, a0.2.2.2) a1 a2 = true ∧ v44 (a0.1, a0.2.1, a0.2.2.1, a0.2.2.2) a1 a2 = v41 (a0.1, a0.2.1, a0.2.2.1, a0.2.2.2) a1 a2 := both a0 a1 a2 s0.1.1 s1.1
      simp only [t0_42.1, t0_42.2, q0_45.1, q0_45.2, t1_43.1, e1_43, q1_46.1, q1_46.2, m.1, m.2.1, m.2.2]
      simp
end Go.Proofs.Ytnbmifoebaoemaa.Vm
namespace Go.Proofs.Ytnbmifoebaoemaa.Pure
open Go Go.Proofs.Ytnbmifoebaoemaa.Lib Go.Proofs.Ytnbmifoebaoemaa.Vm
theorem fnExactLinkGain : Go.Proofs.Ytnbmifoebaoemaa.fnExactLinkGain.Pure := fun a0 a1 a2 w0 w1 w2 => by
  have h := law a0 a1 a2 w0 w1 w2
  show cond (d8 a0 a1 a2) (some (f8 (v8 a0 a1 a2))) none = _
  rw [h.1, h.2]
  rfl
end Go.Proofs.Ytnbmifoebaoemaa.Pure
