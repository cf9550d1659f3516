/- FnInBounds: the law holds of the plain functions that the contracts name. No condition. -/
import Derived.Test.YtahlaccdpmddbaaGreatVmRowFnInBounds
import Derived.Test.YtahlaccdpmddbaaGreatVmLibThree
namespace Go.Proofs.YtahlaccdpmddbaaGreat.Vm
open Go Go.Proofs.YtahlaccdpmddbaaGreat.Lib
set_option maxRecDepth 100000
set_option linter.unusedVariables false
set_option linter.unusedSimpArgs false
theorem evOk' (a : Int) (b : Int) (c : Int) (d : Int) (n : Int) (z : Int) (t : Bool) : v53 ((a, b, c, d, n, z, t) : Ty.T y27) = v157 ((a, b, c, d, n, z, t) : Ty.T y27) := by
  simp only [v53, t53, v157, t157, v239, v165, v159, v160, v161, v164, v162, v163]
  dsimp only [Ty.T]
  have cc : ∀ (p q r : Bool), cond p q r = true ↔ (p = true /\ q = true) ∨ (p = false /\ r = true) := by decide
  have cf : ∀ (p q r : Bool), cond p q r = false ↔ (p = true /\ q = false) ∨ (p = false /\ r = false) := by decide
  by_cases h1 : a = 1
  · subst h1; rw [Bool.eq_iff_iff]; cases t <;> simp [cc, cf, *] <;> omega
  by_cases h2 : a = 2
  · subst h2; rw [Bool.eq_iff_iff]; cases t <;> simp [cc, cf, *] <;> omega
  by_cases h3 : a = 3
  · subst h3; rw [Bool.eq_iff_iff]; cases t <;> simp [cc, cf, *] <;> omega
  by_cases h4 : a = 4
  · subst h4; rw [Bool.eq_iff_iff]; cases t <;> simp [cc, cf, *] <;> omega
  by_cases h5 : a = 5
  · subst h5; rw [Bool.eq_iff_iff]; cases t <;> simp [cc, cf, *] <;> omega
  by_cases h6 : a = 6
  · subst h6; rw [Bool.eq_iff_iff]; cases t <;> simp [cc, cf, *] <;> omega
  rw [Bool.eq_iff_iff]; cases t <;> simp [cc, cf, *] <;> omega
theorem evOk (e : Ty.T y27) : v53 e = v157 e := by
  obtain ⟨a, b, c, d, n, z, t⟩ := e
  exact evOk' a b c d n z t
theorem evNo' (a b c d z : Int) (t : Bool) : v157 ((a, b, c, d, -1, z, t) : Ty.T y27) = false := by
  simp only [v157, t157, v239]
  dsimp only [Ty.T]
  have cc : ∀ (p q r : Bool), cond p q r = true ↔ (p = true /\ q = true) ∨ (p = false /\ r = true) := by decide
  have cf : ∀ (p q r : Bool), cond p q r = false ↔ (p = true /\ q = false) ∨ (p = false /\ r = false) := by decide
  cases t <;> simp [cc, cf]
theorem partOk (e : Ty.T y27) : v322 e = v328 e := by
  obtain ⟨a, b, c, d, n, z, t⟩ := e
  have h := evNo' a b c d z t
  simp only [v322, v328, evOk]
  by_cases hn : n = (-1 : Int)
  · subst hn
    rw [h]
    cases (a == (2 : Int)) <;> simp [bne, *]
  · have h1 : (n == (-1 : Int)) = false := by simpa using hn
    simp only [h1]
    cases (v157 (a, b, c, d, n, z, t)) <;> cases (a == (2 : Int)) <;> simp [bne, *]
theorem patOk' (k : Int) (w : Int) (s : Int) (p : Int) (l : Int) (t : Int) (z : Int) : v283 ((k, w, s, p, l, t, z) : Ty.T y102) = v297 ((k, w, s, p, l, t, z) : Ty.T y102) := by
  simp only [v283, t283, v297, t297, v239, v165, v159, v320, v250]
  dsimp only [Ty.T]
  have cc : ∀ (p q r : Bool), cond p q r = true ↔ (p = true /\ q = true) ∨ (p = false /\ r = true) := by decide
  have cf : ∀ (p q r : Bool), cond p q r = false ↔ (p = true /\ q = false) ∨ (p = false /\ r = false) := by decide
  by_cases h1 : k = 1
  · subst h1; rw [Bool.eq_iff_iff]; simp [cc, cf, *] <;> omega
  by_cases h2 : k = 2
  · subst h2; rw [Bool.eq_iff_iff]; simp [cc, cf, *] <;> omega
  by_cases h3 : k = 3
  · subst h3; rw [Bool.eq_iff_iff]; simp [cc, cf, *] <;> omega
  by_cases h4 : k = 4
  · subst h4; rw [Bool.eq_iff_iff]; simp [cc, cf, *] <;> omega
  by_cases h5 : k = 5
  · subst h5; rw [Bool.eq_iff_iff]; simp [cc, cf, *] <;> omega
  by_cases h6 : k = 6
  · subst h6; rw [Bool.eq_iff_iff]; simp [cc, cf, *] <;> omega
  rw [Bool.eq_iff_iff]; simp [cc, cf, *] <;> omega
theorem patOk (e : Ty.T y102) : v283 e = v297 e := by
  obtain ⟨k, w, s, p, l, t, z⟩ := e
  exact patOk' k w s p l t z
theorem guardOk' (k : Int) (n : Int) : v284 ((k, n) : Ty.T y104) = v298 ((k, n) : Ty.T y104) := by
  simp only [v284, t284, v298, t298, v239, v165, v173]
  dsimp only [Ty.T]
  have cc : ∀ (p q r : Bool), cond p q r = true ↔ (p = true /\ q = true) ∨ (p = false /\ r = true) := by decide
  have cf : ∀ (p q r : Bool), cond p q r = false ↔ (p = true /\ q = false) ∨ (p = false /\ r = false) := by decide
  by_cases h0 : k = 0
  · subst h0; rw [Bool.eq_iff_iff]; simp [cc, cf, *] <;> omega
  by_cases h1 : k = 1
  · subst h1; rw [Bool.eq_iff_iff]; simp [cc, cf, *] <;> omega
  by_cases h2 : k = 2
  · subst h2; rw [Bool.eq_iff_iff]; simp [cc, cf, *] <;> omega
  by_cases h3 : k = 3
  · subst h3; rw [Bool.eq_iff_iff]; simp [cc, cf, *] <;> omega
  by_cases h4 : k = 4
  · subst h4; rw [Bool.eq_iff_iff]; simp [cc, cf, *] <;> omega
  by_cases h5 : k = 5
  · subst h5; rw [Bool.eq_iff_iff]; simp [cc, cf, *] <;> omega
  rw [Bool.eq_iff_iff]; simp [cc, cf, *] <;> omega
theorem guardOk (e : Ty.T y104) : v284 e = v298 e := by
  obtain ⟨k, n⟩ := e
  exact guardOk' k n
theorem specAct (a : Ty.T y106) (hb : a.2.2.2.2.2.2.length <= 1048576) : (a.2.2.2.2.2.2.any (fun x => !v328 x) = true /\ k299_6 false 0 a 0 = true /\ ∃ j : Nat, w299_6 false 0 a = (false, (j : Int), a, ())) ∨ (a.2.2.2.2.2.2.any (fun x => !v328 x) = false /\ k299_6 false 0 a 0 = false /\ k299_6 false 0 a 1 = true /\ w299_6 false 0 a = (false, (a.2.2.2.2.2.2.length : Int), a, ())) := by
  have h := find_iter (s := s299_6) (mk := fun i => (false, i, a, ())) (fin := fun i => (false, (i : Int), a, ())) (p := fun i => match a.2.2.2.2.2.2[i]? with | some x => !v328 x | none => false) (N := a.2.2.2.2.2.2.length) (fun i hi => by
    have h1 := List.getElem?_eq_getElem hi
    simp only [h1]
    skip
    cases ht : (v328 a.2.2.2.2.2.2[i] : Bool) <;> simp [s299_6, t299_6, optC_some, hi, h1, ht,  wrap_nat (n := i) (by omega)]) (by simp [s299_6, t299_6]) a.2.2.2.2.2.2.length 0 (n299_6 (false, 0, a, ())) (by omega) (by simp only [n299_6]; omega)
  have hf := first_any (p := fun x => !v328 x) (xs := a.2.2.2.2.2.2) (q := fun i => match a.2.2.2.2.2.2[i]? with | some x => !v328 x | none => false) (fun i x h1 => by simp only [h1])
  revert h hf
  generalize first _ 0 a.2.2.2.2.2.2.length = o
  intro h hf
  cases o with
  | none => exact .inr ⟨hf.symm, at_of h 0, at_of h 1, val_of h⟩
  | some j => exact .inl ⟨hf.symm, at_of h 0, j, val_of h⟩
theorem implAct' (l : List (Ty.T y27)) (hb : l.length <= 1048576) : (l.any (fun x => !v328 x) = true /\ k249c1_0 l 0 ((l).length : Int) 0 0 = true /\ ∃ j : Nat, w249c1_0 l 0 ((l).length : Int) 0 = (l, (j : Int), ((l).length : Int), (j : Int), ())) ∨ (l.any (fun x => !v328 x) = false /\ k249c1_0 l 0 ((l).length : Int) 0 0 = false /\ k249c1_0 l 0 ((l).length : Int) 0 1 = true /\ w249c1_0 l 0 ((l).length : Int) 0 = (l, 0, ((l).length : Int), (l.length : Int), ())) := by
  have h := find_iter (s := s249c1_0) (mk := fun i => (l, 0, ((l).length : Int), i, ())) (fin := fun i => (l, (i : Int), ((l).length : Int), (i : Int), ())) (p := fun i => match l[i]? with | some x => !v328 x | none => false) (N := l.length) (fun i hi => by
    have h1 := List.getElem?_eq_getElem hi
    simp only [h1]
    skip
    cases ht : (v328 l[i] : Bool) <;> simp [s249c1_0, t249c1_0, optC_some, hi, h1, ht, v321, partOk, wrap_nat (n := i) (by omega)]) (by simp [s249c1_0, t249c1_0]) l.length 0 (n249c1_0 (l, 0, ((l).length : Int), 0, ())) (by omega) (by simp only [n249c1_0]; omega)
  have hf := first_any (p := fun x => !v328 x) (xs := l) (q := fun i => match l[i]? with | some x => !v328 x | none => false) (fun i x h1 => by simp only [h1])
  revert h hf
  generalize first _ 0 l.length = o
  intro h hf
  cases o with
  | none => exact .inr ⟨hf.symm, at_of h 0, at_of h 1, val_of h⟩
  | some j => exact .inl ⟨hf.symm, at_of h 0, j, val_of h⟩
theorem implAct (l : List (Ty.T y27)) (hb : l.length <= 1048576) : d166c1 l = true /\ v166c1 l = l.any (fun x => !v328 x) := by
  unfold d166c1 v166c1 d249c1 v249c1
  rcases implAct' l hb with ⟨hB, e0, j, hw⟩ | ⟨hB, e0, e1, hw⟩
  · rw [e0, hw, hB]
    exact ⟨rfl, decide_eq_true (show ((j : Int)) ≥ 0 by omega)⟩
  · rw [e0, e1, hB]
    exact ⟨rfl, rfl⟩
theorem actFits' (k n p s z kind : Int) (b : Bool) (l : List (Ty.T y27)) : v286 ((k, n, p, s, z, b, l) : Ty.T y106) kind = v271 ((k, n, p, s, z, b, l) : Ty.T y106) kind := by
  simp only [v286, t286, v271, t271, v239, v165, v320]
  dsimp only [Ty.T]
  have cc : ∀ (p q r : Bool), cond p q r = true ↔ (p = true /\ q = true) ∨ (p = false /\ r = true) := by decide
  have cf : ∀ (p q r : Bool), cond p q r = false ↔ (p = true /\ q = false) ∨ (p = false /\ r = false) := by decide
  by_cases h1 : k = 1
  · subst h1; rw [Bool.eq_iff_iff]; simp [cc, cf] <;> omega
  by_cases h2 : k = 2
  · subst h2; rw [Bool.eq_iff_iff]; simp [cc, cf] <;> omega
  by_cases h3 : k = 3
  · subst h3; rw [Bool.eq_iff_iff]; simp [cc, cf] <;> omega
  by_cases h4 : k = 4
  · subst h4; rw [Bool.eq_iff_iff]; simp [cc, cf] <;> omega
  by_cases h5 : k = 5
  · subst h5; rw [Bool.eq_iff_iff]; simp [cc, cf] <;> omega
  by_cases h6 : k = 6
  · subst h6; rw [Bool.eq_iff_iff]; simp [cc, cf] <;> omega
  by_cases h7 : k = 7
  · subst h7; rw [Bool.eq_iff_iff]; simp [cc, cf] <;> omega
  by_cases h8 : k = 8
  · subst h8; rw [Bool.eq_iff_iff]; simp [cc, cf] <;> omega
  by_cases h9 : k = 9
  · subst h9; rw [Bool.eq_iff_iff]; simp [cc, cf] <;> omega
  rw [Bool.eq_iff_iff]; simp [cc, cf, *] <;> omega
theorem actFits (a : Ty.T y106) (kind : Int) : v286 a kind = v271 a kind := by
  obtain ⟨k, n, p, s, z, b, l⟩ := a
  exact actFits' k n p s z kind b l
theorem actOk' (k n p s z : Int) (b : Bool) (l : List (Ty.T y27)) (hb : l.length <= 1048576) : d299 ((k, n, p, s, z, b, l) : Ty.T y106) = true /\ d285 ((k, n, p, s, z, b, l) : Ty.T y106) = true /\ v285 ((k, n, p, s, z, b, l) : Ty.T y106) = v299 ((k, n, p, s, z, b, l) : Ty.T y106) := by
  have hi := implAct l hb
  have hs := specAct ((k, n, p, s, z, b, l) : Ty.T y106) hb
  dsimp only at hs
  have cc : ∀ (p q r : Bool), cond p q r = true ↔ (p = true /\ q = true) ∨ (p = false /\ r = true) := by decide
  have cf : ∀ (p q r : Bool), cond p q r = false ↔ (p = true /\ q = false) ∨ (p = false /\ r = false) := by decide
  rcases hs with ⟨hB, e0, j, hw⟩ | ⟨hB, e0, e1, hw⟩
  · simp only [d299, t299, d285, t285, v299, v285, c299_0, t299_0, c299_1, t299_1, c299_2, t299_2, c299_3, t299_3, c299_4, t299_4, c299_5, t299_5, c299_7, t299_7, c285_0, t285_0, c285_1, t285_1, c285_2, t285_2, c285_3, t285_3, g285_3, id, nfs, v327, v239, v165, v160, v164, v163, hi.1, hi.2, hB, e0, hw]
    dsimp only [Ty.T]
    have hl : 0 <= (List.length (α := Ty.T y27) l : Int) := by omega
    generalize (List.length (α := Ty.T y27) l : Int) = m at hl
    by_cases h1 : k = 1
    · subst h1; refine ⟨by simp, by simp, ?_⟩; rw [Bool.eq_iff_iff]; cases b <;> simp [cc, cf, *] <;> omega
    by_cases h2 : k = 2
    · subst h2; refine ⟨by simp, by simp, ?_⟩; rw [Bool.eq_iff_iff]; cases b <;> simp [cc, cf, *] <;> omega
    by_cases h3 : k = 3
    · subst h3; refine ⟨by simp, by simp, ?_⟩; rw [Bool.eq_iff_iff]; cases b <;> simp [cc, cf, *] <;> omega
    by_cases h4 : k = 4
    · subst h4; refine ⟨by simp, by simp, ?_⟩; rw [Bool.eq_iff_iff]; cases b <;> simp [cc, cf, *] <;> omega
    by_cases h5 : k = 5
    · subst h5; refine ⟨by simp, by simp, ?_⟩; rw [Bool.eq_iff_iff]; cases b <;> simp [cc, cf, *] <;> omega
    by_cases h6 : k = 6
    · subst h6; refine ⟨by simp, by simp, ?_⟩; rw [Bool.eq_iff_iff]; cases b <;> simp [cc, cf, *] <;> omega
    by_cases h7 : k = 7
    · subst h7; refine ⟨by simp, by simp, ?_⟩; rw [Bool.eq_iff_iff]; cases b <;> simp [cc, cf, *] <;> omega
    by_cases h8 : k = 8
    · subst h8; refine ⟨by simp, by simp, ?_⟩; rw [Bool.eq_iff_iff]; cases b <;> simp [cc, cf, *] <;> omega
    by_cases h9 : k = 9
    · subst h9; refine ⟨by simp, by simp, ?_⟩; rw [Bool.eq_iff_iff]; cases b <;> simp [cc, cf, *] <;> omega
    refine ⟨by simp [*], by simp [*], ?_⟩; rw [Bool.eq_iff_iff]; cases b <;> simp [cc, cf, *] <;> omega
  · simp only [d299, t299, d285, t285, v299, v285, c299_0, t299_0, c299_1, t299_1, c299_2, t299_2, c299_3, t299_3, c299_4, t299_4, c299_5, t299_5, c299_7, t299_7, c285_0, t285_0, c285_1, t285_1, c285_2, t285_2, c285_3, t285_3, g285_3, id, nfs, v327, v239, v165, v160, v164, v163, hi.1, hi.2, hB, e0, e1, hw]
    dsimp only [Ty.T]
    have hl : 0 <= (List.length (α := Ty.T y27) l : Int) := by omega
    generalize (List.length (α := Ty.T y27) l : Int) = m at hl
    by_cases h1 : k = 1
    · subst h1; refine ⟨by simp, by simp, ?_⟩; rw [Bool.eq_iff_iff]; cases b <;> simp [cc, cf, *] <;> omega
    by_cases h2 : k = 2
    · subst h2; refine ⟨by simp, by simp, ?_⟩; rw [Bool.eq_iff_iff]; cases b <;> simp [cc, cf, *] <;> omega
    by_cases h3 : k = 3
    · subst h3; refine ⟨by simp, by simp, ?_⟩; rw [Bool.eq_iff_iff]; cases b <;> simp [cc, cf, *] <;> omega
    by_cases h4 : k = 4
    · subst h4; refine ⟨by simp, by simp, ?_⟩; rw [Bool.eq_iff_iff]; cases b <;> simp [cc, cf, *] <;> omega
    by_cases h5 : k = 5
    · subst h5; refine ⟨by simp, by simp, ?_⟩; rw [Bool.eq_iff_iff]; cases b <;> simp [cc, cf, *] <;> omega
    by_cases h6 : k = 6
    · subst h6; refine ⟨by simp, by simp, ?_⟩; rw [Bool.eq_iff_iff]; cases b <;> simp [cc, cf, *] <;> omega
    by_cases h7 : k = 7
    · subst h7; refine ⟨by simp, by simp, ?_⟩; rw [Bool.eq_iff_iff]; cases b <;> simp [cc, cf, *] <;> omega
    by_cases h8 : k = 8
    · subst h8; refine ⟨by simp, by simp, ?_⟩; rw [Bool.eq_iff_iff]; cases b <;> simp [cc, cf, *] <;> omega
    by_cases h9 : k = 9
    · subst h9; refine ⟨by simp, by simp, ?_⟩; rw [Bool.eq_iff_iff]; cases b <;> simp [cc, cf, *] <;> omega
    refine ⟨by simp [*], by simp [*], ?_⟩; rw [Bool.eq_iff_iff]; cases b <;> simp [cc, cf, *] <;> omega
theorem actOk (a : Ty.T y106) (hb : a.2.2.2.2.2.2.length <= 1048576) : d299 a = true /\ d285 a = true /\ v285 a = v299 a := by
  obtain ⟨k, n, p, s, z, b, l⟩ := a
  exact actOk' k n p s z b l hb
theorem effectOk' (i1 i2 i3 i4 : Int) (p : Ty.T y102) (g : Ty.T y104) (a : Ty.T y106) (u l : Int) (hb : a.2.2.2.2.2.2.length <= 1048576) : d242 ((i1, i2, i3, i4, p, g, a, u, l) : Ty.T y108) = true /\ d227 ((i1, i2, i3, i4, p, g, a, u, l) : Ty.T y108) = true /\ v227 ((i1, i2, i3, i4, p, g, a, u, l) : Ty.T y108) = v242 ((i1, i2, i3, i4, p, g, a, u, l) : Ty.T y108) := by
  have ha := actOk a hb
  simp only [d242, t242, d227, t227, v242, v227, v239, v165, v160, v164, patOk, guardOk, actFits, ha.1, ha.2.1, ha.2.2, nfs]
  generalize v297 p = b1
  generalize v298 g = b2
  generalize v271 a p.1 = b3
  generalize v299 a = b4
  generalize (a.1 == (2 : Int)) = b5
  dsimp only [Ty.T]
  have cc : ∀ (p q r : Bool), cond p q r = true ↔ (p = true /\ q = true) ∨ (p = false /\ r = true) := by decide
  have cf : ∀ (p q r : Bool), cond p q r = false ↔ (p = true /\ q = false) ∨ (p = false /\ r = false) := by decide
  cases b5
  · cases b1 <;> cases b2 <;> cases b3 <;> cases b4 <;> (refine ⟨by simp, by simp, ?_⟩; rw [Bool.eq_iff_iff]; simp [cc, cf] <;> omega)
  · cases b1 <;> cases b2 <;> cases b3 <;> cases b4 <;> (refine ⟨by simp, by simp, ?_⟩; rw [Bool.eq_iff_iff]; simp [cc, cf] <;> omega)
theorem effectOk (e : Ty.T y108) (hb : e.2.2.2.2.2.2.1.2.2.2.2.2.2.length <= 1048576) : d242 e = true /\ d227 e = true /\ v227 e = v242 e := by
  obtain ⟨i1, i2, i3, i4, p, g, a, u, l⟩ := e
  exact effectOk' i1 i2 i3 i4 p g a u l hb
theorem sim_iter {V W : Type} {s1 : V -> Option (Nat × V)} {s2 : W -> Option (Nat × W)} {mk1 : Int -> V} {mk2 : Int -> W} {fin1 : Nat -> V} {fin2 : Nat -> W} {N : Nat}
    (h : ∀ i : Nat, i < N -> (s1 (mk1 (i : Int)) = some (0, mk1 ((i + 1 : Nat) : Int)) /\ s2 (mk2 (i : Int)) = some (0, mk2 ((i + 1 : Nat) : Int))) ∨ (s1 (mk1 (i : Int)) = some (1, fin1 i) /\ s2 (mk2 (i : Int)) = some (1, fin2 i)))
    (e1 : s1 (mk1 (N : Int)) = some (2, mk1 (N : Int))) (e2 : s2 (mk2 (N : Int)) = some (2, mk2 (N : Int))) : ∀ (k i n m : Nat), i + k = N -> k < n -> k < m ->
    (∃ j, iter s1 n (mk1 (i : Int)) = some (0, fin1 j) /\ iter s2 m (mk2 (i : Int)) = some (0, fin2 j)) ∨ (iter s1 n (mk1 (i : Int)) = some (1, mk1 (N : Int)) /\ iter s2 m (mk2 (i : Int)) = some (1, mk2 (N : Int)))
  | 0, i, n, m, hk, hn, hm => by
    obtain ⟨n, rfl⟩ : ∃ x, n = x + 1 := ⟨n - 1, by omega⟩
    obtain ⟨m, rfl⟩ : ∃ x, m = x + 1 := ⟨m - 1, by omega⟩
    have : i = N := by omega
    subst this
    exact .inr ⟨by rw [iter, e1]; rfl, by rw [iter, e2]; rfl⟩
  | k + 1, i, n, m, hk, hn, hm => by
    obtain ⟨n, rfl⟩ : ∃ x, n = x + 1 := ⟨n - 1, by omega⟩
    obtain ⟨m, rfl⟩ : ∃ x, m = x + 1 := ⟨m - 1, by omega⟩
    rcases h i (by omega) with ⟨a, b⟩ | ⟨a, b⟩
    · rw [iter, a, iter, b]
      exact sim_iter h e1 e2 k (i + 1) n m (by omega) (by omega) (by omega)
    · exact .inl ⟨i, by rw [iter, a]; rfl, by rw [iter, b]; rfl⟩
theorem wrap_pred (j : Nat) (h : (j : Int) <= 9223372036854775806) : IntKind.wrap .i64 (((j + 1 : Nat) : Int) - 1) = (j : Int) := by rw [wrap_in (by omega) (by omega)]; omega
theorem pieceOk' (a : Int) (b : Int) (c : Int) (d : Int) (e : Int) (f : Int) (g : Int) (h : Int) (p : Int) (q : Int) (r : Int) (s : Bool) (t : Bool) : v170 ((a, b, c, d, e, f, g, h, p, q, r, s, t) : Ty.T y63) = v240 ((a, b, c, d, e, f, g, h, p, q, r, s, t) : Ty.T y63) := by
  simp only [v170, t170, v240, t240, v239, v165, v160, v164, v163, v169, v250, v159]
  dsimp only [Ty.T]
  have cc : ∀ (p q r : Bool), cond p q r = true ↔ (p = true /\ q = true) ∨ (p = false /\ r = true) := by decide
  have cf : ∀ (p q r : Bool), cond p q r = false ↔ (p = true /\ q = false) ∨ (p = false /\ r = false) := by decide
  rw [Bool.eq_iff_iff]; cases s <;> cases t <;> simp [cc, cf, *] <;> omega
theorem pieceOk (e : Ty.T y63) : v170 e = v240 e := by
  obtain ⟨a, b, c, d, e, f, g, h, p, q, r, s, t⟩ := e
  exact pieceOk' a b c d e f g h p q r s t
theorem pieceLow (p : Ty.T y63) (h : v240 p = true) : (0 : Int) <= p.2.1 /\ (0 : Int) <= p.2.2.1 := by
  simp only [v240, t240, v239] at h
  have cc : ∀ (p q r : Bool), cond p q r = true ↔ (p = true /\ q = true) ∨ (p = false /\ r = true) := by decide
  have cf : ∀ (p q r : Bool), cond p q r = false ↔ (p = true /\ q = false) ∨ (p = false /\ r = false) := by decide
  simp [cc, cf] at h
  dsimp only [Ty.T] at h ⊢
  omega
theorem side' (x m : Int) (hx : 0 <= x) (hm : 0 <= m) (hm2 : m <= 1048576) : v165 x 0 (IntKind.wrap .i64 (m - 1)) = !decide (x ≥ m) := by
  rw [wrap_in (by omega) (by omega)]
  simp only [v165]
  rw [Bool.eq_iff_iff]
  have cc : ∀ (p q r : Bool), cond p q r = true ↔ (p = true /\ q = true) ∨ (p = false /\ r = true) := by decide
  have cf : ∀ (p q r : Bool), cond p q r = false ↔ (p = true /\ q = false) ∨ (p = false /\ r = false) := by decide
  simp [cc, cf]
  omega
theorem statePs (a : Ty.T y36) (hb : a.1.length <= 1048576) (hl : a.2.1.length <= 1048576) : (∃ j : Nat, iter s155_0 (n155_0 (false, 0, a, ())) (false, 0, a, ()) = some (0, (false, (j : Int), a, ())) /\ iter s56_0 (n56_0 (false, a.1, ((a.1).length : Int), 0, a, ())) (false, a.1, ((a.1).length : Int), 0, a, ()) = some (0, (false, a.1, ((a.1).length : Int), (j : Int), a, ()))) ∨ (iter s155_0 (n155_0 (false, 0, a, ())) (false, 0, a, ()) = some (1, (false, (a.1.length : Int), a, ())) /\ iter s56_0 (n56_0 (false, a.1, ((a.1).length : Int), 0, a, ())) (false, a.1, ((a.1).length : Int), 0, a, ()) = some (1, (false, a.1, ((a.1).length : Int), (a.1.length : Int), a, ()))) := by
  refine sim_iter (s1 := s155_0) (s2 := s56_0) (mk1 := fun i => (false, i, a, ())) (mk2 := fun i => (false, a.1, ((a.1).length : Int), i, a, ())) (fin1 := fun i => (false, (i : Int), a, ())) (fin2 := fun i => (false, a.1, ((a.1).length : Int), (i : Int), a, ())) (N := a.1.length) (fun i hi => ?_) (by simp [s155_0, t155_0]) (by simp [s56_0, t56_0]) a.1.length 0 _ _ (by omega) (by simp only [n155_0]; omega) (by simp only [n56_0]; omega)
  have h1 : a.1[i]? = some a.1[i] := List.getElem?_eq_getElem hi
  have h3 : (i : Int) < (a.1.length : Int) := by omega
  generalize a.1[i] = p at h1
  cases hp : v240 p with
  | false =>
    refine .inr ⟨?_, ?_⟩
    · simp only [s155_0, t155_0, decide_eq_true h3, cond_true, if_pos (show (0 : Int) <= (i : Int) by omega), Int.toNat_natCast, h1, optC_some, hp, Bool.not_false]
    · simp only [s56_0, t56_0, decide_eq_true h3, cond_true, if_pos (show (0 : Int) <= (i : Int) by omega), Int.toNat_natCast, h1, optC_some, pieceOk, hp, Bool.not_false]
  | true =>
    have hlow := pieceLow p hp
    have hs1 := side' p.2.1 (a.2.1.length : Int) hlow.1 (by omega) (by omega)
    have hs2 := side' p.2.2.1 (a.2.1.length : Int) hlow.2 (by omega) (by omega)
    have hw := wrap_nat (n := i) (by omega)
    match i, hi, h1, h3, hw with
    | 0, hi, h1, h3, hw =>
      simp only [s155_0, t155_0, s56_0, t56_0, v168, decide_eq_true h3, cond_true, if_pos (show (0 : Int) <= ((0 : Nat) : Int) by omega), Int.toNat_natCast, h1, optC_some, pieceOk, hp, Bool.not_true, cond_false, hs1, hs2, Bool.not_not, decide_eq_false (show ¬ ((0 : Nat) : Int) > 0 by omega), hw]
      cases decide (p.2.1 ≥ (a.2.1.length : Int)) <;> cases decide (p.2.2.1 ≥ (a.2.1.length : Int)) <;> cases decide (p.2.2.2.2.1 > a.2.2.2) <;> first | exact .inl ⟨rfl, rfl⟩ | exact .inr ⟨rfl, rfl⟩
    | j + 1, hi, h1, h3, hw =>
      have h2 : a.1[j]? = some a.1[j] := List.getElem?_eq_getElem (by omega)
      generalize a.1[j] = q at h2
      simp only [s155_0, t155_0, s56_0, t56_0, v168, decide_eq_true h3, cond_true, if_pos (show (0 : Int) <= ((j + 1 : Nat) : Int) by omega), Int.toNat_natCast, h1, h2, optC_some, pieceOk, hp, Bool.not_true, cond_false, hs1, hs2, Bool.not_not, decide_eq_true (show ((j + 1 : Nat) : Int) > 0 by omega), wrap_pred j (by omega), if_pos (show (0 : Int) <= (j : Int) by omega), hw]
      cases decide (q.1 ≥ p.1) <;> cases decide (p.2.1 ≥ (a.2.1.length : Int)) <;> cases decide (p.2.2.1 ≥ (a.2.1.length : Int)) <;> cases decide (p.2.2.2.2.1 > a.2.2.2) <;> first | exact .inl ⟨rfl, rfl⟩ | exact .inr ⟨rfl, rfl⟩
theorem sideOk' (x y : Int) (t : Bool) : v172 ((x, y, t) : Ty.T y190) = !v241 ((x, y, t) : Ty.T y190) := by
  simp only [v172, v241, v239, v165, v173, v159]
  try dsimp only [Ty.T]
  have cc : ∀ (p q r : Bool), cond p q r = true ↔ (p = true /\ q = true) ∨ (p = false /\ r = true) := by decide
  have cf : ∀ (p q r : Bool), cond p q r = false ↔ (p = true /\ q = false) ∨ (p = false /\ r = false) := by decide
  rw [Bool.eq_iff_iff]
  simp [cc, cf]
  omega
theorem sideOk (s : Ty.T y190) : v172 s = !v241 s := sideOk' s.1 s.2.1 s.2.2
theorem specSides (a : Ty.T y36) (hb : a.2.1.length <= 1048576) : (a.2.1.any (fun x => !v241 x) = true /\ k155_1 false 0 a 0 = true /\ ∃ j : Nat, w155_1 false 0 a = (false, (j : Int), a, ())) ∨ (a.2.1.any (fun x => !v241 x) = false /\ k155_1 false 0 a 0 = false /\ k155_1 false 0 a 1 = true /\ w155_1 false 0 a = (false, (a.2.1.length : Int), a, ())) := by
  have h := find_iter (s := s155_1) (mk := fun i => (false, i, a, ())) (fin := fun i => (false, (i : Int), a, ())) (p := fun i => match a.2.1[i]? with | some x => !v241 x | none => false) (N := a.2.1.length) (fun i hi => by
    have h1 := List.getElem?_eq_getElem hi
    simp only [h1]
    skip
    cases ht : (v241 a.2.1[i] : Bool) <;> simp [s155_1, t155_1, optC_some, hi, h1, ht,  wrap_nat (n := i) (by omega)]) (by simp [s155_1, t155_1]) a.2.1.length 0 (n155_1 (false, 0, a, ())) (by omega) (by simp only [n155_1]; omega)
  have hf := first_any (p := fun x => !v241 x) (xs := a.2.1) (q := fun i => match a.2.1[i]? with | some x => !v241 x | none => false) (fun i x h1 => by simp only [h1])
  revert h hf
  generalize first _ 0 a.2.1.length = o
  intro h hf
  cases o with
  | none => exact .inr ⟨hf.symm, at_of h 0, at_of h 1, val_of h⟩
  | some j => exact .inl ⟨hf.symm, at_of h 0, j, val_of h⟩
theorem implSides' (l : List (Ty.T y190)) (hb : l.length <= 1048576) : (l.any (fun x => !v241 x) = true /\ k251c1_0 l 0 ((l).length : Int) 0 0 = true /\ ∃ j : Nat, w251c1_0 l 0 ((l).length : Int) 0 = (l, (j : Int), ((l).length : Int), (j : Int), ())) ∨ (l.any (fun x => !v241 x) = false /\ k251c1_0 l 0 ((l).length : Int) 0 0 = false /\ k251c1_0 l 0 ((l).length : Int) 0 1 = true /\ w251c1_0 l 0 ((l).length : Int) 0 = (l, 0, ((l).length : Int), (l.length : Int), ())) := by
  have h := find_iter (s := s251c1_0) (mk := fun i => (l, 0, ((l).length : Int), i, ())) (fin := fun i => (l, (i : Int), ((l).length : Int), (i : Int), ())) (p := fun i => match l[i]? with | some x => !v241 x | none => false) (N := l.length) (fun i hi => by
    have h1 := List.getElem?_eq_getElem hi
    simp only [h1]
    skip
    cases ht : (v241 l[i] : Bool) <;> simp [s251c1_0, t251c1_0, optC_some, hi, h1, ht, sideOk, wrap_nat (n := i) (by omega)]) (by simp [s251c1_0, t251c1_0]) l.length 0 (n251c1_0 (l, 0, ((l).length : Int), 0, ())) (by omega) (by simp only [n251c1_0]; omega)
  have hf := first_any (p := fun x => !v241 x) (xs := l) (q := fun i => match l[i]? with | some x => !v241 x | none => false) (fun i x h1 => by simp only [h1])
  revert h hf
  generalize first _ 0 l.length = o
  intro h hf
  cases o with
  | none => exact .inr ⟨hf.symm, at_of h 0, at_of h 1, val_of h⟩
  | some j => exact .inl ⟨hf.symm, at_of h 0, j, val_of h⟩
theorem implSides (l : List (Ty.T y190)) (hb : l.length <= 1048576) : d171c1 l = true /\ v171c1 l = l.any (fun x => !v241 x) := by
  unfold d171c1 v171c1 d251c1 v251c1
  rcases implSides' l hb with ⟨hB, e0, j, hw⟩ | ⟨hB, e0, e1, hw⟩
  · rw [e0, hw, hB]
    exact ⟨rfl, decide_eq_true (show ((j : Int)) ≥ 0 by omega)⟩
  · rw [e0, e1, hB]
    exact ⟨rfl, rfl⟩
theorem stateOk (a : Ty.T y36) (hb : a.1.length <= 1048576) (hl : a.2.1.length <= 1048576) : d155 a = true /\ d56 a = true /\ v56 a = v155 a := by
  have hi := implSides a.2.1 hl
  unfold d155 d56 v155 v56 t155 t56
  try simp only [nfs]
  simp only [v168, v169, v165, v239]
  rcases statePs a hb hl with ⟨j, x1, x2⟩ | ⟨x1, x2⟩
  · have e0 : k155_0 false 0 a 0 = true := at_of x1 0
    have f0 : k56_0 false a.1 ((a.1).length : Int) 0 a 0 = true := at_of x2 0
    have ew : w155_0 false 0 a = _ := val_of x1
    have fw : w56_0 false a.1 ((a.1).length : Int) 0 a = _ := val_of x2
    simp only [e0, f0, ew, fw]
    generalize decide ((a.1.length : Int) > (8 : Int)) = b1
    cases b1
    · refine ⟨?_, ?_, ?_⟩ <;> simp
    · exact ⟨rfl, rfl, rfl⟩
  · have e0 : k155_0 false 0 a 0 = false := at_of x1 0
    have e1 : k155_0 false 0 a 1 = true := at_of x1 1
    have f0 : k56_0 false a.1 ((a.1).length : Int) 0 a 0 = false := at_of x2 0
    have f1 : k56_0 false a.1 ((a.1).length : Int) 0 a 1 = true := at_of x2 1
    have ew : w155_0 false 0 a = _ := val_of x1
    have fw : w56_0 false a.1 ((a.1).length : Int) 0 a = _ := val_of x2
    simp only [e0, e1, f0, f1, ew, fw, hi.1, hi.2]
    rcases specSides a hl with ⟨hB, y0, k, hw⟩ | ⟨hB, y0, y1, hw⟩
    · simp only [y0, hw, hB]
      generalize decide ((a.1.length : Int) > (8 : Int)) = b1
      cases b1
      · refine ⟨?_, ?_, ?_⟩ <;> simp
      · exact ⟨rfl, rfl, rfl⟩
    · simp only [y0, y1, hw, hB]
      generalize decide ((a.1.length : Int) > (8 : Int)) = b1
      cases b1
      · refine ⟨?_, ?_, ?_⟩ <;> simp
      · exact ⟨rfl, rfl, rfl⟩
theorem tableL (l : List (Ty.T y108)) (hb : l.length <= 1048576) (hv : ∀ x ∈ l, x.2.2.2.2.2.2.1.2.2.2.2.2.2.length <= 1048576) : (∃ j : Nat, iter s156_0 (n156_0 (l, false, 0, ())) (l, false, 0, ()) = some (0, (l, false, (j : Int), ())) /\ iter s136_0 (n136_0 (l, false, l, ((l).length : Int), 0, ())) (l, false, l, ((l).length : Int), 0, ()) = some (0, (l, false, l, ((l).length : Int), (j : Int), ()))) ∨ (iter s156_0 (n156_0 (l, false, 0, ())) (l, false, 0, ()) = some (1, (l, false, (l.length : Int), ())) /\ iter s136_0 (n136_0 (l, false, l, ((l).length : Int), 0, ())) (l, false, l, ((l).length : Int), 0, ()) = some (1, (l, false, l, ((l).length : Int), (l.length : Int), ()))) := by
  refine sim_iter (s1 := s156_0) (s2 := s136_0) (mk1 := fun i => (l, false, i, ())) (mk2 := fun i => (l, false, l, ((l).length : Int), i, ())) (fin1 := fun i => (l, false, (i : Int), ())) (fin2 := fun i => (l, false, l, ((l).length : Int), (i : Int), ())) (N := l.length) (fun i hi => ?_) (by simp [s156_0, t156_0]) (by simp [s136_0, t136_0]) l.length 0 _ _ (by omega) (by simp only [n156_0]; omega) (by simp only [n136_0]; omega)
  have h1 : l[i]? = some l[i] := List.getElem?_eq_getElem hi
  have h3 : (i : Int) < (l.length : Int) := by omega
  have hq := effectOk l[i] (hv _ (List.getElem_mem hi))
  generalize l[i] = p at h1 hq
  have hw := wrap_nat (n := i) (by omega)
  match i, hi, h1, h3, hw with
  | 0, hi, h1, h3, hw =>
    simp only [s156_0, t156_0, s136_0, t136_0, decide_eq_true h3, cond_true, if_pos (show (0 : Int) <= ((0 : Nat) : Int) by omega), Int.toNat_natCast, h1, optC_some, hq.1, hq.2.1, hq.2.2, decide_eq_false (show ¬ ((0 : Nat) : Int) > 0 by omega), cond_false, hw]
    cases v242 p <;> first | exact .inl ⟨rfl, rfl⟩ | exact .inr ⟨rfl, rfl⟩
  | j + 1, hi, h1, h3, hw =>
    have h2 : l[j]? = some l[j] := List.getElem?_eq_getElem (by omega)
    generalize l[j] = q at h2
    simp only [s156_0, t156_0, s136_0, t136_0, decide_eq_true h3, cond_true, if_pos (show (0 : Int) <= ((j + 1 : Nat) : Int) by omega), Int.toNat_natCast, h1, h2, optC_some, hq.1, hq.2.1, hq.2.2, decide_eq_true (show ((j + 1 : Nat) : Int) > 0 by omega), wrap_pred j (by omega), if_pos (show (0 : Int) <= (j : Int) by omega), hw]
    cases v242 p <;> cases decide (q.1 ≥ p.1) <;> first | exact .inl ⟨rfl, rfl⟩ | exact .inr ⟨rfl, rfl⟩
theorem tableOk (l : List (Ty.T y108)) (hb : l.length <= 1048576) (hv : ∀ x ∈ l, x.2.2.2.2.2.2.1.2.2.2.2.2.2.length <= 1048576) : d156 l = true /\ d136 l = true /\ v136 l = v156 l := by
  unfold d156 d136 v156 v136
  rcases tableL l hb hv with ⟨j, x1, x2⟩ | ⟨x1, x2⟩
  · have e0 : k156_0 l false 0 0 = true := at_of x1 0
    have f0 : k136_0 l false l ((l).length : Int) 0 0 = true := at_of x2 0
    have ew : w156_0 l false 0 = _ := val_of x1
    have fw : w136_0 l false l ((l).length : Int) 0 = _ := val_of x2
    simp only [e0, f0, ew, fw]
    first | exact ⟨rfl, rfl, rfl⟩ | simp
  · have e0 : k156_0 l false 0 0 = false := at_of x1 0
    have e1 : k156_0 l false 0 1 = true := at_of x1 1
    have f0 : k136_0 l false l ((l).length : Int) 0 0 = false := at_of x2 0
    have f1 : k136_0 l false l ((l).length : Int) 0 1 = true := at_of x2 1
    have ew : w156_0 l false 0 = _ := val_of x1
    have fw : w136_0 l false l ((l).length : Int) 0 = _ := val_of x2
    simp only [e0, e1, f0, f1, ew, fw]
    first | exact ⟨rfl, rfl, rfl⟩ | simp
theorem hasS (u : List (Ty.T (.int .i64))) (n : Int) (hb : u.length <= 1048576) : d300 u n = true /\ v300 u n = (u.any fun x => x == n) := by
  have h := find_iter (s := s300_0) (mk := fun i => (u, n, false, i, ())) (fin := fun i => (u, n, true, (i : Int), ())) (p := fun i => match u[i]? with | some x => (x == n) | none => false) (N := u.length) (fun i hi => by
    have h1 := List.getElem?_eq_getElem hi
    simp only [h1]
    skip
    cases ht : ((u[i] : Int) == n) <;> simp [s300_0, t300_0, optC_some, hi, h1, ht,  wrap_nat (n := i) (by omega)]) (by simp [s300_0, t300_0]) u.length 0 (n300_0 (u, n, false, 0, ())) (by omega) (by simp [n300_0]; omega)
  have hf := first_any (p := fun x => (x == n)) (xs := u) (q := fun i => match u[i]? with | some x => (x == n) | none => false) (fun i x h1 => by simp only [h1])
  unfold d300 v300
  revert h hf
  generalize first _ 0 u.length = o
  intro h hf
  cases o with
  | none =>
    have e0 : k300_0 u n false 0 0 = false := at_of h 0
    have e1 : k300_0 u n false 0 1 = true := at_of h 1
    rw [e0, e1, ← hf]
    exact ⟨rfl, rfl⟩
  | some j =>
    have e0 : k300_0 u n false 0 0 = true := at_of h 0
    have hw : w300_0 u n false 0 = _ := val_of h
    rw [e0, hw, ← hf]
    exact ⟨rfl, rfl⟩
theorem idxI (u : List (Ty.T (.int .i64))) (n : Int) (hb : u.length <= 1048576) : d252 u n = true /\ v252 u n = (match first (fun i => match u[i]? with | some x => (n == x) | none => false) 0 u.length with | some j => (j : Int) | none => -1) := by
  have h := find_iter (s := s252_0) (mk := fun i => (u, n, 0, ((u).length : Int), i, ())) (fin := fun i => (u, n, (i : Int), ((u).length : Int), (i : Int), ())) (p := fun i => match u[i]? with | some x => (n == x) | none => false) (N := u.length) (fun i hi => by
    have h1 := List.getElem?_eq_getElem hi
    simp only [h1]
    skip
    cases ht : ((n == (u[i] : Int)) : Bool) <;> simp [s252_0, t252_0, optC_some, hi, h1, ht,  wrap_nat (n := i) (by omega)]) (by simp [s252_0, t252_0]) u.length 0 (n252_0 (u, n, 0, ((u).length : Int), 0, ())) (by omega) (by simp [n252_0]; omega)
  unfold d252 v252
  revert h
  generalize first _ 0 u.length = o
  intro h
  cases o with
  | none =>
    have e0 : k252_0 u n 0 ((u).length : Int) 0 0 = false := at_of h 0
    have e1 : k252_0 u n 0 ((u).length : Int) 0 1 = true := at_of h 1
    rw [e0, e1]
    exact ⟨rfl, rfl⟩
  | some j =>
    have e0 : k252_0 u n 0 ((u).length : Int) 0 0 = true := at_of h 0
    have hw : w252_0 u n 0 ((u).length : Int) 0 = _ := val_of h
    rw [e0, hw]
    exact ⟨rfl, rfl⟩
theorem hasI (u : List (Ty.T (.int .i64))) (n : Int) (hb : u.length <= 1048576) : d75 u n = true /\ v75 u n = u.any fun x => x == n := by
  have h := idxI u n hb
  have e : (first (fun i => match u[i]? with | some x => n == x | none => false) 0 u.length).isSome = u.any fun x => n == x := first_any (fun i x h => by simp only [h])
  have e2 : (u.any fun x => n == x) = u.any fun x => x == n := by congr 1; funext x; exact Bool.beq_comm
  unfold d75 v75 d181 v181
  rw [h.1, h.2, ← e2, ← e]
  cases first (fun i => match u[i]? with | some x => n == x | none => false) 0 u.length with
  | none => exact ⟨by simp, by simp⟩
  | some j => exact ⟨by simp, by simp⟩
theorem cl177 (l : List (Ty.T y27)) (hb : l.length <= 1048576) : d177 l = true := decide_eq_true (show List.length l * _ <= _ by omega)
theorem cl135 (l : List (Ty.T (.int .i64))) (hb : l.length <= 1048576) : d135 l = true := decide_eq_true (show List.length l * _ <= _ by omega)
theorem cpI (e : Ty.T y108) (hb : e.2.2.2.2.2.2.1.2.2.2.2.2.2.length <= 1048576) : d226 e = true /\ v226 e = ((e.1, e.2.1, e.2.2.1, e.2.2.2.1, e.2.2.2.2.1, e.2.2.2.2.2.1, e.2.2.2.2.2.2.1.1, e.2.2.2.2.2.2.1.2.1, e.2.2.2.2.2.2.1.2.2.1, e.2.2.2.2.2.2.1.2.2.2.1, e.2.2.2.2.2.2.1.2.2.2.2.1, e.2.2.2.2.2.2.1.2.2.2.2.2.1), e.2.2.2.2.2.2.2, e.2.2.2.2.2.2.1.2.2.2.2.2.2) := by
  have h := cl177 _ hb
  unfold d226 v226 t226
  try simp only [nfs]
  rw [h]
  exact ⟨rfl, rfl⟩
theorem cpS (e : Ty.T y108) (hb : e.2.2.2.2.2.2.1.2.2.2.2.2.2.length <= 1048576) : d238 e = true /\ v238 e = ((e.1, e.2.1, e.2.2.1, e.2.2.2.1, e.2.2.2.2.1, e.2.2.2.2.2.1, e.2.2.2.2.2.2.1.1, e.2.2.2.2.2.2.1.2.1, e.2.2.2.2.2.2.1.2.2.1, e.2.2.2.2.2.2.1.2.2.2.1, e.2.2.2.2.2.2.1.2.2.2.2.1, e.2.2.2.2.2.2.1.2.2.2.2.2.1), e.2.2.2.2.2.2.2, e.2.2.2.2.2.2.1.2.2.2.2.2.2) := by
  have h : d296 e.2.2.2.2.2.2.1 = true := by
    unfold d296
    simp only [List.nil_append, Bool.and_true]
    exact decide_eq_true (by omega)
  unfold d238 v238 t238
  try simp only [nfs]
  rw [h]
  exact ⟨rfl, rfl⟩
theorem ctI (l : List (Ty.T y108)) (hb : l.length <= 1048576) (hv : ∀ x ∈ l, x.2.2.2.2.2.2.1.2.2.2.2.2.2.length <= 1048576) : d134 l = true /\ v134 l = l := by
  have h := seq_iter (s := s134_0) (f := fun i => ([], l, ((l).length : Int), (i : Int), l.take i, ())) (c := 0) (N := l.length) (v' := ([], l, ((l).length : Int), (l.length : Int), l.take l.length, ())) (fun i hi => by
    have h1 : l[i]? = some l[i] := List.getElem?_eq_getElem hi
    have hw := wrap_nat (n := i) (by omega)
    have hc := cpI l[i] (hv _ (List.getElem_mem hi))
    have hz : ∀ x : Ty.T y108, (l.take i ++ [x]).length * 192 <= 140737488351232 := fun x => by simp only [List.length_append, List.length_cons, List.length_nil, List.length_take]; omega
    rw [take_snoc h1]
    simp only [s134_0, t134_0, decide_eq_true (show (i : Int) < (l.length : Int) by omega), cond_true, if_pos (show (0 : Int) <= (i : Int) by omega), Int.toNat_natCast, h1, optC_some, hw, hc.1, hc.2, if_pos (hz _)] <;> rfl) (by simp [s134_0, t134_0]) l.length 0 (n134_0 ([], l, ((l).length : Int), 0, [], ())) (by omega) (by simp only [n134_0]; omega)
  have hk : k134_0 [] l ((l).length : Int) 0 [] 0 = true := at_of h 0
  have hw : w134_0 [] l ((l).length : Int) 0 [] = _ := val_of h
  unfold d134 v134
  rw [hk, hw]
  exact ⟨rfl, by simp⟩
theorem ctS (l : List (Ty.T y108)) (hb : l.length <= 1048576) (hv : ∀ x ∈ l, x.2.2.2.2.2.2.1.2.2.2.2.2.2.length <= 1048576) : d154 l = true /\ v154 l = l := by
  have h := seq_iter (s := s154_0) (f := fun i => (l, [], (i : Int), l.take i, ())) (c := 0) (N := l.length) (v' := (l, [], (l.length : Int), l.take l.length, ())) (fun i hi => by
    have h1 : l[i]? = some l[i] := List.getElem?_eq_getElem hi
    have hw := wrap_nat (n := i) (by omega)
    have hc := cpS l[i] (hv _ (List.getElem_mem hi))
    have hz : ∀ x : Ty.T y108, (l.take i ++ [x]).length * 192 <= 140737488351232 := fun x => by simp only [List.length_append, List.length_cons, List.length_nil, List.length_take]; omega
    rw [take_snoc h1]
    simp only [s154_0, t154_0, decide_eq_true (show (i : Int) < (l.length : Int) by omega), cond_true, if_pos (show (0 : Int) <= (i : Int) by omega), Int.toNat_natCast, h1, optC_some, hw, hc.1, hc.2, if_pos (hz _)] <;> rfl) (by simp [s154_0, t154_0]) l.length 0 (n154_0 (l, [], 0, [], ())) (by omega) (by simp only [n154_0]; omega)
  have hk : k154_0 l [] 0 [] 0 = true := at_of h 0
  have hw : w154_0 l [] 0 [] = _ := val_of h
  unfold d154 v154
  rw [hk, hw]
  exact ⟨rfl, by simp⟩
theorem cuI (l : List (Ty.T y66)) (hb : l.length <= 1048576) (hv : ∀ x ∈ l, x.2.2.2.2.2.1.length <= 1048576) : d141 l = true /\ v141 l = l := by
  have h := seq_iter (s := s141_0) (f := fun i => ([], l, ((l).length : Int), (i : Int), l.take i, ())) (c := 0) (N := l.length) (v' := ([], l, ((l).length : Int), (l.length : Int), l.take l.length, ())) (fun i hi => by
    have h1 : l[i]? = some l[i] := List.getElem?_eq_getElem hi
    have hw := wrap_nat (n := i) (by omega)
    have hc := cl177 _ (hv _ (List.getElem_mem hi))
    have hz : ∀ x : Ty.T y66, (l.take i ++ [x]).length * 128 <= 140737488351232 := fun x => by simp only [List.length_append, List.length_cons, List.length_nil, List.length_take]; omega
    rw [take_snoc h1]
    simp only [s141_0, t141_0, decide_eq_true (show (i : Int) < (l.length : Int) by omega), cond_true, if_pos (show (0 : Int) <= (i : Int) by omega), Int.toNat_natCast, h1, optC_some, hw, hc, v177, if_pos (hz _)] <;> rfl) (by simp [s141_0, t141_0]) l.length 0 (n141_0 ([], l, ((l).length : Int), 0, [], ())) (by omega) (by simp only [n141_0]; omega)
  have hk : k141_0 [] l ((l).length : Int) 0 [] 0 = true := at_of h 0
  have hw : w141_0 [] l ((l).length : Int) 0 [] = _ := val_of h
  unfold d141 v141
  rw [hk, hw]
  exact ⟨rfl, by simp⟩
theorem pa (s : Ty.T y36) (id : Int) (hb : s.1.length <= 1048576) : d279 s id = true /\ v279 s id = (match first (fun i => match s.1[i]? with | some x => (x.1 == id) | none => false) 0 s.1.length with | some j => (j : Int) | none => -1) := by
  have h := find_iter (s := s279_0) (mk := fun i => (id, 0, i, s, ())) (fin := fun i => (id, (i : Int), (i : Int), s, ())) (p := fun i => match s.1[i]? with | some x => (x.1 == id) | none => false) (N := s.1.length) (fun i hi => by
    have h1 := List.getElem?_eq_getElem hi
    simp only [h1]
    skip
    cases ht : (((s.1[i]).1 == id) : Bool) <;> simp [s279_0, t279_0, optC_some, hi, h1, ht,  wrap_nat (n := i) (by omega)]) (by simp [s279_0, t279_0]) s.1.length 0 (n279_0 (id, 0, 0, s, ())) (by omega) (by simp [n279_0]; omega)
  unfold d279 v279
  revert h
  generalize first _ 0 s.1.length = o
  intro h
  cases o with
  | none =>
    have e0 : k279_0 id 0 0 s 0 = false := at_of h 0
    have e1 : k279_0 id 0 0 s 1 = true := at_of h 1
    rw [e0, e1]
    exact ⟨rfl, rfl⟩
  | some j =>
    have e0 : k279_0 id 0 0 s 0 = true := at_of h 0
    have hw : w279_0 id 0 0 s = _ := val_of h
    rw [e0, hw]
    exact ⟨rfl, rfl⟩
theorem ia (s : List (Ty.T y63)) (id : Int) (hb : s.length <= 1048576) : d340c1 s id = true /\ v340c1 s id = (match first (fun i => match s[i]? with | some x => (x.1 == id) | none => false) 0 s.length with | some j => (j : Int) | none => -1) := by
  have h := find_iter (s := s340c1_0) (mk := fun i => (s, id, 0, ((s).length : Int), i, ())) (fin := fun i => (s, id, (i : Int), ((s).length : Int), (i : Int), ())) (p := fun i => match s[i]? with | some x => (x.1 == id) | none => false) (N := s.length) (fun i hi => by
    have h1 := List.getElem?_eq_getElem hi
    simp only [h1]
    skip
    cases ht : (((s[i]).1 == id) : Bool) <;> simp [s340c1_0, t340c1_0, optC_some, hi, h1, ht, v341c1, wrap_nat (n := i) (by omega)]) (by simp [s340c1_0, t340c1_0]) s.length 0 (n340c1_0 (s, id, 0, ((s).length : Int), 0, ())) (by omega) (by simp [n340c1_0]; omega)
  unfold d340c1 v340c1
  revert h
  generalize first _ 0 s.length = o
  intro h
  cases o with
  | none =>
    have e0 : k340c1_0 s id 0 ((s).length : Int) 0 0 = false := at_of h 0
    have e1 : k340c1_0 s id 0 ((s).length : Int) 0 1 = true := at_of h 1
    rw [e0, e1]
    exact ⟨rfl, rfl⟩
  | some j =>
    have e0 : k340c1_0 s id 0 ((s).length : Int) 0 0 = true := at_of h 0
    have hw : w340c1_0 s id 0 ((s).length : Int) 0 = _ := val_of h
    rw [e0, hw]
    exact ⟨rfl, rfl⟩
theorem pi (s : Ty.T y36) (id : Int) (hb : s.1.length <= 1048576) : d326 s id = true /\ v326 s id = v279 s id := by
  have h1 := pa s id hb
  have h2 := ia s.1 id hb
  unfold d326 v326
  rw [h2.1, h2.2, h1.2]
  exact ⟨rfl, rfl⟩
theorem paR (s : Ty.T y36) (id : Int) (hb : s.1.length <= 1048576) : v279 s id < 0 ∨ (0 <= v279 s id /\ ∃ p, s.1[(v279 s id).toNat]? = some p /\ p.1 = id) := by
  rw [(pa s id hb).2]
  cases h : first (fun i => match s.1[i]? with | some x => (x.1 == id) | none => false) 0 s.1.length with
  | none => exact .inl (by decide)
  | some j =>
    obtain ⟨_, hj, hp⟩ := first_some h
    have e : s.1[j]? = some s.1[j] := List.getElem?_eq_getElem (by omega)
    refine .inr ⟨by show (0 : Int) <= (j : Int); omega, s.1[j], by show s.1[((j : Nat) : Int).toNat]? = _; rw [Int.toNat_natCast]; exact e, ?_⟩
    simp only [e] at hp
    exact eq_of_beq hp
theorem src (s : Ty.T y36) (e : Ty.T y27) (hb : s.1.length <= 1048576) : d315 s e = true /\ d329 s e = true /\ v329 s e = v315 s e := by
  have h1 := pa s e.2.1 hb
  have h2 := pi s e.2.1 hb
  have key : d315 s e = true := by
    unfold d315 t315
    try simp only [nfs]
    rw [h1.1]
    rcases paR s e.2.1 hb with h | ⟨h, p, hp, _⟩
    · cases (e.1 != (1 : Int)) <;> simp [h]
    · cases (e.1 != (1 : Int)) <;> simp [hp, optD, h]
  refine ⟨key, ?_, ?_⟩
  · rw [← key]
    unfold d315 d329 t315 t329
    try simp only [nfs]
    rw [h1.1, h2.1, h2.2]
  · unfold v315 v329 t315 t329
    try simp only [nfs]
    rw [h1.1, h2.1, h2.2]
theorem isSide (s : Ty.T y36) (x : Int) : v168 s x = v239 x 0 (IntKind.wrap .i64 (((s.2.1).length : Int) - (1 : Int))) := by
  simp only [v168, v239, v165]
theorem tgt (s : Ty.T y36) (e : Ty.T y27) (hb : s.1.length <= 1048576) : d270 s e = true /\ d292 s e = true /\ v292 s e = v270 s e := by
  have h1 := pa s e.2.2.1 hb
  have h2 := pi s e.2.2.1 hb
  unfold d270 d292 v270 v292
  rw [h1.1, h2.1, h2.2, isSide]
  cases (e.2.2.1 == (0 : Int))
  · rcases paR s e.2.2.1 hb with h | ⟨h, p, hp, _⟩
    · simp [h]
    · simp [hp, optD, h]
  · cases v239 e.2.2.2.1 0 (IntKind.wrap .i64 (((s.2.1).length : Int) - (1 : Int))) <;> exact ⟨rfl, rfl, rfl⟩
theorem tgtF (s : Ty.T y36) (x : Int) (p : Ty.T y102) (e : Ty.T y27) (hb : s.1.length <= 1048576) : d333 s x p e = true /\ d304 s x p e = true /\ v304 s x p e = v333 s x p e := by
  have h := tgt s e hb
  unfold d333 d304 v333 v304 t333 t304
  try simp only [nfs]
  rw [h.1, h.2.1, h.2.2]
  refine ⟨?_, ?_, rfl⟩ <;> simp
theorem srcF (s : Ty.T y36) (p : Ty.T y102) (e : Ty.T y27) (hb : s.1.length <= 1048576) : d334 s p e = true /\ d305 s p e = true /\ v305 s p e = v334 s p e := by
  have h := src s e hb
  unfold d334 d305 v334 v305
  rw [h.1, h.2.1, h.2.2]
  refine ⟨?_, ?_, rfl⟩ <;> simp
theorem patF (s : Ty.T y36) (x : Int) (p : Ty.T y102) (e : Ty.T y27) (hb : s.1.length <= 1048576) : d312 s x p e = true /\ d256 s x p e = true /\ v256 s x p e = v312 s x p e := by
  have h1 := tgtF s x p e hb
  have h2 := srcF s p e hb
  unfold d312 d256 v312 v256
  rw [h1.1, h1.2.1, h1.2.2, h2.1, h2.2.1, h2.2.2, patOk, evOk]
  refine ⟨?_, ?_, rfl⟩ <;> simp
theorem gone (e : Ty.T y27) : v54 e = v244 e := rfl
theorem lives (e : Ty.T y108) (t : Int) : v253 e t = v309 e t := rfl
theorem near (e : Ty.T y108) (v : Ty.T y27) : v254 e v = v310 e v := rfl
theorem chooser (s : Ty.T y36) (e : Ty.T y27) (hb : s.1.length <= 1048576) : d213 s e = true /\ d230 s e = true /\ v230 s e = v213 s e := by
  have h := tgt s e hb
  unfold d213 d230 v213 v230
  rw [h.1, h.2.1, h.2.2]
  cases hc : (v270 s e == (-1 : Int)) <;> simp [bne, hc]
def manyF (side : Int) (k : Int) (x : Ty.T y63) : Int := cond (x.2.2.2.1 == (2 : Int)) (cond (x.2.2.1 == side) (IntKind.wrap .i64 (k + 1)) k) k
def bentF (side : Int) (k : Int) (x : Ty.T y63) : Int := cond (x.2.2.2.1 == (2 : Int)) (cond (x.2.2.1 == side) (cond x.2.2.2.2.2.2.2.2.2.2.2.2 (IntKind.wrap .i64 (k + 1)) k) k) k
theorem manyS (s : Ty.T y36) (side : Int) (hb : s.1.length <= 1048576) : d331 s side = true /\ v331 s side = s.1.foldl (manyF side) 0 := by
  have h := fold_iter (s := s331_0) (mk := fun (k : Int) i => (side, 0, k, i, s, ())) (xs := s.1) (f := (manyF side)) (Inv := fun _ _ => True) (fun i x k hx hI => by
    obtain ⟨hi, rfl⟩ := List.getElem?_eq_some_iff.1 hx
    refine ⟨?_, trivial⟩
    skip
    cases c1 : ((s.1[i]).2.2.2.1 == (2 : Int)) <;> cases c2 : ((s.1[i]).2.2.1 == side) <;> cases c3 : (s.1[i]).2.2.2.2.2.2.2.2.2.2.2.2 <;> simp [s331_0, t331_0, optC_some, hi, manyF, c1, c2, c3, wrap_nat (n := i) (by omega)]) (fun k => by simp [s331_0, t331_0]) s.1.length 0 0 (n331_0 (side, 0, 0, 0, s, ())) (by omega) (by simp [n331_0]; omega) trivial
  have hk : k331_0 side 0 0 0 s 0 = true := at_of h 0
  have hw : w331_0 side 0 0 0 s = _ := val_of h
  unfold d331 v331
  rw [hk, hw]
  exact ⟨rfl, rfl⟩
theorem bentS (s : Ty.T y36) (side : Int) (hb : s.1.length <= 1048576) : d332 s side = true /\ v332 s side = s.1.foldl (bentF side) 0 := by
  have h := fold_iter (s := s332_0) (mk := fun (k : Int) i => (side, 0, k, i, s, ())) (xs := s.1) (f := (bentF side)) (Inv := fun _ _ => True) (fun i x k hx hI => by
    obtain ⟨hi, rfl⟩ := List.getElem?_eq_some_iff.1 hx
    refine ⟨?_, trivial⟩
    skip
    cases c1 : ((s.1[i]).2.2.2.1 == (2 : Int)) <;> cases c2 : ((s.1[i]).2.2.1 == side) <;> cases c3 : (s.1[i]).2.2.2.2.2.2.2.2.2.2.2.2 <;> simp [s332_0, t332_0, optC_some, hi, bentF, c1, c2, c3, wrap_nat (n := i) (by omega)]) (fun k => by simp [s332_0, t332_0]) s.1.length 0 0 (n332_0 (side, 0, 0, 0, s, ())) (by omega) (by simp [n332_0]; omega) trivial
  have hk : k332_0 side 0 0 0 s 0 = true := at_of h 0
  have hw : w332_0 side 0 0 0 s = _ := val_of h
  unfold d332 v332
  rw [hk, hw]
  exact ⟨rfl, rfl⟩
theorem bentI (s : Ty.T y36) (side : Int) (hb : s.1.length <= 1048576) : d303 s side = true /\ v303 s side = s.1.foldl (bentF side) 0 := by
  have h := fold_iter (s := s303_0) (mk := fun (k : Int) i => (side, 0, k, s.1, ((s.1).length : Int), i, ())) (xs := s.1) (f := (bentF side)) (Inv := fun _ _ => True) (fun i x k hx hI => by
    obtain ⟨hi, rfl⟩ := List.getElem?_eq_some_iff.1 hx
    refine ⟨?_, trivial⟩
    skip
    cases c1 : ((s.1[i]).2.2.2.1 == (2 : Int)) <;> cases c2 : ((s.1[i]).2.2.1 == side) <;> cases c3 : (s.1[i]).2.2.2.2.2.2.2.2.2.2.2.2 <;> simp [s303_0, t303_0, optC_some, hi, bentF, c1, c2, c3, wrap_nat (n := i) (by omega)]) (fun k => by simp [s303_0, t303_0]) s.1.length 0 0 (n303_0 (side, 0, 0, s.1, ((s.1).length : Int), 0, ())) (by omega) (by simp [n303_0]; omega) trivial
  have hk : k303_0 side 0 0 s.1 ((s.1).length : Int) 0 0 = true := at_of h 0
  have hw : w303_0 side 0 0 s.1 ((s.1).length : Int) 0 = _ := val_of h
  unfold d303 v303
  rw [hk, hw]
  exact ⟨rfl, rfl⟩
theorem many_wrap (side : Int) (l : List (Ty.T y63)) : ∀ k : Int, 0 <= k -> k + l.length <= 9223372036854775807 -> l.foldl (manyF side) k = k + (((l.filter fun x => (x.2.2.2.1 == (2 : Int)) && (x.2.2.1 == side)).length : Nat) : Int) := by
  induction l with
  | nil => intro k _ _; simp
  | cons x l ih =>
    intro k h0 hk
    simp only [List.length_cons] at hk
    have e : IntKind.wrap .i64 (k + 1) = k + 1 := wrap_in (by omega) (by omega)
    simp only [List.foldl_cons, manyF, List.filter_cons, e]
    cases c1 : (x.2.2.2.1 == (2 : Int)) <;> cases c2 : (x.2.2.1 == side) <;> simp only [cond_true, cond_false, Bool.and_true, Bool.and_false, if_true, Bool.false_eq_true, if_false, List.length_cons]
    · exact ih k h0 (by omega)
    · exact ih k h0 (by omega)
    · exact ih k h0 (by omega)
    · rw [ih (k + 1) (by omega) (by omega)]; omega
theorem onF (s : Ty.T y36) (side : Int) (hs : ¬ side = -1) (hb : s.1.length <= 1048576) : d302 s side = true /\ v302 s side = (s.1.filter fun x => (x.2.2.2.1 == (2 : Int)) && (x.2.2.1 == side)).map (·.1) := by
  have h := seq_iter (s := s302_0) (f := fun i => (side, [], s.1, ((s.1).length : Int), (i : Int), ((s.1.take i).filter fun x => (x.2.2.2.1 == (2 : Int)) && (x.2.2.1 == side)).map (·.1), ())) (c := 0) (N := s.1.length) (v' := (side, [], s.1, ((s.1).length : Int), (s.1.length : Int), ((s.1.take s.1.length).filter fun x => (x.2.2.2.1 == (2 : Int)) && (x.2.2.1 == side)).map (·.1), ())) (fun i hi => by
    have h1 : s.1[i]? = some s.1[i] := List.getElem?_eq_getElem hi
    have hw := wrap_nat (n := i) (by omega)
    have hn : (side == (-1 : Int)) = false := by simpa using hs
    have hz : ∀ x : Int, (@HAppend.hAppend (List Int) (List Int) (List Int) _ (((s.1.take i).filter fun x => (x.2.2.2.1 == (2 : Int)) && (x.2.2.1 == side)).map (·.1)) [x]).length * 8 <= 140737488351232 := fun x => by
      have := List.length_filter_le (fun x : Ty.T y63 => (x.2.2.2.1 == (2 : Int)) && (x.2.2.1 == side)) (s.1.take i)
      simp only [List.length_append, List.length_cons, List.length_nil, List.length_map, List.length_take] at this ⊢
      omega
    rw [filter_snoc h1]
    cases c1 : ((s.1[i]).2.2.2.1 == (2 : Int)) <;> cases c2 : ((s.1[i]).2.2.1 == side) <;> simp only [s302_0, t302_0, decide_eq_true (show (i : Int) < (s.1.length : Int) by omega), cond_true, cond_false, if_pos (show (0 : Int) <= (i : Int) by omega), Int.toNat_natCast, h1, optC_some, hw, hn, c1, c2, Bool.and_true, Bool.and_false, if_pos (hz _), List.append_nil, List.map_append, List.map_cons, List.map_nil] <;> rfl) (by simp [s302_0, t302_0]) s.1.length 0 (n302_0 (side, [], s.1, ((s.1).length : Int), 0, [], ())) (by omega) (by simp only [n302_0]; omega)
  have hk : k302_0 side [] s.1 ((s.1).length : Int) 0 [] 0 = true := at_of h 0
  have hw : w302_0 side [] s.1 ((s.1).length : Int) 0 [] = _ := val_of h
  unfold d302 v302
  rw [hk, hw]
  exact ⟨rfl, by simp⟩
theorem holds (s : Ty.T y36) (x : Int) (g : Ty.T y104) (hb : s.1.length <= 1048576) (hl : s.2.1.length <= 1048576) : d311 s x g = true /\ d255 s x g = true /\ v255 s x g = v311 s x g := by
  have h1 := manyS s x hb
  have h2 := bentS s x hb
  have h3 := bentI s x hb
  unfold d311 d255 v311 v255 t311
  try simp only [nfs]
  rw [guardOk, isSide, h1.1, h1.2, h2.1, h2.2, h3.1, h3.2]
  cases v298 g
  · exact ⟨rfl, rfl, rfl⟩
  · cases hS : v239 x 0 (IntKind.wrap .i64 (((s.2.1).length : Int) - (1 : Int)))
    · exact ⟨rfl, rfl, rfl⟩
    · rw [wrap_in (by omega) (by omega)] at hS
      simp only [v239] at hS
      have cc : ∀ (p q r : Bool), cond p q r = true ↔ (p = true /\ q = true) ∨ (p = false /\ r = true) := by decide
      have cf : ∀ (p q r : Bool), cond p q r = false ↔ (p = true /\ q = false) ∨ (p = false /\ r = false) := by decide
      simp [cc, cf] at hS
      have h0 : 0 <= x := hS.1
      have hx : ∃ y, s.2.1[x.toNat]? = some y := ⟨s.2.1[x.toNat]'(by omega), List.getElem?_eq_getElem _⟩
      obtain ⟨y, hy⟩ := hx
      have h4 := onF s x (by omega) hb
      have h5 := many_wrap x s.1 0 (by omega) (by omega)
      rw [h4.1, h4.2, hy, h5]
      simp only [optD, optV, h0, decide_true, Bool.true_and, Bool.not_true, cond_false, cond_true, List.length_map, Int.zero_add]
      refine ⟨?_, ?_, rfl⟩ <;> simp
theorem bound (a : Int) : v173 a = v280 a := by
  unfold v173 v280
  by_cases h1 : (2147483647 : Int) < a <;> by_cases h2 : a < (-2147483647 : Int) <;> simp only [h1, h2, gt_iff_lt, decide_true, decide_false, if_true, if_false, cond_true, cond_false] <;> (try split) <;> omega
theorem uptoE (a b : Int) : v192 a b = v148 a b := by
  unfold v192 v148
  by_cases h1 : b < a <;> simp only [h1, gt_iff_lt, decide_true, decide_false, if_true, if_false, cond_true, cond_false]
  · by_cases h2 : b < 0 <;> simp only [h2, decide_true, decide_false, cond_true, cond_false] <;> split <;> omega
  · by_cases h2 : a < 0 <;> simp only [h2, decide_true, decide_false, cond_true, cond_false] <;> split <;> omega
theorem plus (a b : Int) : v220 a b = v222 a b := by unfold v220 v222; simp only [bound]
theorem less (a b : Int) : v219 a b = v221 a b := by unfold v219 v221; simp only [bound]
theorem twice (a : Int) : v338 a = v335 a := by unfold v338 v335; simp only [bound]
theorem half (a : Int) : v339 a = v336 a := by unfold v339 v336; simp only [bound]
theorem withN (e : Ty.T y27) (n : Int) : v323 e n = v272 e n := by unfold v323 v272; rw [uptoE]
theorem amount (a : Ty.T y106) (n : Int) : v324 a n = v313 a n := by unfold v324 v313; simp only [uptoE, plus, twice, half]
noncomputable def partF (e x : Ty.T y27) : Ty.T y27 := cond (x.2.2.2.2.1 == (-1 : Int)) (x.1, x.2.1, x.2.2.1, x.2.2.2.1, v148 e.2.2.2.2.1 2147483647, x.2.2.2.2.2) x
theorem partS9 (a : Ty.T y106) (h : ¬ a.1 = 9) (e : Ty.T y27) : d273 a e = true /\ v273 a e = [] := by
  have hb : (a.1 == (9 : Int)) = false := by simpa using h
  have h : iter s273_0 (n273_0 ([], 0, a, e, [], ())) ([], 0, a, e, [], ()) = some (0, ([], 0, a, e, [], ())) := by
    rw [show n273_0 ([], 0, a, e, [], ()) = (n273_0 ([], 0, a, e, [], ()) - 1) + 1 by simp only [n273_0]; omega]
    have : s273_0 ([], 0, a, e, [], ()) = some (1, ([], 0, a, e, [], ())) := by
      simp only [s273_0, t273_0, hb, cond_false]
      cases decide ((0 : Int) < (a.2.2.2.2.2.2.length : Int)) <;> rfl
    rw [iter, this]
    rfl
  have hk : k273_0 [] 0 a e [] 0 = true := at_of h 0
  have hw : w273_0 [] 0 a e [] = _ := val_of h
  unfold d273 v273
  rw [hk, hw]
  exact ⟨rfl, rfl⟩
theorem partS (a : Ty.T y106) (h9 : a.1 = 9) (e : Ty.T y27) (hb : a.2.2.2.2.2.2.length <= 1048576) : d273 a e = true /\ v273 a e = a.2.2.2.2.2.2.map (partF e) := by
  have h := seq_iter (s := s273_0) (f := fun i => ([], (i : Int), a, e, (a.2.2.2.2.2.2.take i).map (partF e), ())) (c := 0) (N := a.2.2.2.2.2.2.length) (v' := ([], (a.2.2.2.2.2.2.length : Int), a, e, (a.2.2.2.2.2.2.take a.2.2.2.2.2.2.length).map (partF e), ())) (fun i hi => by
    have h1 : a.2.2.2.2.2.2[i]? = some a.2.2.2.2.2.2[i] := List.getElem?_eq_getElem hi
    have hw := wrap_nat (n := i) (by omega)
    have hz : ∀ x : Ty.T y27, (@HAppend.hAppend (List (Ty.T y27)) (List (Ty.T y27)) (List (Ty.T y27)) _ ((a.2.2.2.2.2.2.take i).map (partF e)) [x]).length * 56 <= 140737488351232 := fun x => by
      simp only [List.length_append, List.length_cons, List.length_nil, List.length_map, List.length_take]
      omega
    rw [take_snoc h1, List.map_append, List.map_cons, List.map_nil]
    cases c1 : ((a.2.2.2.2.2.2[i]).2.2.2.2.1 == (-1 : Int)) <;> simp only [s273_0, t273_0, decide_eq_true (show (i : Int) < (a.2.2.2.2.2.2.length : Int) by omega), cond_true, cond_false, if_pos (show (0 : Int) <= (i : Int) by omega), Int.toNat_natCast, h1, optC_some, hw, c1, h9, beq_self_eq_true, if_pos (hz _), partF] <;> rfl) (by simp [s273_0, t273_0]) a.2.2.2.2.2.2.length 0 (n273_0 ([], 0, a, e, [], ())) (by omega) (by simp only [n273_0]; omega)
  have hk : k273_0 [] 0 a e [] 0 = true := at_of h 0
  have hw : w273_0 [] 0 a e [] = _ := val_of h
  unfold d273 v273
  rw [hk, hw]
  exact ⟨rfl, by simp⟩
theorem partI9 (a : Ty.T y106) (h : ¬ a.1 = 9) (e : Ty.T y27) : d325 a e = true /\ v325 a e = [] := by
  have hb : (a.1 != (9 : Int)) = true := by simpa using h
  unfold d325 v325
  rw [hb]
  exact ⟨rfl, rfl⟩
theorem partI (a : Ty.T y106) (h9 : a.1 = 9) (e : Ty.T y27) (hb : a.2.2.2.2.2.2.length <= 1048576) : d325 a e = true /\ v325 a e = a.2.2.2.2.2.2.map (partF e) := by
  have hb9 : (a.1 != (9 : Int)) = false := by rw [h9]; rfl
  have h := seq_iter (s := s325_0) (f := fun i => ([], a.2.2.2.2.2.2, ((a.2.2.2.2.2.2).length : Int), (i : Int), e, (a.2.2.2.2.2.2.take i).map (partF e), ())) (c := 0) (N := a.2.2.2.2.2.2.length) (v' := ([], a.2.2.2.2.2.2, ((a.2.2.2.2.2.2).length : Int), (a.2.2.2.2.2.2.length : Int), e, (a.2.2.2.2.2.2.take a.2.2.2.2.2.2.length).map (partF e), ())) (fun i hi => by
    have h1 : a.2.2.2.2.2.2[i]? = some a.2.2.2.2.2.2[i] := List.getElem?_eq_getElem hi
    have hw := wrap_nat (n := i) (by omega)
    have hz : ∀ x : Ty.T y27, (@HAppend.hAppend (List (Ty.T y27)) (List (Ty.T y27)) (List (Ty.T y27)) _ ((a.2.2.2.2.2.2.take i).map (partF e)) [x]).length * 56 <= 140737488351232 := fun x => by
      simp only [List.length_append, List.length_cons, List.length_nil, List.length_map, List.length_take]
      omega
    rw [take_snoc h1, List.map_append, List.map_cons, List.map_nil]
    cases c1 : ((a.2.2.2.2.2.2[i]).2.2.2.2.1 == (-1 : Int)) <;> simp only [s325_0, t325_0, decide_eq_true (show (i : Int) < (a.2.2.2.2.2.2.length : Int) by omega), cond_true, cond_false, if_pos (show (0 : Int) <= (i : Int) by omega), Int.toNat_natCast, h1, optC_some, hw, c1, uptoE, if_pos (hz _), partF] <;> rfl) (by simp [s325_0, t325_0]) a.2.2.2.2.2.2.length 0 (n325_0 ([], a.2.2.2.2.2.2, ((a.2.2.2.2.2.2).length : Int), 0, e, [], ())) (by omega) (by simp only [n325_0]; omega)
  have hk : k325_0 [] a.2.2.2.2.2.2 ((a.2.2.2.2.2.2).length : Int) 0 e [] 0 = true := at_of h 0
  have hw : w325_0 [] a.2.2.2.2.2.2 ((a.2.2.2.2.2.2).length : Int) 0 e [] = _ := val_of h
  unfold d325 v325
  rw [hk, hw]
  rw [hb9]
  exact ⟨rfl, by simp⟩
theorem parts (a : Ty.T y106) (e : Ty.T y27) (hb : a.2.2.2.2.2.2.length <= 1048576) : d273 a e = true /\ d325 a e = true /\ v325 a e = v273 a e := by
  by_cases h : a.1 = 9
  · have h1 := partS a h e hb
    have h2 := partI a h e hb
    exact ⟨h1.1, h2.1, by rw [h1.2, h2.2]⟩
  · have h1 := partS9 a h e
    have h2 := partI9 a h e
    exact ⟨h1.1, h2.1, by rw [h1.2, h2.2]⟩
theorem partsLen (a : Ty.T y106) (e : Ty.T y27) (hb : a.2.2.2.2.2.2.length <= 1048576) : (v273 a e).length <= a.2.2.2.2.2.2.length := by
  by_cases h : a.1 = 9
  · rw [(partS a h e hb).2]; simp
  · rw [(partS9 a h e).2]; simp
theorem fits (s : Ty.T y36) (x : Ty.T y108) (e : Ty.T y27) (hb : s.1.length <= 1048576) (hl : s.2.1.length <= 1048576) (hv : x.2.2.2.2.2.2.1.2.2.2.2.2.2.length <= 1048576) : d269 s x e = true /\ d182 s x e = true /\ v182 s x e = v269 s x e := by
  have h1 := effectOk x hv
  have h2 := holds s x.2.1 x.2.2.2.2.2.1 hb hl
  have h3 := patF s x.2.1 x.2.2.2.2.1 e hb
  unfold d269 d182 v269 v182
  rw [h1.1, h1.2.1, h1.2.2, lives, near, h2.1, h2.2.1, h2.2.2, h3.1, h3.2.1, h3.2.2]
  refine ⟨?_, ?_, rfl⟩ <;> simp
theorem fitsOk (s : Ty.T y36) (x : Ty.T y108) (e : Ty.T y27) (hv : x.2.2.2.2.2.2.1.2.2.2.2.2.2.length <= 1048576) (h : v269 s x e = true) : v242 x = true := by
  unfold v269 at h
  rw [(effectOk x hv).1] at h
  cases hc : v242 x with
  | true => rfl
  | false => rw [hc] at h; cases h
theorem okClass (x : Ty.T y108) (h : v242 x = true) : @LE.le Int _ 0 x.2.2.2.1 /\ @LE.le Int _ x.2.2.2.1 4 := by
  cases hc : v239 x.2.2.2.1 0 4 with
  | true =>
    simp only [v239] at hc
    have cc : ∀ (p q r : Bool), cond p q r = true ↔ (p = true /\ q = true) ∨ (p = false /\ r = true) := by decide
    have cf : ∀ (p q r : Bool), cond p q r = false ↔ (p = true /\ q = false) ∨ (p = false /\ r = false) := by decide
    simpa [cc, cf] using hc
  | false =>
    exfalso
    simp only [v242, t242, hc, nfs] at h
    cases h1 : v239 x.1 1 99 <;> cases h2 : v239 x.2.1 0 2 <;> cases h3 : v239 x.2.2.1 0 99 <;> simp [h1, h2, h3] at h
theorem ea (l : List (Ty.T y108)) (id : Int) (hb : l.length <= 1048576) : d246 l id = true /\ v246 l id = (match first (fun i => match l[i]? with | some x => (x.1 == id) | none => false) 0 l.length with | some j => (j : Int) | none => -1) := by
  have h := find_iter (s := s246_0) (mk := fun i => (l, id, 0, i, ())) (fin := fun i => (l, id, (i : Int), (i : Int), ())) (p := fun i => match l[i]? with | some x => (x.1 == id) | none => false) (N := l.length) (fun i hi => by
    have h1 := List.getElem?_eq_getElem hi
    simp only [h1]
    skip
    cases ht : (((l[i]).1 == id) : Bool) <;> simp [s246_0, t246_0, optC_some, hi, h1, ht,  wrap_nat (n := i) (by omega)]) (by simp [s246_0, t246_0]) l.length 0 (n246_0 (l, id, 0, 0, ())) (by omega) (by simp [n246_0]; omega)
  unfold d246 v246
  revert h
  generalize first _ 0 l.length = o
  intro h
  cases o with
  | none =>
    have e0 : k246_0 l id 0 0 0 = false := at_of h 0
    have e1 : k246_0 l id 0 0 1 = true := at_of h 1
    rw [e0, e1]
    exact ⟨rfl, rfl⟩
  | some j =>
    have e0 : k246_0 l id 0 0 0 = true := at_of h 0
    have hw : w246_0 l id 0 0 = _ := val_of h
    rw [e0, hw]
    exact ⟨rfl, rfl⟩
theorem eia (l : List (Ty.T y108)) (id : Int) (hb : l.length <= 1048576) : d290c1 l id = true /\ v290c1 l id = (match first (fun i => match l[i]? with | some x => (x.1 == id) | none => false) 0 l.length with | some j => (j : Int) | none => -1) := by
  have h := find_iter (s := s290c1_0) (mk := fun i => (l, id, 0, ((l).length : Int), i, ())) (fin := fun i => (l, id, (i : Int), ((l).length : Int), (i : Int), ())) (p := fun i => match l[i]? with | some x => (x.1 == id) | none => false) (N := l.length) (fun i hi => by
    have h1 := List.getElem?_eq_getElem hi
    simp only [h1]
    skip
    cases ht : (((l[i]).1 == id) : Bool) <;> simp [s290c1_0, t290c1_0, optC_some, hi, h1, ht, v291c1, wrap_nat (n := i) (by omega)]) (by simp [s290c1_0, t290c1_0]) l.length 0 (n290c1_0 (l, id, 0, ((l).length : Int), 0, ())) (by omega) (by simp [n290c1_0]; omega)
  unfold d290c1 v290c1
  revert h
  generalize first _ 0 l.length = o
  intro h
  cases o with
  | none =>
    have e0 : k290c1_0 l id 0 ((l).length : Int) 0 0 = false := at_of h 0
    have e1 : k290c1_0 l id 0 ((l).length : Int) 0 1 = true := at_of h 1
    rw [e0, e1]
    exact ⟨rfl, rfl⟩
  | some j =>
    have e0 : k290c1_0 l id 0 ((l).length : Int) 0 0 = true := at_of h 0
    have hw : w290c1_0 l id 0 ((l).length : Int) 0 = _ := val_of h
    rw [e0, hw]
    exact ⟨rfl, rfl⟩
theorem ei (l : List (Ty.T y108)) (id : Int) (hb : l.length <= 1048576) : d229 l id = true /\ v229 l id = v246 l id := by
  have h1 := ea l id hb
  have h2 := eia l id hb
  unfold d229 v229
  rw [h2.1, h2.2, h1.2]
  exact ⟨rfl, rfl⟩
theorem op5 {c : Int} (h : c <= 4) : ¬ c > 5 /\ c < 5 := by omega
theorem opAb {c b : Int} (h1 : c <= 4) (h2 : b = 5) (h4 : ¬ c < b) : False := by omega
theorem opGt {c b : Int} (h : c > b) : (c == b) = false := by simp; omega
theorem opMid {c b : Int} (h1 : ¬ c > b) (h2 : ¬ c < b) : (c == b) = true := by simp; omega
noncomputable def optF (s : Ty.T y36) (e : Ty.T y27) (u : List (Ty.T (.int .i64))) (p : Int × List (Ty.T (.int .i64))) (x : Ty.T y108) : Int × List (Ty.T (.int .i64)) :=
  cond (u.any fun y => y == x.1) p (cond (!v269 s x e) p (cond (decide (x.2.2.2.1 > p.1)) p (cond (decide (x.2.2.2.1 < p.1)) (x.2.2.2.1, [x.1]) (p.1, p.2 ++ [x.1]))))
structure OptI (l : List (Ty.T y108)) (u : List (Ty.T (.int .i64))) (n : Nat) (p : Int × List (Ty.T (.int .i64))) : Prop where
  len : p.2.length <= n
  top : (p.2 = [] /\ p.1 = 5) ∨ (p.2.length ≠ 0 /\ p.1 <= 4)
  mem : ∀ y ∈ p.2, (∃ x ∈ l, x.1 = y) /\ (u.any fun z => z == y) = false
theorem optStep {s : Ty.T y36} {e : Ty.T y27} {l : List (Ty.T y108)} {u : List (Ty.T (.int .i64))} {n : Nat} {p : Int × List (Ty.T (.int .i64))} {x : Ty.T y108} (hx : x ∈ l) (hv : x.2.2.2.2.2.2.1.2.2.2.2.2.2.length <= 1048576) (h : OptI l u n p) : OptI l u (n + 1) (optF s e u p x) := by
  unfold optF
  cases h1 : u.any fun y => y == x.1
  · cases h2 : v269 s x e
    · exact ⟨Nat.le_succ_of_le h.len, h.top, h.mem⟩
    · have hc := okClass x (fitsOk s x e hv h2)
      by_cases h3 : x.2.2.2.1 > p.1
      · simp only [h3, decide_true, Bool.not_true, cond_false, cond_true]
        exact ⟨Nat.le_succ_of_le h.len, h.top, h.mem⟩
      · by_cases h4 : x.2.2.2.1 < p.1
        · simp only [h3, h4, decide_true, decide_false, Bool.not_true, cond_false, cond_true]
          refine ⟨by simp, .inr ⟨by simp, by simpa using hc.2⟩, fun y hy => ?_⟩
          rw [List.mem_singleton] at hy
          subst hy
          exact ⟨⟨x, hx, rfl⟩, h1⟩
        · simp only [h3, h4, decide_false, Bool.not_true, cond_false]
          refine ⟨by simp only [List.length_append, List.length_cons, List.length_nil]; have := h.len; omega, .inr ⟨by simp, ?_⟩, fun y hy => ?_⟩
          · show p.1 <= 4
            rcases h.top with h5 | h5
            · exact (opAb hc.2 h5.2 h4).elim
            · exact h5.2
          · rcases List.mem_append.1 hy with hy | hy
            · exact h.mem y hy
            · rw [List.mem_singleton] at hy
              subst hy
              exact ⟨⟨x, hx, rfl⟩, h1⟩
  · exact ⟨Nat.le_succ_of_le h.len, h.top, h.mem⟩
theorem optAll (s : Ty.T y36) (e : Ty.T y27) (l : List (Ty.T y108)) (u : List (Ty.T (.int .i64))) (hv : ∀ x ∈ l, x.2.2.2.2.2.2.1.2.2.2.2.2.2.length <= 1048576) : ∀ n, n <= l.length -> OptI l u n ((l.take n).foldl (optF s e u) (5, []))
  | 0, _ => ⟨by simp, .inl ⟨rfl, rfl⟩, fun y hy => by cases hy⟩
  | n + 1, h => by
    rw [foldl_snoc (List.getElem?_eq_getElem (l := l) (i := n) (by omega))]
    exact optStep (List.getElem_mem _) (hv _ (List.getElem_mem _)) (optAll s e l u hv n (by omega))
theorem optS (s : Ty.T y36) (l : List (Ty.T y108)) (e : Ty.T y27) (u : List (Ty.T (.int .i64))) (hb : s.1.length <= 1048576) (hs : s.2.1.length <= 1048576) (hn : l.length <= 1048576) (hu : u.length <= 1048576) (hv : ∀ x ∈ l, x.2.2.2.2.2.2.1.2.2.2.2.2.2.length <= 1048576) : d243 s l e u = true /\ v243 s l e u = (l.foldl (optF s e u) (5, [])).2 := by
  have h := seq_iter (s := s243_0) (f := fun i => (l, u, [], ((l.take i).foldl (optF s e u) (5, [])).1, (i : Int), s, e, ((l.take i).foldl (optF s e u) (5, [])).2, ())) (c := 0) (N := l.length) (v' := (l, u, [], ((l.take l.length).foldl (optF s e u) (5, [])).1, (l.length : Int), s, e, ((l.take l.length).foldl (optF s e u) (5, [])).2, ())) (fun i hi => by
    have h1 : l[i]? = some l[i] := List.getElem?_eq_getElem hi
    have hw := wrap_nat (n := i) (by omega)
    have hf := fits s l[i] e hb hs (hv _ (List.getElem_mem hi))
    have hh := hasS u (l[i]).1 hu
    have hI := optAll s e l u hv i (by omega)
    rw [foldl_snoc h1]
    revert hI
    generalize (l.take i).foldl (optF s e u) (5, []) = p
    obtain ⟨b, o⟩ := p
    intro hI
    have hz : ∀ x : Int, (@HAppend.hAppend (List Int) (List Int) (List Int) _ o [x]).length * 8 <= 140737488351232 := fun x => by
      have : o.length <= i := hI.len
      simp only [List.length_append, List.length_cons, List.length_nil]
      omega
    have hz2 : (o.length + 1) * 8 <= 140737488351232 := by
      have : o.length <= i := hI.len
      omega
    cases c1 : u.any fun y => y == (l[i]).1 <;> cases c2 : v269 s l[i] e <;> by_cases c3 : (l[i]).2.2.2.1 > b <;> by_cases c4 : (l[i]).2.2.2.1 < b <;> simp [s243_0, t243_0, hi, h1, optC_some, hw, hh.1, hh.2, hf.1, hf.2.1, hf.2.2, c1, c2, c3, c4, optF, hz2]) (by simp [s243_0, t243_0]) l.length 0 (n243_0 (l, u, [], 5, 0, s, e, [], ())) (by omega) (by simp only [n243_0]; omega)
  have hk : k243_0 l u [] 5 0 s e [] 0 = true := at_of h 0
  have hw : w243_0 l u [] 5 0 s e [] = _ := val_of h
  unfold d243 v243
  rw [hk, hw]
  exact ⟨rfl, by simp⟩
def optB (p : Int × List (Ty.T (.int .i64))) : Int := match p.2 with | [] => 0 | _ :: _ => p.1
theorem optI (s : Ty.T y36) (l : List (Ty.T y108)) (e : Ty.T y27) (u : List (Ty.T (.int .i64))) (hb : s.1.length <= 1048576) (hs : s.2.1.length <= 1048576) (hn : l.length <= 1048576) (hu : u.length <= 1048576) (hv : ∀ x ∈ l, x.2.2.2.2.2.2.1.2.2.2.2.2.2.length <= 1048576) : d76 s l e u = true /\ v76 s l e u = (l.foldl (optF s e u) (5, [])).2 := by
  have h := seq_iter (s := s76_0) (f := fun i => (u, [], (optB ((l.take i).foldl (optF s e u) (5, []))), l, ((l).length : Int), (i : Int), s, e, ((l.take i).foldl (optF s e u) (5, [])).2, ())) (c := 0) (N := l.length) (v' := (u, [], (optB ((l.take l.length).foldl (optF s e u) (5, []))), l, ((l).length : Int), (l.length : Int), s, e, ((l.take l.length).foldl (optF s e u) (5, [])).2, ())) (fun i hi => by
    have h1 : l[i]? = some l[i] := List.getElem?_eq_getElem hi
    have hw := wrap_nat (n := i) (by omega)
    have hf := fits s l[i] e hb hs (hv _ (List.getElem_mem hi))
    have hh := hasI u (l[i]).1 hu
    have hI := optAll s e l u hv i (by omega)
    rw [foldl_snoc h1]
    revert hI
    generalize (l.take i).foldl (optF s e u) (5, []) = p
    obtain ⟨b, o⟩ := p
    intro hI
    have hz : ∀ x : Int, (@HAppend.hAppend (List Int) (List Int) (List Int) _ o [x]).length * 8 <= 140737488351232 := fun x => by
      have : o.length <= i := hI.len
      simp only [List.length_append, List.length_cons, List.length_nil]
      omega
    have hz2 : (o.length + 1) * 8 <= 140737488351232 := by
      have : o.length <= i := hI.len
      omega
    have hcl : v269 s l[i] e = true -> (l[i]).2.2.2.1 <= 4 := fun h => (okClass _ (fitsOk s _ e (hv _ (List.getElem_mem hi)) h)).2
    cases o with
    | nil =>
      have h5 : b = 5 := by
        rcases hI.top with h | h
        · exact h.2
        · exact absurd rfl h.1
      subst h5
      cases c1 : u.any fun y => y == (l[i]).1 <;> cases c2 : v269 s l[i] e <;> try (have c3 := hcl c2)
      all_goals simp [s76_0, t76_0, hi, h1, optC_some, hw, hh.1, hh.2, hf.1, hf.2.1, hf.2.2, c1, c2, optF, optB]
      all_goals simp [(op5 (hcl c2)).1, (op5 (hcl c2)).2]
    | cons y o =>
      have hl : ((((y :: o).length : Nat) : Int) == (0 : Int)) = false := by simp; omega
      have hl2 : (((o.length : Nat) : Int) + 1 == (0 : Int)) = false := by simp; omega
      cases c1 : u.any fun y => y == (l[i]).1 <;> cases c2 : v269 s l[i] e <;> by_cases c3 : (l[i]).2.2.2.1 > b <;> by_cases c4 : (l[i]).2.2.2.1 < b <;> try exact (Int.lt_asymm c3 c4).elim
      all_goals (try (have c5 := opGt c3))
      all_goals (try (have c5 := opMid c3 c4))
      all_goals simp [s76_0, t76_0, hi, h1, optC_some, hw, hh.1, hh.2, hf.1, hf.2.1, hf.2.2, c1, c2, c3, c4, optF, optB, hl, hl2]
      all_goals try simp [hl2, c5]
      all_goals try (simp only [List.length_cons] at hz2; simp [hz2])
      all_goals try omega) (by simp [s76_0, t76_0]) l.length 0 (n76_0 (u, [], 0, l, ((l).length : Int), 0, s, e, [], ())) (by omega) (by simp only [n76_0]; omega)
  have hk : k76_0 u [] 0 l ((l).length : Int) 0 s e [] 0 = true := at_of h 0
  have hw : w76_0 u [] 0 l ((l).length : Int) 0 s e [] = _ := val_of h
  unfold d76 v76
  rw [hk, hw]
  exact ⟨rfl, by simp⟩
theorem options (s : Ty.T y36) (l : List (Ty.T y108)) (e : Ty.T y27) (u : List (Ty.T (.int .i64))) (hb : s.1.length <= 1048576) (hs : s.2.1.length <= 1048576) (hn : l.length <= 1048576) (hu : u.length <= 1048576) (hv : ∀ x ∈ l, x.2.2.2.2.2.2.1.2.2.2.2.2.2.length <= 1048576) : d243 s l e u = true /\ d76 s l e u = true /\ v76 s l e u = v243 s l e u /\ (v243 s l e u).length <= l.length /\ (∀ y ∈ v243 s l e u, (∃ x ∈ l, x.1 = y) /\ (u.any fun z => z == y) = false) := by
  have h1 := optS s l e u hb hs hn hu hv
  have h2 := optI s l e u hb hs hn hu hv
  have h3 := optAll s e l u hv l.length (Nat.le_refl _)
  rw [List.take_length] at h3
  rw [h1.2, h2.2]
  exact ⟨h1.1, h2.1, rfl, h3.len, h3.mem⟩
theorem dix (l : List (Ty.T y27)) (hb : l.length <= 1048576) : d249c2 l = true /\ v249c2 l = (match first (fun i => match l[i]? with | some x => (v288 x) | none => false) 0 l.length with | some j => (j : Int) | none => -1) := by
  have h := find_iter (s := s249c2_0) (mk := fun i => (l, 0, ((l).length : Int), i, ())) (fin := fun i => (l, (i : Int), ((l).length : Int), (i : Int), ())) (p := fun i => match l[i]? with | some x => (v288 x) | none => false) (N := l.length) (fun i hi => by
    have h1 := List.getElem?_eq_getElem hi
    simp only [h1]
    skip
    cases ht : ((v288 l[i]) : Bool) <;> simp [s249c2_0, t249c2_0, optC_some, hi, h1, ht,  wrap_nat (n := i) (by omega)]) (by simp [s249c2_0, t249c2_0]) l.length 0 (n249c2_0 (l, 0, ((l).length : Int), 0, ())) (by omega) (by simp [n249c2_0]; omega)
  unfold d249c2 v249c2
  revert h
  generalize first _ 0 l.length = o
  intro h
  cases o with
  | none =>
    have e0 : k249c2_0 l 0 ((l).length : Int) 0 0 = false := at_of h 0
    have e1 : k249c2_0 l 0 ((l).length : Int) 0 1 = true := at_of h 1
    rw [e0, e1]
    exact ⟨rfl, rfl⟩
  | some j =>
    have e0 : k249c2_0 l 0 ((l).length : Int) 0 0 = true := at_of h 0
    have hw : w249c2_0 l 0 ((l).length : Int) 0 = _ := val_of h
    rw [e0, hw]
    exact ⟨rfl, rfl⟩
theorem delF (l : List (Ty.T y27)) (hb : l.length <= 1048576) : d176g1 l = true /\ v176g1 l = l.filter fun x => !v288 x := by
  have h0 := dix l hb
  cases hf : first (fun i => match l[i]? with | some x => (v288 x) | none => false) 0 l.length with
  | none =>
    rw [hf] at h0
    have hk := take_kept (p := v288) (xs := l) (j := l.length) (fun t x ht hx => by have := first_none hf t (by omega) (by omega); simpa only [hx] using this) (Nat.le_refl _)
    rw [List.take_length] at hk
    unfold d176g1 v176g1 t176g1
    try simp only [nfs]
    rw [h0.1, h0.2, ← hk]
    exact ⟨rfl, rfl⟩
  | some j =>
    rw [hf] at h0
    obtain ⟨_, hj, hp⟩ := first_some hf
    have hk := take_kept (p := v288) (xs := l) (j := j) (fun t x ht hx => by have := first_min hf t (by omega) (by omega); simpa only [hx] using this) (by omega)
    have hx : l[j]? = some l[j] := List.getElem?_eq_getElem (by omega)
    simp only [hx] at hp
    have hw1 := wrap_nat (n := j) (by omega)
    have h := inv_iter (s := s176g1_0) (mk := fun k : List (Ty.T y27) × Nat × Nat => ([], (k.2.1 : Int), (k.2.2 : Int), k.1, ()))
      (Inv := fun t k => k.2.2 = t /\ k.2.1 < t /\ k.1.length = l.length /\ k.1.take k.2.1 = (l.take t).filter (fun x => !v288 x) /\ ∀ r, t <= r -> k.1[r]? = l[r]?)
      (Q := fun v => ∃ (i : Nat) (m : List (Ty.T y27)), v = ([], (i : Int), (l.length : Int), m, ()) /\ i <= m.length /\ m.take i = l.filter fun x => !v288 x)
      (c := 0) (N := l.length) (fun t k ht hI => by
        obtain ⟨m, i, r⟩ := k
        obtain ⟨hr, hi, hl, htk, hd⟩ := hI
        dsimp only at hr hi hl htk hd
        subst hr
        have hx : l[r]? = some l[r] := List.getElem?_eq_getElem ht
        have hm : m[r]? = some l[r] := by rw [hd r (Nat.le_refl _), hx]
        obtain ⟨y, hy⟩ : ∃ y, m[i]? = some y := ⟨m[i]'(by omega), List.getElem?_eq_getElem _⟩
        have g1 : (r : Int) < (m.length : Int) := by omega
        have g2 : (i : Int) < (m.length : Int) := by omega
        have g3 := wrap_nat (n := r) (by omega)
        have g4 := wrap_nat (n := i) (by omega)
        have g5 : (0 : Int) <= (r : Int) := by omega
        have g6 : (0 : Int) <= (i : Int) := by omega
        cases hq : v288 l[r] with
        | false =>
          have h := keep_step (q := fun x => !v288 x) hx hi hl htk hd (by rw [hq]; rfl)
          refine ⟨(m.set i l[r], i + 1, r + 1), ?_, rfl, h⟩
          simp only [s176g1_0, t176g1_0, decide_eq_true g1, cond_true, if_pos g5, if_pos g1, Int.toNat_natCast, hm, optC_some, hq, Bool.not_false, if_pos g6, if_pos g2, hy, g3, g4]
        | true =>
          have h := keep_skip (q := fun x => !v288 x) hx hi htk hd (by rw [hq]; rfl)
          refine ⟨(m, i, r + 1), ?_, rfl, h.1, hl, h.2⟩
          simp only [s176g1_0, t176g1_0, decide_eq_true g1, cond_true, if_pos g5, if_pos g1, Int.toNat_natCast, hm, optC_some, hq, Bool.not_true, cond_false, g3])
      (fun k hI => by
        obtain ⟨m, i, r⟩ := k
        obtain ⟨hr, hi, hl, htk, hd⟩ := hI
        dsimp only at hr hi hl htk hd
        subst hr
        refine ⟨_, ?_, i, m, rfl, by omega, by rw [htk, List.take_length]⟩
        have g1 : ¬ ((l.length : Int) < (m.length : Int)) := by omega
        simp only [s176g1_0, t176g1_0, decide_eq_false g1, cond_false])
      (l.length - (j + 1)) (j + 1) (n176g1_0 ([], (j : Int), ((j + 1 : Nat) : Int), l, ())) (l, j, j + 1) (by omega) (by simp only [n176g1_0]; omega) ⟨rfl, Nat.lt_succ_self j, rfl, by rw [filter_snoc hx, ← hk]; simp [hp], fun _ _ => rfl⟩
    obtain ⟨v', hv, i, m, rfl, hi, hm⟩ := h
    have hkk : k176g1_0 [] (j : Int) ((j + 1 : Nat) : Int) l 0 = true := at_of hv 0
    have hww : w176g1_0 [] (j : Int) ((j + 1 : Nat) : Int) l = _ := val_of hv
    have e1 : (((j : Nat) : Int) == (-1 : Int)) = false := by simp
    have e2 : ∀ R D : List (Ty.T y27), ((m.take i ++ R ++ D).take i) = m.take i := fun R D => by rw [List.append_assoc, List.take_append_of_le_length (by simp; omega), List.take_take, Nat.min_self]
    have g0 : (0 : Int) <= (i : Int) := by omega
    have g1 : (i : Int) <= (m.length : Int) := by omega
    have g2 : ∀ R D : List (Ty.T y27), (i : Int) <= ((m.take i ++ R ++ D).length : Int) := fun R D => by simp only [List.length_append, List.length_take]; omega
    unfold d176g1 v176g1 t176g1
    try simp only [nfs]
    rw [h0.1, h0.2]
    simp only [e1, hw1, hkk, hww, cond_true, cond_false, if_pos g0, if_pos g1, if_pos (g2 _ _), decide_eq_true g0, decide_eq_true g1, decide_eq_true (g2 _ _), Bool.and_true, Int.toNat_natCast, e2]
    rw [hm]
    exact ⟨trivial, rfl⟩
theorem spent (e : Ty.T y108) (n : Int) (hb : e.2.2.2.2.2.2.1.2.2.2.2.2.2.length <= 1048576) : d275 e n = true /\ d289 e n = true /\ v289 e n = v275 e n := by
  have h1 := cpS e hb
  have h2 := cpI e hb
  unfold d275 d289 v275 v289 t275 t289
  try simp only [nfs]
  rw [h1.1, h1.2, h2.1, h2.2]
  simp only [cond_true, uptoE, less]
  cases (e.2.2.2.2.2.2.1.1 == (2 : Int)) <;> cases decide (e.2.2.2.2.2.2.2.2 > (0 : Int)) <;> simp
theorem actd' (i1 i2 i3 i4 : Int) (p : Ty.T y102) (g : Ty.T y104) (k n po t z : Int) (b : Bool) (l : List (Ty.T y27)) (u lf : Int) (v : Ty.T y27) (e : Ty.T y108) (he : e = (i1, i2, i3, i4, p, g, (k, n, po, t, z, b, l), u, lf)) (hb : l.length <= 1048576) : g214_1 ([], 0, 0, e.2.2.2.2.2.2.1.1, (e.2.2.2.2.2.2.1.1 == (1 : Int)), e, v, (0, 0, 0, 0, (0, 0, 0, 0, 0, 0, 0), (0, 0), (0, 0, 0, 0, 0, false, []), 0, 0), [], ()) = true /\ d287 e v = true /\ v287 e v = c214_1 ([], 0, 0, e.2.2.2.2.2.2.1.1, (e.2.2.2.2.2.2.1.1 == (1 : Int)), e, v, (0, 0, 0, 0, (0, 0, 0, 0, 0, 0, 0), (0, 0), (0, 0, 0, 0, 0, false, []), 0, 0), [], ()) := by
  have hp := parts (k, n, po, t, z, b, l) v hb
  subst he
  by_cases k1 : k = 1
  · subst k1
    simp [g214_1, c214_1, t214_1, v287, t287, d287, v274, t274, uptoE, withN, amount, hp.1, hp.2.1, hp.2.2, e287_0, nfs]
    try (cases (v.1 == (1 : Int)) <;> simp)
  by_cases k2 : k = 2
  · subst k2
    simp [g214_1, c214_1, t214_1, v287, t287, d287, v274, t274, uptoE, withN, amount, hp.1, hp.2.1, hp.2.2, e287_0, nfs]
    try (skip)
  by_cases k3 : k = 3
  · subst k3
    simp [g214_1, c214_1, t214_1, v287, t287, d287, v274, t274, uptoE, withN, amount, hp.1, hp.2.1, hp.2.2, e287_0, nfs]
    try (skip)
  by_cases k4 : k = 4
  · subst k4
    simp [g214_1, c214_1, t214_1, v287, t287, d287, v274, t274, uptoE, withN, amount, hp.1, hp.2.1, hp.2.2, e287_0, nfs]
    try (skip)
  by_cases k5 : k = 5
  · subst k5
    simp [g214_1, c214_1, t214_1, v287, t287, d287, v274, t274, uptoE, withN, amount, hp.1, hp.2.1, hp.2.2, e287_0, nfs]
    try (skip)
  by_cases k6 : k = 6
  · subst k6
    simp [g214_1, c214_1, t214_1, v287, t287, d287, v274, t274, uptoE, withN, amount, hp.1, hp.2.1, hp.2.2, e287_0, nfs]
    try (skip)
  by_cases k7 : k = 7
  · subst k7
    simp [g214_1, c214_1, t214_1, v287, t287, d287, v274, t274, uptoE, withN, amount, hp.1, hp.2.1, hp.2.2, e287_0, nfs]
    try (cases (z != (2 : Int)) <;> simp)
  by_cases k8 : k = 8
  · subst k8
    simp [g214_1, c214_1, t214_1, v287, t287, d287, v274, t274, uptoE, withN, amount, hp.1, hp.2.1, hp.2.2, e287_0, nfs]
    try (cases (v.2.2.2.2.2.1 == (2 : Int)) <;> cases v.2.2.2.2.2.2 <;> simp)
  by_cases k9 : k = 9
  · subst k9
    simp [g214_1, c214_1, t214_1, v287, t287, d287, v274, t274, uptoE, withN, amount, hp.1, hp.2.1, hp.2.2, e287_0, nfs]
    try (skip)
  have j1 : (k == (1 : Int)) = false := by simpa using k1
  have j2 : (k == (2 : Int)) = false := by simpa using k2
  have j3 : (k == (3 : Int)) = false := by simpa using k3
  have j4 : (k == (4 : Int)) = false := by simpa using k4
  have j5 : (k == (5 : Int)) = false := by simpa using k5
  have j6 : (k == (6 : Int)) = false := by simpa using k6
  have j7 : (k == (7 : Int)) = false := by simpa using k7
  have j8 : (k == (8 : Int)) = false := by simpa using k8
  have j9 : (k == (9 : Int)) = false := by simpa using k9
  simp [g214_1, c214_1, t214_1, v287, t287, d287, v274, t274, uptoE, withN, amount, hp.1, hp.2.1, hp.2.2, e287_0, j1, j2, j3, j4, j5, j6, j7, j8, j9, nfs]
theorem actd (e : Ty.T y108) (v : Ty.T y27) (hb : e.2.2.2.2.2.2.1.2.2.2.2.2.2.length <= 1048576) : g214_1 ([], 0, 0, e.2.2.2.2.2.2.1.1, (e.2.2.2.2.2.2.1.1 == (1 : Int)), e, v, (0, 0, 0, 0, (0, 0, 0, 0, 0, 0, 0), (0, 0), (0, 0, 0, 0, 0, false, []), 0, 0), [], ()) = true /\ d287 e v = true /\ v287 e v = c214_1 ([], 0, 0, e.2.2.2.2.2.2.1.1, (e.2.2.2.2.2.2.1.1 == (1 : Int)), e, v, (0, 0, 0, 0, (0, 0, 0, 0, 0, 0, 0), (0, 0), (0, 0, 0, 0, 0, false, []), 0, 0), [], ()) := by
  obtain ⟨i1, i2, i3, i4, p, g, ⟨k, n, po, t, z, b, l⟩, u, lf⟩ := e
  exact actd' i1 i2 i3 i4 p g k n po t z b l u lf v _ rfl hb
theorem actLen (e : Ty.T y108) (v : Ty.T y27) (hb : e.2.2.2.2.2.2.1.2.2.2.2.2.2.length <= 1048576) : (c214_1 ([], 0, 0, e.2.2.2.2.2.2.1.1, (e.2.2.2.2.2.2.1.1 == (1 : Int)), e, v, (0, 0, 0, 0, (0, 0, 0, 0, 0, 0, 0), (0, 0), (0, 0, 0, 0, 0, false, []), 0, 0), [], ())).2.length <= 1048576 := by
  have hp := parts e.2.2.2.2.2.2.1 v hb
  have hl := partsLen e.2.2.2.2.2.2.1 v hb
  simp only [c214_1, t214_1, hp.1]
  cases h1 : (e.2.2.2.2.2.2.1.1 == (1 : Int)) <;> cases h2 : (v.1 == (1 : Int)) <;> cases h3 : (e.2.2.2.2.2.2.1.1 == (2 : Int)) <;> cases h4 : (e.2.2.2.2.2.2.1.1 == (9 : Int)) <;> simp <;> omega
theorem actParts' (n po t z : Int) (b : Bool) (l : List (Ty.T y27)) (h : v285 ((9, n, po, t, z, b, l) : Ty.T y106) = true) : l.length <= 3 := by
  rcases Nat.lt_or_ge 3 l.length with hl | hl
  · exfalso
    have hf : v165 (l.length : Int) 1 3 = false := by simp [v165]; omega
    simp [v285, t285, c285_1, t285_1, c285_3, t285_3, g285_3, hf, nfs] at h
  · exact hl
theorem okParts (e : Ty.T y108) (hb : e.2.2.2.2.2.2.1.2.2.2.2.2.2.length <= 1048576) (h : v242 e = true) (h9 : e.2.2.2.2.2.2.1.1 = 9) : e.2.2.2.2.2.2.1.2.2.2.2.2.2.length <= 3 := by
  rw [← (effectOk e hb).2.2] at h
  have ha : v285 e.2.2.2.2.2.2.1 = true := by
    cases hc : v285 e.2.2.2.2.2.2.1 with
    | true => rfl
    | false =>
      exfalso
      have hd := (actOk e.2.2.2.2.2.2.1 hb).2.1
      simp [v227, t227, hc, hd, nfs] at h
  obtain ⟨i1, i2, i3, i4, p, g, ⟨k, n, po, t, z, b, l⟩, u, lf⟩ := e
  dsimp only at h9 ha ⊢
  subst h9
  exact actParts' n po t z b l ha
theorem actLen3 (e : Ty.T y108) (v : Ty.T y27) (hb : e.2.2.2.2.2.2.1.2.2.2.2.2.2.length <= 1048576) (h : v242 e = true) : (c214_1 ([], 0, 0, e.2.2.2.2.2.2.1.1, (e.2.2.2.2.2.2.1.1 == (1 : Int)), e, v, (0, 0, 0, 0, (0, 0, 0, 0, 0, 0, 0), (0, 0), (0, 0, 0, 0, 0, false, []), 0, 0), [], ())).2.length <= 3 := by
  have hp := parts e.2.2.2.2.2.2.1 v hb
  have hl := partsLen e.2.2.2.2.2.2.1 v hb
  by_cases h9 : e.2.2.2.2.2.2.1.1 = 9
  · have h3 := okParts e hb h h9
    simp only [c214_1, t214_1, hp.1, h9]
    simp
    omega
  · have h4 : (e.2.2.2.2.2.2.1.1 == (9 : Int)) = false := by simpa using h9
    simp only [c214_1, t214_1, hp.1, h4]
    cases h1 : (e.2.2.2.2.2.2.1.1 == (1 : Int)) <;> cases h2 : (v.1 == (1 : Int)) <;> cases h3 : (e.2.2.2.2.2.2.1.1 == (2 : Int)) <;> simp
theorem keepS (x : Ty.T y27) : (!v288 x) = cond (v157 x) (!v244 x) false := by
  unfold v288
  rw [evOk, gone]
  cases v157 x <;> rfl
theorem actLoop (e : Ty.T y108) (r : Int) (l : List (Ty.T y27)) (hb : l.length <= 1048576) : iter s214_2 (n214_2 ([], 0, r, 0, e, (0, 0, 0, 0, (0, 0, 0, 0, 0, 0, 0), (0, 0), (0, 0, 0, 0, 0, false, []), 0, 0), l, [], ())) ([], 0, r, 0, e, (0, 0, 0, 0, (0, 0, 0, 0, 0, 0, 0), (0, 0), (0, 0, 0, 0, 0, false, []), 0, 0), l, [], ()) = some (0, ([], 0, r, (l.length : Int), e, (0, 0, 0, 0, (0, 0, 0, 0, 0, 0, 0), (0, 0), (0, 0, 0, 0, 0, false, []), 0, 0), l, (l.filter fun x => !v288 x), ())) := by
  refine seq_iter (s := s214_2) (f := fun i => ([], 0, r, (i : Int), e, (0, 0, 0, 0, (0, 0, 0, 0, 0, 0, 0), (0, 0), (0, 0, 0, 0, 0, false, []), 0, 0), l, ((l.take i).filter fun x => !v288 x), ())) (c := 0) (N := l.length) (fun i hi => ?_) ?_ l.length 0 _ (by omega) (by simp only [n214_2]; omega)
  · have h1 : l[i]? = some l[i] := List.getElem?_eq_getElem hi
    have hw := wrap_nat (n := i) (by omega)
    have hz : ∀ x : Ty.T y27, ((l.take i).filter (fun x => !v288 x) ++ [x]).length * 56 <= 140737488351232 := fun x => by
      have := List.length_filter_le (fun x => !v288 x) (l.take i)
      simp only [List.length_append, List.length_cons, List.length_nil, List.length_take] at this ⊢
      omega
    have g5 : (0 : Int) <= (i : Int) := by omega
    have g6 : (i : Int) < (l.length : Int) := by omega
    have hk := keepS l[i]
    rw [filter_snoc h1, hk]
    cases c1 : v157 l[i] <;> cases c2 : v244 l[i] <;> simp only [s214_2, t214_2, g214_3, t214_3, e214_0, c214_3, g214_4, c214_4, t214_4, decide_eq_true g6, cond_true, cond_false, if_pos g5, if_pos g6, Int.toNat_natCast, h1, optC_some, c1, c2, hw, Bool.not_true, Bool.not_false, if_pos (hz _), decide_eq_true (hz _), decide_eq_true g5, Bool.and_true, List.append_nil, Option.getD_some, Option.isSome_some]
  · simp [s214_2, t214_2]
theorem doAct (e : Ty.T y108) (v : Ty.T y27) (hb : e.2.2.2.2.2.2.1.2.2.2.2.2.2.length <= 1048576) : d214 e v = true /\ d228 e v = true /\ v228 e v = v214 e v /\ (v214 e v).2.2.2.1.length <= 3 /\ (v214 e v).2.2.2.2 = e.2.2.2.2.2.2.1.2.2.2.2.2.2 /\ (v214 e v).2.1 = (((e.1, e.2.1, e.2.2.1, e.2.2.2.1, e.2.2.2.2.1, e.2.2.2.2.2.1, e.2.2.2.2.2.2.1.1, e.2.2.2.2.2.2.1.2.1, e.2.2.2.2.2.2.1.2.2.1, e.2.2.2.2.2.2.1.2.2.2.1, e.2.2.2.2.2.2.1.2.2.2.2.1, e.2.2.2.2.2.2.1.2.2.2.2.2.1), e.2.2.2.2.2.2.2, e.2.2.2.2.2.2.1.2.2.2.2.2.2)).1 := by
  have h1 := effectOk e hb
  have h2 := actd e v hb
  have h3 := actLoop e (c214_1 ([], 0, 0, e.2.2.2.2.2.2.1.1, (e.2.2.2.2.2.2.1.1 == (1 : Int)), e, v, (0, 0, 0, 0, (0, 0, 0, 0, 0, 0, 0), (0, 0), (0, 0, 0, 0, 0, false, []), 0, 0), [], ())).1 (c214_1 ([], 0, 0, e.2.2.2.2.2.2.1.1, (e.2.2.2.2.2.2.1.1 == (1 : Int)), e, v, (0, 0, 0, 0, (0, 0, 0, 0, 0, 0, 0), (0, 0), (0, 0, 0, 0, 0, false, []), 0, 0), [], ())).2 (actLen e v hb)
  have h4 := cpS e hb
  have h5 := cpI e hb
  have h6 := spent e (c214_1 ([], 0, 0, e.2.2.2.2.2.2.1.1, (e.2.2.2.2.2.2.1.1 == (1 : Int)), e, v, (0, 0, 0, 0, (0, 0, 0, 0, 0, 0, 0), (0, 0), (0, 0, 0, 0, 0, false, []), 0, 0), [], ())).1 hb
  have h7 := delF (c214_1 ([], 0, 0, e.2.2.2.2.2.2.1.1, (e.2.2.2.2.2.2.1.1 == (1 : Int)), e, v, (0, 0, 0, 0, (0, 0, 0, 0, 0, 0, 0), (0, 0), (0, 0, 0, 0, 0, false, []), 0, 0), [], ())).2 (actLen e v hb)
  have h8 := actLen e v hb
  have hk : k214_2 [] 0 (c214_1 ([], 0, 0, e.2.2.2.2.2.2.1.1, (e.2.2.2.2.2.2.1.1 == (1 : Int)), e, v, (0, 0, 0, 0, (0, 0, 0, 0, 0, 0, 0), (0, 0), (0, 0, 0, 0, 0, false, []), 0, 0), [], ())).1 0 e (0, 0, 0, 0, (0, 0, 0, 0, 0, 0, 0), (0, 0), (0, 0, 0, 0, 0, false, []), 0, 0) (c214_1 ([], 0, 0, e.2.2.2.2.2.2.1.1, (e.2.2.2.2.2.2.1.1 == (1 : Int)), e, v, (0, 0, 0, 0, (0, 0, 0, 0, 0, 0, 0), (0, 0), (0, 0, 0, 0, 0, false, []), 0, 0), [], ())).2 [] 0 = true := at_of h3 0
  have hw : w214_2 [] 0 (c214_1 ([], 0, 0, e.2.2.2.2.2.2.1.1, (e.2.2.2.2.2.2.1.1 == (1 : Int)), e, v, (0, 0, 0, 0, (0, 0, 0, 0, 0, 0, 0), (0, 0), (0, 0, 0, 0, 0, false, []), 0, 0), [], ())).1 0 e (0, 0, 0, 0, (0, 0, 0, 0, 0, 0, 0), (0, 0), (0, 0, 0, 0, 0, false, []), 0, 0) (c214_1 ([], 0, 0, e.2.2.2.2.2.2.1.1, (e.2.2.2.2.2.2.1.1 == (1 : Int)), e, v, (0, 0, 0, 0, (0, 0, 0, 0, 0, 0, 0), (0, 0), (0, 0, 0, 0, 0, false, []), 0, 0), [], ())).2 [] = _ := val_of h3
  have hs : (v275 e (c214_1 ([], 0, 0, e.2.2.2.2.2.2.1.1, (e.2.2.2.2.2.2.1.1 == (1 : Int)), e, v, (0, 0, 0, 0, (0, 0, 0, 0, 0, 0, 0), (0, 0), (0, 0, 0, 0, 0, false, []), 0, 0), [], ())).1).2.2 = e.2.2.2.2.2.2.1.2.2.2.2.2.2 /\ (v275 e (c214_1 ([], 0, 0, e.2.2.2.2.2.2.1.1, (e.2.2.2.2.2.2.1.1 == (1 : Int)), e, v, (0, 0, 0, 0, (0, 0, 0, 0, 0, 0, 0), (0, 0), (0, 0, 0, 0, 0, false, []), 0, 0), [], ())).1).1 = (((e.1, e.2.1, e.2.2.1, e.2.2.2.1, e.2.2.2.2.1, e.2.2.2.2.2.1, e.2.2.2.2.2.2.1.1, e.2.2.2.2.2.2.1.2.1, e.2.2.2.2.2.2.1.2.2.1, e.2.2.2.2.2.2.1.2.2.2.1, e.2.2.2.2.2.2.1.2.2.2.2.1, e.2.2.2.2.2.2.1.2.2.2.2.2.1), e.2.2.2.2.2.2.2, e.2.2.2.2.2.2.1.2.2.2.2.2.2)).1 := by
    unfold v275 t275
    try simp only [nfs]
    rw [h4.1, h4.2]
    simp only [cond_true]
    cases (e.2.2.2.2.2.2.1.1 == (2 : Int)) <;> cases decide (e.2.2.2.2.2.2.2.2 > (0 : Int)) <;> exact ⟨rfl, rfl⟩
  have hg : g214_0 ([], 0, e, v, (0, 0, 0, 0, (0, 0, 0, 0, 0, 0, 0), (0, 0), (0, 0, 0, 0, 0, false, []), 0, 0), ()) = true /\ c214_0 ([], 0, e, v, (0, 0, 0, 0, (0, 0, 0, 0, 0, 0, 0), (0, 0), (0, 0, 0, 0, 0, false, []), 0, 0), ()) = cond (!v242 e) true (cond (!v157 v) true (!v271 e.2.2.2.2.2.2.1 v.1)) := by
    simp only [g214_0, c214_0, t214_0, h1.1, cond_true]
    cases v242 e <;> cases v157 v <;> exact ⟨rfl, rfl⟩
  unfold d214 d228 v214 v228 t214 t228
  try simp only [nfs]
  rw [hg.1, hg.2, h1.2.1, h1.2.2, evOk, actFits]
  cases c1 : v242 e
  · rw [h4.1, h4.2, h5.1, h5.2]
    simp
  cases c2 : v157 v
  · rw [h4.1, h4.2, h5.1, h5.2]
    simp
  cases c3 : v271 e.2.2.2.2.2.2.1 v.1
  · rw [h4.1, h4.2, h5.1, h5.2]
    simp
  have h9 : ((c214_1 ([], 0, 0, e.2.2.2.2.2.2.1.1, (e.2.2.2.2.2.2.1.1 == (1 : Int)), e, v, (0, 0, 0, 0, (0, 0, 0, 0, 0, 0, 0), (0, 0), (0, 0, 0, 0, 0, false, []), 0, 0), [], ())).2.filter fun x => !v288 x).length <= 3 := Nat.le_trans (List.length_filter_le _ _) (actLen3 e v hb c1)
  simp only [e214_1, e214_2]
  rw [h2.1, h2.2.1, h2.2.2, hk, hw]
  simp only [h7.1, h7.2, h6.1, h6.2.1, h6.2.2, hs.1, hs.2, h9, cond_true, cond_false, Bool.not_true, Option.getD_some, Option.isSome_some, and_true, true_and]
theorem eaR (l : List (Ty.T y108)) (id : Int) (hb : l.length <= 1048576) : (v246 l id < 0 /\ ∀ x ∈ l, ¬ x.1 = id) ∨ (∃ (j : Nat) (p : Ty.T y108), v246 l id = (j : Int) /\ j < l.length /\ l[j]? = some p /\ p.1 = id) := by
  rw [(ea l id hb).2]
  cases h : first (fun i => match l[i]? with | some x => (x.1 == id) | none => false) 0 l.length with
  | none =>
    refine .inl ⟨by decide, fun x hx => ?_⟩
    obtain ⟨i, hi, rfl⟩ := List.mem_iff_getElem.1 hx
    have := first_none h i (by omega) (by omega)
    simp only [List.getElem?_eq_getElem hi] at this
    simpa using this
  | some j =>
    obtain ⟨_, hj, hp⟩ := first_some h
    have e : l[j]? = some l[j] := List.getElem?_eq_getElem (by omega)
    simp only [e] at hp
    exact .inr ⟨j, l[j], rfl, by omega, e, eq_of_beq hp⟩
theorem update (T : List (Ty.T y108)) (n : Ty.T y108) (hb : T.length <= 1048576) (hv : ∀ x ∈ T, x.2.2.2.2.2.2.1.2.2.2.2.2.2.length <= 1048576) (hn : n.2.2.2.2.2.2.1.2.2.2.2.2.2.length <= 1048576) : d247 T n = true /\ d231 T n = true /\ v231 T n = v247 T n /\ (v247 T n).map (·.1) = T.map (·.1) /\ ∀ x ∈ v247 T n, x.2.2.2.2.2.2.1.2.2.2.2.2.2.length <= 1048576 := by
  have h1 := ctS T hb hv
  have h2 := ctI T hb hv
  have h3 := cpS n hn
  have h4 := cpI n hn
  have h5 := ei T n.1 hb
  have h6 := ea T n.1 hb
  unfold d247 d231 v247 v231 t247 t231
  try simp only [nfs]
  rw [h1.1, h1.2, h2.1, h2.2, h3.1, h3.2, h4.1, h4.2, h5.1, h5.2, h6.1]
  rcases eaR T n.1 hb with ⟨h, _⟩ | ⟨j, p, hj, hl, hp, hi⟩
  · have e : ¬ v246 T n.1 ≥ 0 := by omega
    rw [decide_eq_false e]
    exact ⟨rfl, rfl, rfl, rfl, hv⟩
  · have g0 : (0 : Int) <= (j : Int) := by omega
    have g1 : (j : Int) < (T.length : Int) := by omega
    have g2 : (j : Int) ≥ 0 := g0
    rw [hj]
    simp only [decide_eq_true g2, decide_eq_true g0, decide_eq_true g1, cond_true, if_pos g0, if_pos g1, Int.toNat_natCast, hp, optC_some, optD, optV, Option.getD_some, Option.isSome_some, Bool.and_true, true_and, and_true]
    refine ⟨?_, fun x hx => ?_⟩
    · rw [List.map_set]
      apply List.ext_getElem?
      intro i
      by_cases hij : j = i
      · subst hij
        simp [hl, hp, hi]
        rw [(List.getElem?_eq_some_iff.1 hp).2]
        exact hi.symm
      · rw [List.getElem?_set_ne hij]
    · rcases List.mem_or_eq_of_mem_set hx with h | rfl
      · exact hv x h
      · exact hn
theorem setIn (h0 : List (Ty.T (.int .i64))) (h1 : List (Ty.T (.int .i64))) (h4 : Int) (h5 : List (Ty.T (.int .i64))) (h6 : Int) (h7 : Bool) (h8 : List (Ty.T (.int .i64))) (h9 : Int) (h10 : Int) (h11 : Int) (h12 : Bool) (h13 : Int) (i : Nat) (l : List (Ty.T (.int .i64))) (x : Ty.T (.int .i64)) (hx : h0[i]? = some x) (hb : l.length <= 2097152) : ∃ p : Nat, p <= l.length /\ iter s301_1 (n301_1 (h0, h1, (i : Int), (l.length : Int), h4, h5, h6, h7, h8, h9, h10, h11, h12, h13, l, ())) (h0, h1, (i : Int), (l.length : Int), h4, h5, h6, h7, h8, h9, h10, h11, h12, h13, l, ()) = some (0, (h0, h1, (i : Int), (p : Int), h4, h5, h6, h7, h8, h9, h10, h11, h12, h13, l, ())) := by
  obtain ⟨v', h1, p, hp, rfl⟩ := run_iter (s := s301_1) (Q := fun v => ∃ p : Nat, p <= l.length /\ v = (h0, h1, (i : Int), (p : Int), h4, h5, h6, h7, h8, h9, h10, h11, h12, h13, l, ())) (fun k v => k <= l.length /\ v = (h0, h1, (i : Int), (k : Int), h4, h5, h6, h7, h8, h9, h10, h11, h12, h13, l, ())) (fun k v hI => by
    obtain ⟨hk, rfl⟩ := hI
    cases k with
    | zero =>
      refine .inl ⟨_, ?_, 0, Nat.zero_le _, rfl⟩
      simp [s301_1, t301_1, g301_2, c301_2, t301_2]
    | succ k =>
      have hw : IntKind.wrap .i64 (((k + 1 : Nat) : Int) - 1) = (k : Int) := wrap_pred k (by omega)
      obtain ⟨y, hy⟩ : ∃ y, l[k]? = some y := ⟨l[k]'(by omega), List.getElem?_eq_getElem _⟩
      have g0 : ((k + 1 : Nat) : Int) > 0 := by omega
      have g1 : (0 : Int) <= (k : Int) := by omega
      have g2 : (k : Int) < (l.length : Int) := by omega
      have g3 : (0 : Int) <= (i : Int) := by omega
      by_cases hc : y > x
      · exact .inr ⟨k, _, rfl, by simp only [s301_1, t301_1, g301_2, c301_2, t301_2, decide_eq_true g0, cond_true, hw, if_pos g1, if_pos g2, decide_eq_true g1, decide_eq_true g2, Int.toNat_natCast, hy, optC_some, if_pos g3, decide_eq_true g3, hx, optD, optV, Option.isSome_some, Option.getD_some, Bool.and_true, decide_eq_true hc], by omega, rfl⟩
      · exact .inl ⟨_, by simp only [s301_1, t301_1, g301_2, c301_2, t301_2, decide_eq_true g0, cond_true, hw, if_pos g1, if_pos g2, decide_eq_true g1, decide_eq_true g2, Int.toNat_natCast, hy, optC_some, if_pos g3, decide_eq_true g3, hx, optD, optV, Option.isSome_some, Option.getD_some, Bool.and_true, decide_eq_false hc, cond_false], k + 1, hk, rfl⟩) l.length (h0, h1, (i : Int), (l.length : Int), h4, h5, h6, h7, h8, h9, h10, h11, h12, h13, l, ()) (n301_1 (h0, h1, (i : Int), (l.length : Int), h4, h5, h6, h7, h8, h9, h10, h11, h12, h13, l, ())) ⟨Nat.le_refl _, rfl⟩ (by simp only [n301_1]; omega)
  exact ⟨p, hp, h1⟩
theorem setInK (h0 : List (Ty.T (.int .i64))) (h1 : List (Ty.T (.int .i64))) (h4 : Int) (h5 : List (Ty.T (.int .i64))) (h6 : Int) (h7 : Bool) (h8 : List (Ty.T (.int .i64))) (h9 : Int) (h10 : Int) (h11 : Int) (h12 : Bool) (h13 : Int) (i : Nat) (l : List (Ty.T (.int .i64))) (x : Ty.T (.int .i64)) (hx : h0[i]? = some x) (hb : l.length <= 2097152) : ∃ p : Nat, p <= l.length /\ k301_1 h0 h1 (i : Int) (l.length : Int) h4 h5 h6 h7 h8 h9 h10 h11 h12 h13 l 0 = true /\ w301_1 h0 h1 (i : Int) (l.length : Int) h4 h5 h6 h7 h8 h9 h10 h11 h12 h13 l = (h0, h1, (i : Int), (p : Int), h4, h5, h6, h7, h8, h9, h10, h11, h12, h13, l, ()) := by
  obtain ⟨p, h1, h2⟩ := setIn h0 h1 h4 h5 h6 h7 h8 h9 h10 h11 h12 h13 i l x hx hb
  exact ⟨p, h1, at_of h2 0, val_of h2⟩
theorem nodup_take {xs : List (Ty.T (.int .i64))} (hn : xs.Nodup) {t : Nat} (ht : t < xs.length) : (xs.take t).any (fun y => y == xs[t]) = false := by
  rw [List.any_eq_false]
  intro y hy he
  obtain ⟨j, hj, rfl⟩ := List.mem_iff_getElem.1 hy
  rw [List.length_take] at hj
  have := List.pairwise_iff_getElem.1 hn j t (by omega) ht (by omega)
  rw [List.getElem_take] at he
  exact this (eq_of_beq he)
theorem setOf (xs : List (Ty.T (.int .i64))) (hn : xs.Nodup) (hb : xs.length <= 1048577) : d301 xs = true /\ (v301 xs).Perm xs := by
  have h := inv_iter (s := s301_0) (mk := fun k : Nat × List (Ty.T (.int .i64)) => (xs, [], (k.1 : Int), k.2, ())) (Inv := fun t k => k.1 = t /\ k.2.Perm (xs.take t)) (Q := fun v => ∃ l : List (Ty.T (.int .i64)), v = (xs, [], (xs.length : Int), l, ()) /\ l.Perm xs) (c := 0) (N := xs.length) (fun t k ht hI => by
    obtain ⟨r, l⟩ := k
    obtain ⟨hr, hp⟩ := hI
    dsimp only at hr hp
    subst hr
    have hx : xs[r]? = some xs[r] := List.getElem?_eq_getElem ht
    have hlen : l.length = r := by rw [hp.length_eq, List.length_take]; omega
    have hh := hasS l xs[r] (by omega)
    have hany : (l.any fun y => y == xs[r]) = false := by
      rw [List.any_eq_false]
      intro y hy
      have := List.any_eq_false.1 (nodup_take hn ht) y (hp.mem_iff.1 hy)
      exact this
    have g5 : (0 : Int) <= (r : Int) := by omega
    have g6 : (r : Int) < (xs.length : Int) := by omega
    have hw1 := wrap_nat (n := r) (by omega)
    obtain ⟨p, hpl, hk, hw⟩ := setInK xs [] (r : Int) xs (xs.length : Int) true xs (r : Int) xs[r] xs[r] false (l.length : Int) r l xs[r] hx (by omega)
    have g7 : (0 : Int) <= (p : Int) := by omega
    have g8 : (p : Int) <= (l.length : Int) := by omega
    have z1 : ([] ++ ((l.drop 0).take p) : List (Ty.T (.int .i64))).length * 8 <= 140737488351232 := by simp only [List.nil_append, List.length_take, List.length_drop]; omega
    have z2 : (([] ++ ((l.drop 0).take p)) ++ [xs[r]] : List (Ty.T (.int .i64))).length * 8 <= 140737488351232 := by simp only [List.nil_append, List.length_append, List.length_cons, List.length_nil, List.length_take, List.length_drop]; omega
    have z3 : ((([] ++ ((l.drop 0).take p)) ++ [xs[r]]) ++ ((l.drop p).take (l.length - p)) : List (Ty.T (.int .i64))).length * 8 <= 140737488351232 := by simp only [List.nil_append, List.length_append, List.length_cons, List.length_nil, List.length_take, List.length_drop]; omega
    refine ⟨(r + 1, (([] ++ ((l.drop 0).take p)) ++ [xs[r]]) ++ ((l.drop p).take (l.length - p))), ?_, rfl, ?_⟩
    · simp only [s301_0, t301_0, e301_0, decide_eq_true g6, cond_true, if_pos g5, Int.toNat_natCast, hx, optC_some, hh.1, hh.2, hany, cond_false, hk, hw]
      simp only [g301_3, c301_3, t301_3, if_pos g5, if_pos g7, if_pos g8, decide_eq_true g5, decide_eq_true g7, decide_eq_true g8, Int.toNat_natCast, hx, optC_some, optD, optV, if_pos z1, if_pos z2, if_pos z3, decide_eq_true z1, decide_eq_true z2, decide_eq_true z3, Bool.and_true, Option.isSome_some, Option.getD_some, cond_true, hw1]
    · show List.Perm _ (xs.take (r + 1))
      rw [take_snoc hx]
      have e : (([] ++ ((l.drop 0).take p)) ++ [xs[r]]) ++ ((l.drop p).take (l.length - p)) = l.take p ++ xs[r] :: l.drop p := by
        rw [List.take_of_length_le (l := l.drop p) (by rw [List.length_drop]; omega)]
        simp
      rw [e]
      have h3 : (l.take p ++ xs[r] :: l.drop p).Perm (xs[r] :: (l.take p ++ l.drop p)) := List.perm_middle
      rw [List.take_append_drop] at h3
      exact h3.trans ((List.Perm.cons _ hp).trans (List.perm_append_singleton _ _).symm))
    (fun k hI => by
      obtain ⟨r, l⟩ := k
      obtain ⟨hr, hp⟩ := hI
      dsimp only at hr hp
      subst hr
      rw [List.take_length] at hp
      refine ⟨_, ?_, l, rfl, hp⟩
      simp [s301_0, t301_0])
    xs.length 0 (n301_0 (xs, [], ((0 : Nat) : Int), [], ())) (0, []) (by omega) (by simp only [n301_0]; omega) ⟨rfl, by simp⟩
  obtain ⟨v', h1, l, rfl, hp⟩ := h
  have hk : k301_0 xs [] 0 [] 0 = true := at_of h1 0
  have hw : w301_0 xs [] 0 [] = _ := val_of h1
  unfold d301 v301 t301
  try simp only [nfs]
  rw [hk, hw]
  exact ⟨rfl, hp⟩
theorem withU (u : List (Ty.T (.int .i64))) (n : Int) (hn : u.Nodup) (hu : (u.any fun y => y == n) = false) (hb : u.length <= 1048576) : d248 u n = true /\ (v248 u n).Perm (u ++ [n]) := by
  have hd : (u ++ [n]).Nodup := by
    rw [List.nodup_append]
    refine ⟨hn, by simp, fun a ha b hb2 e => ?_⟩
    rw [List.mem_singleton] at hb2
    subst e hb2
    have := List.any_eq_false.1 hu _ ha
    simp at this
  have h := setOf (u ++ [n]) hd (by simp only [List.length_append, List.length_cons, List.length_nil]; omega)
  unfold d248 v248
  simp only [List.nil_append]
  rw [h.1]
  refine ⟨?_, h.2⟩
  have z1 : (u : List (Ty.T (.int .i64))).length * 8 <= 140737488351232 := by omega
  have z2 : (u ++ [n] : List (Ty.T (.int .i64))).length * 8 <= 140737488351232 := by simp only [List.length_append, List.length_cons, List.length_nil]; omega
  rw [decide_eq_true z1, decide_eq_true z2]
  rfl
theorem optPerm (s : Ty.T y36) (l : List (Ty.T y108)) (e : Ty.T y27) (u w : List (Ty.T (.int .i64))) (hb : s.1.length <= 1048576) (hs : s.2.1.length <= 1048576) (hn : l.length <= 1048576) (hu : u.length <= 1048576) (hv : ∀ x ∈ l, x.2.2.2.2.2.2.1.2.2.2.2.2.2.length <= 1048576) (hp : u.Perm w) : v243 s l e u = v243 s l e w := by
  rw [(optS s l e u hb hs hn hu hv).2, (optS s l e w hb hs hn (by rw [← hp.length_eq]; exact hu) hv).2]
  have : optF s e u = optF s e w := by
    funext p x
    unfold optF
    rw [hp.any_eq]
  rw [this]
theorem pick (cs : List (Ty.T (.int .i64))) (n : Nat) (h1 : 0 < n) (hn : n <= 1048576) (hc : cs.length <= 1048576) : d245 cs (n : Int) = true /\ d138 cs (n : Int) = true /\ v138 cs (n : Int) = v245 cs (n : Int) /\ @LE.le Int _ 0 (v245 cs (n : Int)).1 /\ @LT.lt Int _ (v245 cs (n : Int)).1 (n : Int) /\ (v245 cs (n : Int)).2 = (if n < 2 then cs else cs.tail) /\ (cs = [] -> (v245 cs (n : Int)).1 = (0 : Int)) /\ (n < 2 -> (v245 cs (n : Int)).1 = (0 : Int)) := by
  have hcl := cl135 cs (by omega)
  have z1 : cs.length * 8 <= 140737488351232 := by omega
  by_cases h2 : n < 2
  · have b1 : decide ((n : Int) < 2) = true := decide_eq_true (by omega)
    simp only [d245, t245, v245, d138, t138, v138, b1, cond_true, List.nil_append, if_pos z1, hcl, v135, if_pos h2, Option.isSome_some, Option.getD_some, nfs]
    refine ⟨trivial, trivial, trivial, ?_, ?_, trivial, fun _ => trivial, fun _ => trivial⟩ <;> omega
  · have b1 : decide ((n : Int) < 2) = false := decide_eq_false (by omega)
    cases cs with
    | nil =>
      have b2 : (((([] : List (Ty.T (.int .i64))).length : Nat) : Int) == (0 : Int)) = true := rfl
      simp only [d245, t245, v245, d138, t138, v138, b1, b2, cond_true, cond_false, List.nil_append, if_pos z1, hcl, v135, if_neg h2, Option.isSome_some, Option.getD_some, List.tail_nil, nfs]
      refine ⟨trivial, trivial, trivial, ?_, ?_, trivial, fun _ => trivial, fun _ => trivial⟩ <;> omega
    | cons x cs =>
      have b2 : ((((x :: cs : List (Ty.T (.int .i64))).length : Nat) : Int) == (0 : Int)) = false := by simp; omega
      have b3 : ¬ (n : Int) = 0 := by omega
      have b4 : (1 : Int) <= ((x :: cs : List (Ty.T (.int .i64))).length : Int) := by simp only [List.length_cons]; omega
      have e1 : ((x :: cs : List (Ty.T (.int .i64))).take (x :: cs : List (Ty.T (.int .i64))).length).drop 1 = cs := by rw [List.take_length]; rfl
      have hl : cs.length <= 1048576 := by simp only [List.length_cons] at hc; omega
      have z2 : cs.length * 8 <= 140737488351232 := by omega
      have hcl2 := cl135 cs (by omega)
      have m1 : Int.tmod x (n : Int) < (n : Int) := Int.tmod_lt_of_pos x (by omega)
      have m2 : -(n : Int) < Int.tmod x (n : Int) := Int.lt_tmod_of_pos x (by omega)
      have h0 : ((x :: cs : List (Ty.T (.int .i64)))[0]?) = some x := rfl
      by_cases h3 : Int.tmod x (n : Int) < 0
      · have hw : IntKind.wrap .i64 (Int.tmod x (n : Int) + (n : Int)) = Int.tmod x (n : Int) + (n : Int) := wrap_in (by omega) (by omega)
        simp only [d245, t245, v245, d138, t138, v138, b1, b2, cond_true, cond_false, h0, optC_some, if_neg b3, decide_eq_true h3, if_pos b4, e1, List.nil_append, if_pos z2, hcl2, v135, if_neg h2, Option.isSome_some, Option.getD_some, hw, List.tail_cons, nfs]
        refine ⟨trivial, trivial, trivial, ?_, ?_, trivial, (fun h => by cases h), (fun h => absurd h (by omega))⟩ <;> omega
      · simp only [d245, t245, v245, d138, t138, v138, b1, b2, cond_true, cond_false, h0, optC_some, if_neg b3, decide_eq_false h3, if_pos b4, e1, List.nil_append, if_pos z2, hcl2, v135, if_neg h2, Option.isSome_some, Option.getD_some, List.tail_cons, nfs]
        refine ⟨trivial, trivial, trivial, ?_, ?_, trivial, (fun h => by cases h), (fun h => absurd h (by omega))⟩ <;> omega
def foldW (f : Ty.T y27 -> List (Ty.T y108) -> List (Ty.T (.int .i64)) -> List (Ty.T y108) × List (Ty.T y27) × List (Ty.T (.int .i64)) × List (Ty.T y66)) : List (Ty.T y27) -> List (Ty.T y108) -> List (Ty.T (.int .i64)) -> List (Ty.T y108) × List (Ty.T y27) × List (Ty.T (.int .i64)) × List (Ty.T y66)
  | [], T, cs => (T, [], cs, [])
  | y :: L, T, cs => ((foldW f L (f y T cs).1 (f y T cs).2.2.1).1, (f y T cs).2.1 ++ (foldW f L (f y T cs).1 (f y T cs).2.2.1).2.1, (foldW f L (f y T cs).1 (f y T cs).2.2.1).2.2.1, (f y T cs).2.2.2 ++ (foldW f L (f y T cs).1 (f y T cs).2.2.1).2.2.2)
noncomputable def newE (r : (Int) × (Ty.T q1) × (Ty.T y104) × (List (Ty.T y27)) × (List (Ty.T y27))) : Ty.T y108 := (r.2.1.1, r.2.1.2.1, r.2.1.2.2.1, r.2.1.2.2.2.1, r.2.1.2.2.2.2.1, r.2.1.2.2.2.2.2.1, (r.2.1.2.2.2.2.2.2.1, r.2.1.2.2.2.2.2.2.2.1, r.2.1.2.2.2.2.2.2.2.2.1, r.2.1.2.2.2.2.2.2.2.2.2.1, r.2.1.2.2.2.2.2.2.2.2.2.2.1, r.2.1.2.2.2.2.2.2.2.2.2.2.2, r.2.2.2.2), r.2.2.1)
noncomputable def turnW (s : Ty.T y36) (p : Ty.T y108) (x : Ty.T y27) (k : Int) (n : Nat) (u : List (Ty.T (.int .i64))) : Ty.T y66 := (p.1, v213 s x, k, (n : Int), x, (v214 p x).2.2.2.1, (v214 p x).1, (u.length : Int))
noncomputable def atW (T : List (Ty.T y108)) (id : Int) : Ty.T y108 := (T[(v246 T id).toNat]?).getD (Ty.zero y108)
noncomputable def mwC (f : Ty.T y27 -> List (Ty.T (.int .i64)) -> List (Ty.T y108) -> List (Ty.T (.int .i64)) -> List (Ty.T y108) × List (Ty.T y27) × List (Ty.T (.int .i64)) × List (Ty.T y66)) (s : Ty.T y36) (x : Ty.T y27) (u : List (Ty.T (.int .i64))) (T : List (Ty.T y108)) (cs : List (Ty.T (.int .i64))) (oo : List (Ty.T (.int .i64))) : List (Ty.T y108) × List (Ty.T y27) × List (Ty.T (.int .i64)) × List (Ty.T y66) :=
  let k1 := v245 cs (oo.length : Int)
  let p := atW T (oo.getD k1.1.toNat 0)
  let z := foldW (fun y => f y (u ++ [p.1])) (v214 p x).2.2.2.1 (v247 T (newE (v214 p x))) k1.2
  (z.1, z.2.1, z.2.2.1, turnW s p x k1.1 oo.length u :: z.2.2.2)
noncomputable def mw (s : Ty.T y36) : Nat -> Ty.T y27 -> List (Ty.T (.int .i64)) -> List (Ty.T y108) -> List (Ty.T (.int .i64)) -> List (Ty.T y108) × List (Ty.T y27) × List (Ty.T (.int .i64)) × List (Ty.T y66)
  | 0, _, _, T, cs => (T, [], cs, [])
  | k + 1, x, u, T, cs =>
    match v243 s T x u with
    | [] => (T, cond (v244 x) [] [x], cs, [])
    | o :: os => mwC (mw s k) s x u T cs (o :: os)
structure TabW (c : Nat) (ids : List (Ty.T (.int .i64))) (T : List (Ty.T y108)) (out : List (Ty.T y27)) (cs : List (Ty.T (.int .i64))) (made : List (Ty.T y66)) : Prop where
  tb : T.length <= 1048576
  tv : ∀ x ∈ T, x.2.2.2.2.2.2.1.2.2.2.2.2.2.length <= 1048576
  ti : T.map (·.1) = ids
  ob : out.length + c <= 1048576
  mb : made.length + c <= 1048576
  cb : cs.length <= 1048576
  mv : ∀ t ∈ made, t.2.2.2.2.2.1.length <= 1048576
theorem TabW.weak {c c' : Nat} {ids : List (Ty.T (.int .i64))} {T : List (Ty.T y108)} {out : List (Ty.T y27)} {cs : List (Ty.T (.int .i64))} {made : List (Ty.T y66)} (h : TabW c ids T out cs made) (hc : c' <= c) : TabW c' ids T out cs made :=
  ⟨h.tb, h.tv, h.ti, by have := h.ob; omega, by have := h.mb; omega, h.cb, h.mv⟩
def GoodW (w : Nat) (RS : RT158g1) (RI : RT140g1) (M : Ty.T y27 -> List (Ty.T y108) -> List (Ty.T (.int .i64)) -> List (Ty.T y108) × List (Ty.T y27) × List (Ty.T (.int .i64)) × List (Ty.T y66)) (uS uI : List (Ty.T (.int .i64))) (s : Ty.T y36) (ids : List (Ty.T (.int .i64))) : Prop :=
  ∀ x T out cs made c, TabW (c + w) ids T out cs made -> RS x uS s T cs out made = (true, (s, (M x T cs).1, (M x T cs).2.2.1, out ++ (M x T cs).2.1, made ++ (M x T cs).2.2.2)) /\ RI x uI s out T cs made = (true, (true, s, out ++ (M x T cs).2.1, (M x T cs).1, (M x T cs).2.2.1, made ++ (M x T cs).2.2.2)) /\ TabW c ids (M x T cs).1 (out ++ (M x T cs).2.1) (M x T cs).2.2.1 (made ++ (M x T cs).2.2.2)
theorem loopW {w : Nat} {RS : RT158g1} {RI : RT140g1} {M : Ty.T y27 -> List (Ty.T y108) -> List (Ty.T (.int .i64)) -> List (Ty.T y108) × List (Ty.T y27) × List (Ty.T (.int .i64)) × List (Ty.T y66)} {uS uI : List (Ty.T (.int .i64))} {s : Ty.T y36} {ids : List (Ty.T (.int .i64))} (hG : GoodW w RS RI M uS uI s ids) (L : List (Ty.T y27)) (hL : L.length <= 1048576) :
    ∀ (rem i n1 n2 c : Nat) (T : List (Ty.T y108)) (out : List (Ty.T y27)) (cs : List (Ty.T (.int .i64))) (made : List (Ty.T y66)) (z : List (Ty.T y108) × List (Ty.T y27) × List (Ty.T (.int .i64)) × List (Ty.T y66)), foldW M (L.drop i) T cs = z -> i + rem = L.length -> rem < n1 -> rem < n2 -> TabW (c + rem * w) ids T out cs made ->
      iter (s158g1_3 RS) n1 (uS, (i : Int), s, L, T, cs, out, made, ()) = some (0, (uS, (L.length : Int), s, L, z.1, z.2.2.1, out ++ z.2.1, made ++ z.2.2.2, ())) /\
        iter (s140g1_3 RI) n2 (uI, false, L, (L.length : Int), (i : Int), s, T, out, cs, made, ()) = some (1, (uI, false, L, (L.length : Int), (L.length : Int), s, z.1, out ++ z.2.1, z.2.2.1, made ++ z.2.2.2, ())) /\ TabW c ids z.1 (out ++ z.2.1) z.2.2.1 (made ++ z.2.2.2)
  | 0, i, n1, n2, c, T, out, cs, made, z, hz, hi, hn1, hn2, hT => by
    obtain ⟨n1, rfl⟩ : ∃ n', n1 = n' + 1 := ⟨n1 - 1, by omega⟩
    obtain ⟨n2, rfl⟩ : ∃ n', n2 = n' + 1 := ⟨n2 - 1, by omega⟩
    have : i = L.length := by omega
    subst this
    rw [List.drop_length] at hz
    subst hz
    have e1 : s158g1_3 RS (uS, (L.length : Int), s, L, T, cs, out, made, ()) = some (1, (uS, (L.length : Int), s, L, T, cs, out, made, ())) := by simp [s158g1_3, t158g1_3]
    have e2 : s140g1_3 RI (uI, false, L, (L.length : Int), (L.length : Int), s, T, out, cs, made, ()) = some (2, (uI, false, L, (L.length : Int), (L.length : Int), s, T, out, cs, made, ())) := by simp [s140g1_3, t140g1_3]
    simp only [foldW, List.append_nil]
    refine ⟨?_, ?_, hT.weak (by omega)⟩
    · rw [iter, e1]; rfl
    · rw [iter, e2]; rfl
  | rem + 1, i, n1, n2, c, T, out, cs, made, z, hz, hi, hn1, hn2, hT => by
    obtain ⟨n1, rfl⟩ : ∃ n', n1 = n' + 1 := ⟨n1 - 1, by omega⟩
    obtain ⟨n2, rfl⟩ : ∃ n', n2 = n' + 1 := ⟨n2 - 1, by omega⟩
    have h1 : L[i]? = some (L[i]'(by omega)) := List.getElem?_eq_getElem (by omega)
    have g5 : (0 : Int) <= (i : Int) := by omega
    have g6 : (i : Int) < (L.length : Int) := by omega
    have hw := wrap_nat (n := i) (by omega)
    rw [List.drop_eq_getElem_cons (by omega)] at hz
    generalize L[i]'(by omega) = y at h1 hz
    obtain ⟨hS, hI, hT1⟩ := hG y T out cs made (c + rem * w) (hT.weak (by rw [Nat.succ_mul]; omega))
    obtain ⟨⟨T1, o1, c1, t1⟩, hm⟩ : ∃ q, M y T cs = q := ⟨_, rfl⟩
    simp only [foldW, hm] at hz
    rw [hm] at hS hI hT1
    dsimp only at hS hI hT1
    obtain ⟨⟨T2, o2, c2, t2⟩, hf⟩ : ∃ q, foldW M (L.drop (i + 1)) T1 c1 = q := ⟨_, rfl⟩
    rw [hf] at hz
    subst hz
    have e1 : s158g1_3 RS (uS, (i : Int), s, L, T, cs, out, made, ()) = some (0, (uS, ((i + 1 : Nat) : Int), s, L, T1, c1, out ++ o1, made ++ t1, ())) := by
      simp only [s158g1_3, t158g1_3, decide_eq_true g6, cond_true, if_pos g5, if_pos g6, Int.toNat_natCast, h1, optC_some, hS, hw]
    have e2 : s140g1_3 RI (uI, false, L, (L.length : Int), (i : Int), s, T, out, cs, made, ()) = some (0, (uI, false, L, (L.length : Int), ((i + 1 : Nat) : Int), s, T1, out ++ o1, c1, made ++ t1, ())) := by
      simp only [s140g1_3, t140g1_3, decide_eq_true g6, cond_true, if_pos g5, Int.toNat_natCast, h1, optC_some, hI, Bool.not_true, cond_false, hw]
    obtain ⟨h3, h4, h5⟩ := loopW hG L hL rem (i + 1) n1 n2 c T1 (out ++ o1) c1 (made ++ t1) _ hf (by omega) (by omega) (by omega) hT1
    simp only [← List.append_assoc]
    refine ⟨?_, ?_, h5⟩
    · rw [iter, e1]; exact h3
    · rw [iter, e2]; exact h4
theorem keyW {RS : RT158g1} {x : Ty.T y27} {u : List (Ty.T (.int .i64))} {s : Ty.T y36} {T : List (Ty.T y108)} {cs : List (Ty.T (.int .i64))} {out : List (Ty.T y27)} {made : List (Ty.T y66)} {r} (h : t158g1 RS x u s T cs out made some = some r) : (d158g1s RS x u s T cs out made, v158g1s RS x u s T cs out made) = (true, r) := by
  unfold d158g1s v158g1s
  rw [h]
  rfl
theorem keyV {RI : RT140g1} {x : Ty.T y27} {u : List (Ty.T (.int .i64))} {s : Ty.T y36} {T : List (Ty.T y108)} {out : List (Ty.T y27)} {cs : List (Ty.T (.int .i64))} {made : List (Ty.T y66)} {r} (h : t140g1 RI x u s out T cs made some = some r) : (d140g1s RI x u s out T cs made, v140g1s RI x u s out T cs made) = (true, r) := by
  unfold d140g1s v140g1s
  rw [h]
  rfl
theorem stepW {w k : Nat} {RS : RT158g1} {RI : RT140g1} {uS uI : List (Ty.T (.int .i64))} {s : Ty.T y36} {ids : List (Ty.T (.int .i64))} (hb : s.1.length <= 1048576) (hs : s.2.1.length <= 1048576) (hp : uS.Perm uI) (hn : uS.Nodup) (hu : uS.length <= 1048576)
    (hG : ∀ y, y ∈ ids -> (uS.any fun z => z == y) = false -> GoodW w RS RI (fun x => mw s k x (uI ++ [y])) (v248 uS y) (uI ++ [y]) s ids) :
    GoodW (1 + 3 * w) (fun a0 a1 a2 a3 a4 a5 a6 => (d158g1s RS a0 a1 a2 a3 a4 a5 a6, v158g1s RS a0 a1 a2 a3 a4 a5 a6)) (fun a0 a1 a2 a3 a4 a5 a6 => (d140g1s RI a0 a1 a2 a3 a4 a5 a6, v140g1s RI a0 a1 a2 a3 a4 a5 a6)) (fun x => mw s (k + 1) x uI) uS uI s ids := by
  intro x T out cs made c hT
  have hul : uI.length = uS.length := hp.length_eq.symm
  have ho := options s T x uS hb hs hT.tb hu hT.tv
  have hi := options s T x uI hb hs hT.tb (by omega) hT.tv
  have he := optPerm s T x uS uI hb hs hT.tb hu hT.tv hp
  obtain ⟨hd, -, -, hlen, hmem⟩ := ho
  obtain ⟨-, hdI, hvI, -, -⟩ := hi
  have hvM := he.symm
  rw [← he] at hvI
  clear he
  obtain ⟨o, hoe⟩ : ∃ o, v243 s T x uS = o := ⟨_, rfl⟩
  rw [hoe] at hlen hmem hvI hvM
  have hob := hT.ob
  have hmb := hT.mb
  cases o with
  | nil =>
    have hmw : mw s (k + 1) x uI T cs = (T, cond (v244 x) [] [x], cs, []) := by
      rw [mw, hvM]
    dsimp only
    rw [hmw]
    have z1 : (out ++ [x] : List (Ty.T y27)).length * 56 <= 140737488351232 := by simp only [List.length_append, List.length_cons, List.length_nil]; omega
    have z2 : (out.length + 1) * 56 <= 140737488351232 := by omega
    cases hgn : v244 x
    · simp only [cond_false, List.append_nil]
      refine ⟨keyW ?_, keyV ?_, ⟨hT.tb, hT.tv, hT.ti, by simp only [List.length_append, List.length_cons, List.length_nil]; omega, by omega, hT.cb, hT.mv⟩⟩
      · simp [t158g1, hd, hoe, hgn, g158g1_1, c158g1_1, t158g1_1, g158g1_0, t158g1_0, z2]
      · simp [t140g1, hdI, hvI, gone, hgn, g140g1_1, c140g1_1, t140g1_1, g140g1_0, t140g1_0, z2]
    · simp only [cond_true, List.append_nil]
      refine ⟨keyW ?_, keyV ?_, hT.weak (by omega)⟩
      · simp [t158g1, hd, hoe, hgn, g158g1_1, c158g1_1, t158g1_1, g158g1_0, t158g1_0]
      · simp [t140g1, hdI, hvI, gone, hgn, g140g1_1, c140g1_1, t140g1_1, g140g1_0, t140g1_0]
  | cons y0 o =>
    have hne : ((((y0 :: o).length : Nat) : Int) == (0 : Int)) = false := by simp; omega
    have hmw : mw s (k + 1) x uI T cs = mwC (mw s k) s x uI T cs (y0 :: o) := by rw [mw, hvM]
    obtain ⟨oo, hoo⟩ : ∃ oo, oo = y0 :: o := ⟨_, rfl⟩
    rw [← hoo] at hoe hvI hne hmem hlen hmw
    have hol : oo.length <= 1048576 := Nat.le_trans hlen hT.tb
    have hpos : 0 < oo.length := by rw [hoo]; simp
    obtain ⟨pd, pdI, pvI, pk0, pkn, pcs, -, -⟩ := pick cs oo.length hpos hol hT.cb
    obtain ⟨⟨kk, cs1⟩, hpk⟩ : ∃ q, v245 cs (oo.length : Int) = q := ⟨_, rfl⟩
    rw [hpk] at pvI pk0 pkn pcs
    dsimp only at pk0 pkn pcs
    have hcb1 : cs1.length <= 1048576 := by
      rw [pcs]
      have := hT.cb
      split
      · exact this
      · rw [List.length_tail]; omega
    obtain ⟨ch, hch⟩ : ∃ ch : Nat, @Eq Int kk (ch : Int) := ⟨Int.toNat kk, (Int.toNat_of_nonneg pk0).symm⟩
    have hcl : ch < oo.length := by have := pkn; rw [hch] at this; omega
    have hy : oo[ch]? = some (oo[ch]'hcl) := List.getElem?_eq_getElem hcl
    obtain ⟨⟨p0, hp0, hid0⟩, hun⟩ := hmem (oo[ch]'hcl) (List.getElem_mem _)
    obtain ⟨y, hyy⟩ : ∃ y, oo[ch]'hcl = y := ⟨_, rfl⟩
    rw [hyy] at hy hid0 hun
    rcases eaR T y hT.tb with ⟨_, h⟩ | ⟨j, p, hj, hjl, hpj, hpid⟩
    · exact absurd hid0 (h p0 hp0)
    subst hpid
    have hpm : p ∈ T := List.mem_of_getElem? hpj
    have hat : atW T p.1 = p := by
      unfold atW
      rw [hj, Int.toNat_natCast, hpj]
      rfl
    obtain ⟨hda1, hda2, hda3, hda4, hda5, hda6⟩ := doAct p x (hT.tv p hpm)
    have hei := ei T p.1 hT.tb
    have hea := (ea T p.1 hT.tb).1
    have hcs := chooser s x hb
    have hgd : oo.getD ch 0 = p.1 := by rw [List.getD_eq_getElem?_getD, hy]; rfl
    unfold mwC at hmw
    simp only [hpk, hch, Int.toNat_natCast, hgd, hat] at hmw
    have htn' : ∃ tn : Ty.T y66, turnW s p x (ch : Int) oo.length uI = tn := ⟨_, rfl⟩
    obtain ⟨tn, htn⟩ := htn'
    rw [htn] at hmw
    unfold turnW at htn
    unfold newE at hmw
    obtain ⟨⟨rn, q, gd, L, pl⟩, hdo⟩ : ∃ z, v214 p x = z := ⟨_, rfl⟩
    rw [hdo] at hda3 hda4 hda5 hda6 htn hmw
    dsimp only at hda4 hda5 hda6 htn hmw
    have b3 : (0 : Int) <= (made.length : Int) := by omega
    have g0 : (0 : Int) <= (ch : Int) := by omega
    have g1 : (ch : Int) < (oo.length : Int) := by omega
    have j0 : (0 : Int) <= (j : Int) := by omega
    have j1 : (j : Int) < (T.length : Int) := by omega
    have z4 : L.length * 56 <= 140737488351232 := by omega
    have hulS : (uS.length : Int) = (uI.length : Int) := by omega
    have hw := withU uS p.1 hn hun hu
    obtain ⟨hu1, hu2, hu3, hu4, hu5⟩ := update T ((q.1, q.2.1, q.2.2.1, q.2.2.2.1, q.2.2.2.2.1, q.2.2.2.2.2.1, (q.2.2.2.2.2.2.1, q.2.2.2.2.2.2.2.1, q.2.2.2.2.2.2.2.2.1, q.2.2.2.2.2.2.2.2.2.1, q.2.2.2.2.2.2.2.2.2.2.1, q.2.2.2.2.2.2.2.2.2.2.2, pl), gd) : Ty.T y108) hT.tb hT.tv (show pl.length <= 1048576 by rw [hda5]; exact hT.tv p hpm)
    have hG1 := hG p.1 (by rw [← hT.ti]; exact List.mem_map.2 ⟨p, hpm, rfl⟩) hun
    obtain ⟨T1, hT1⟩ : ∃ T1, v247 T ((q.1, q.2.1, q.2.2.1, q.2.2.2.1, q.2.2.2.2.1, q.2.2.2.2.2.1, (q.2.2.2.2.2.2.1, q.2.2.2.2.2.2.2.1, q.2.2.2.2.2.2.2.2.1, q.2.2.2.2.2.2.2.2.2.1, q.2.2.2.2.2.2.2.2.2.2.1, q.2.2.2.2.2.2.2.2.2.2.2, pl), gd) : Ty.T y108) = T1 := ⟨_, rfl⟩
    rw [hT1] at hu3 hu4 hu5 hmw
    have hlw : L.length * w <= 3 * w := Nat.mul_le_mul_right w hda4
    have hTab : TabW (c + L.length * w) ids T1 out cs1 (made ++ [tn]) := by
      refine ⟨?_, hu5, by rw [hu4]; exact hT.ti, by omega, ?_, hcb1, fun t ht => ?_⟩
      · have := congrArg List.length hu4
        rw [List.length_map, List.length_map] at this
        have := hT.tb
        omega
      · simp only [List.length_append, List.length_cons, List.length_nil]; omega
      · rcases List.mem_append.1 ht with h | h
        · exact hT.mv t h
        · rw [List.mem_singleton] at h
          subst h
          rw [← htn]
          show L.length <= 1048576
          omega
    obtain ⟨⟨T2, o2, c2, t2⟩, hf⟩ : ∃ q, foldW (fun x => mw s k x (uI ++ [p.1])) L T1 cs1 = q := ⟨_, rfl⟩
    rw [hf] at hmw
    dsimp only at hmw
    obtain ⟨hl1, hl2, hT2⟩ := loopW hG1 L (by omega) L.length 0 (n158g1_3 (v248 uS p.1, ((0 : Nat) : Int), s, L, T1, cs1, out, made ++ [tn], ())) (n140g1_3 (uI ++ [p.1], false, L, (L.length : Int), ((0 : Nat) : Int), s, T1, out, cs1, made ++ [tn], ())) c T1 out cs1 (made ++ [tn]) (T2, o2, c2, t2) (by rw [List.drop_zero, hf]) (by omega) (by simp only [n158g1_3]; omega) (by simp only [n140g1_3]; omega) hTab
    dsimp only at hl1 hl2 hT2
    have hkS : k158g1_3 RS (v248 uS p.1) 0 s L T1 cs1 out (made ++ [tn]) 0 = true := at_of hl1 0
    have hwS : w158g1_3 RS (v248 uS p.1) 0 s L T1 cs1 out (made ++ [tn]) = _ := val_of hl1
    have hk0 : k140g1_3 RI (uI ++ [p.1]) false L (L.length : Int) 0 s T1 out cs1 (made ++ [tn]) 0 = false := at_of hl2 0
    have hk1 : k140g1_3 RI (uI ++ [p.1]) false L (L.length : Int) 0 s T1 out cs1 (made ++ [tn]) 1 = true := at_of hl2 1
    have hwI : w140g1_3 RI (uI ++ [p.1]) false L (L.length : Int) 0 s T1 out cs1 (made ++ [tn]) = _ := val_of hl2
    have z5 : (made ++ [tn] : List (Ty.T y66)).length * 128 <= 140737488351232 := by simp only [List.length_append, List.length_cons, List.length_nil]; omega
    have z6 : (uI ++ [p.1] : List (Ty.T (.int .i64))).length * 8 <= 140737488351232 := by simp only [List.length_append, List.length_cons, List.length_nil]; omega
    have hcl2 : d135 uI = true /\ v135 uI = uI := ⟨cl135 uI (by omega), rfl⟩
    have hpk1 : d137g1 (oo.length : Int) s out T cs made = true /\ v137g1 (oo.length : Int) s out T cs made = ((ch : Int), true, s, out, T, cs1, made) := by
      simp only [d137g1, t137g1, v137g1, pdI, pvI, hch, cond_true, Option.isSome_some, Option.getD_some, nfs]
      exact ⟨trivial, trivial⟩
    dsimp only
    rw [hmw]
    have hap : made ++ tn :: t2 = made ++ [tn] ++ t2 := by rw [List.append_assoc]; rfl
    dsimp only
    rw [hap]
    refine ⟨keyW ?_, keyV ?_, hT2⟩
    · simp only [t158g1, hd, hoe, hne, cond_false, cond_true, pd, hpk, hch, if_pos g0, if_pos g1, Int.toNat_natCast, hy, optC_some, hea, hj, if_pos j0, if_pos j1, hpj, hda1, hdo, hu1, g158g1_2, t158g1_2, hcs.1, List.nil_append, if_pos z4, Option.isSome_some, hulS, htn, if_pos z5, hw.1, e158g1_0, e158g1_1, hT1, hkS, hwS]
    · simp only [t140g1, hdI, hvI, hne, cond_true, cond_false, hpk1.1, hpk1.2, Bool.not_true, if_pos g0, if_pos g1, Int.toNat_natCast, hy, optC_some, e140g1_0, e140g1_1, e140g1_2, e140g1_3, hei.1, hei.2, hj, if_pos j0, if_pos j1, hpj, hda2, hda3, hcs.2.1, hcs.2.2, v139, hu2, hu3, hT1, g140g1_2, t140g1_2, htn, if_pos z5, Option.isSome_some, hcl2.1, hcl2.2, if_pos z6, hk0, hk1, hwI]
def WR : Nat -> Nat
  | 0 => 1
  | m + 1 => 1 + 3 * WR m
theorem cntP {α : Type} {p q : α -> Bool} (h : ∀ x, p x = true -> q x = true) {y : α} (hq : q y = true) (hp : p y = false) : ∀ l : List α, y ∈ l -> l.countP p + 1 <= l.countP q
  | [], hy => by cases hy
  | a :: l, hy => by
    have hm : l.countP p <= l.countP q := List.countP_mono_left fun x _ => h x
    rw [List.countP_cons, List.countP_cons]
    rcases List.mem_cons.1 hy with rfl | hy
    · simp only [hq, hp, if_true, Bool.false_eq_true, if_false]; omega
    · have := cntP h hq hp l hy
      cases hpa : p a with
      | true => simp only [h a hpa, if_true]; omega
      | false => simp only [Bool.false_eq_true, if_false]; omega
def unused (u ids : List (Ty.T (.int .i64))) : Nat := ids.countP fun y => !(u.any fun z => z == y)
theorem tabLen (l : List (Ty.T y108)) (hb : l.length <= 1048576) (hv : ∀ x ∈ l, x.2.2.2.2.2.2.1.2.2.2.2.2.2.length <= 1048576) (h : v156 l = true) : l.length <= 5 := by
  unfold v156 at h
  rcases tableL l hb hv with ⟨j, x1, x2⟩ | ⟨x1, x2⟩
  · have e0 : k156_0 l false 0 0 = true := at_of x1 0
    have ew : w156_0 l false 0 = _ := val_of x1
    simp only [e0, ew, cond_true] at h
    cases h
  · have e0 : k156_0 l false 0 0 = false := at_of x1 0
    have e1 : k156_0 l false 0 1 = true := at_of x1 1
    have ew : w156_0 l false 0 = _ := val_of x1
    simp only [e0, e1, ew, cond_true, cond_false] at h
    have := of_decide_eq_true h
    omega
theorem recW {s : Ty.T y36} {ids : List (Ty.T (.int .i64))} (hb : s.1.length <= 1048576) (hs : s.2.1.length <= 1048576) :
    ∀ (m k k1 k2 : Nat) (uS uI : List (Ty.T (.int .i64))), m + 1 <= k -> m + 2 <= k1 -> m + 2 <= k2 -> uS.Perm uI -> uS.Nodup -> uS.length + m <= 1048576 -> unused uS ids <= m -> GoodW (WR m) (R158g1 k1) (R140g1 k2) (fun x => mw s k x uI) uS uI s ids
  | 0, k, k1, k2, uS, uI, h0, h1, h2, hp, hn, hu, hc => by
    obtain ⟨k, rfl⟩ : ∃ k', k = k' + 1 := ⟨k - 1, by omega⟩
    obtain ⟨k1, rfl⟩ : ∃ k, k1 = k + 2 := ⟨k1 - 2, by omega⟩
    obtain ⟨k2, rfl⟩ : ∃ k, k2 = k + 2 := ⟨k2 - 2, by omega⟩
    refine stepW (w := 0) hb hs hp hn (by omega) fun y hy hf => ?_
    have : 0 < unused uS ids := List.countP_pos_iff.2 ⟨y, hy, by rw [hf]; rfl⟩
    omega
  | m + 1, k, k1, k2, uS, uI, h0, h1, h2, hp, hn, hu, hc => by
    obtain ⟨k, rfl⟩ : ∃ k', k = k' + 1 := ⟨k - 1, by omega⟩
    obtain ⟨k1, rfl⟩ : ∃ k, k1 = k + 2 := ⟨k1 - 2, by omega⟩
    obtain ⟨k2, rfl⟩ : ∃ k, k2 = k + 2 := ⟨k2 - 2, by omega⟩
    refine stepW (w := WR m) hb hs hp hn (by omega) fun y hy hf => ?_
    have hw := (withU uS y hn hf (by omega)).2
    have hd : (uS ++ [y]).Nodup := by
      rw [List.nodup_append]
      refine ⟨hn, by simp, fun a ha b hb => ?_⟩
      rw [List.mem_singleton] at hb
      subst hb
      intro he
      subst he
      have := List.any_eq_false.1 hf a ha
      simp at this
    refine recW hb hs m k (k1 + 1) (k2 + 1) _ _ (by omega) (by omega) (by omega) (hw.trans (hp.append_right [y])) (hw.nodup_iff.2 hd) (by rw [hw.length_eq, List.length_append]; simp only [List.length_cons, List.length_nil]; omega) ?_
    have h3 : unused (v248 uS y) ids = unused (uS ++ [y]) ids := by
      unfold unused
      congr 1
      funext x
      rw [hw.any_eq]
    have h4 : unused (uS ++ [y]) ids + 1 <= unused uS ids := cntP (fun x hx => by simp only [List.any_append, Bool.not_or, Bool.and_eq_true] at hx; exact hx.1) (by rw [hf]; rfl) (by simp) ids hy
    omega
theorem topW (x : Ty.T y27) (u : List (Ty.T (.int .i64))) (s : Ty.T y36) (T : List (Ty.T y108)) (cs : List (Ty.T (.int .i64))) (out : List (Ty.T y27)) (made : List (Ty.T y66)) : (d140g1 x u s out T cs made, v140g1 x u s out T cs made) = R140g1 40 x u s out T cs made := by rfl
/-- What rewriting answers. -/
noncomputable def rwM (s : Ty.T y36) (l : List (Ty.T y108)) (e : Ty.T y27) (cs : List (Ty.T (.int .i64))) : List (Ty.T y27) × List (Ty.T y108) × List (Ty.T (.int .i64)) × List (Ty.T y66) :=
  cond (v155 s && v156 l && v157 e) ((mw s 6 e [] l cs).2.1, (mw s 6 e [] l cs).1, (mw s 6 e [] l cs).2.2.1, (mw s 6 e [] l cs).2.2.2) ([], l, cs, [])
theorem rewrite (s : Ty.T y36) (l : List (Ty.T y108)) (e : Ty.T y27) (cs : List (Ty.T (.int .i64))) (hb : s.1.length <= 1048576) (hs : s.2.1.length <= 1048576) (hl : l.length <= 1048576) (hv : ∀ x ∈ l, x.2.2.2.2.2.2.1.2.2.2.2.2.2.length <= 1048576) (hc : cs.length <= 1048576) :
    d52 s l e cs = true /\ d42 s l e cs = true /\ v52 s l e cs = rwM s l e cs /\ v42 s l e cs = rwM s l e cs /\ (rwM s l e cs).1.length <= 1048576 /\ (rwM s l e cs).2.1.length = l.length /\ (∀ x ∈ (rwM s l e cs).2.1, x.2.2.2.2.2.2.1.2.2.2.2.2.2.length <= 1048576) /\ (rwM s l e cs).2.2.1.length <= 1048576 /\ (rwM s l e cs).2.2.2.length <= 1048576 /\ ∀ t ∈ (rwM s l e cs).2.2.2, t.2.2.2.2.2.1.length <= 1048576 := by
  have c1 := ctS l hl hv
  have c2 := ctI l hl hv
  have q1 := stateOk s hb hs
  have q2 := tableOk l hl hv
  have q3 := evOk e
  have z1 : cs.length * 8 <= 140737488351232 := by omega
  have hcl := cl135 cs (by omega)
  have key : ∃ (out : List (Ty.T y27)) (T : List (Ty.T y108)) (cs' : List (Ty.T (.int .i64))) (made : List (Ty.T y66)), t52 s l e cs some = some (out, T, cs', made) /\ t42 s l e cs some = some (out, T, cs', made) /\ rwM s l e cs = (out, T, cs', made) /\ out.length <= 1048576 /\ T.length = l.length /\ (∀ x ∈ T, x.2.2.2.2.2.2.1.2.2.2.2.2.2.length <= 1048576) /\ cs'.length <= 1048576 /\ made.length <= 1048576 /\ ∀ t ∈ made, t.2.2.2.2.2.1.length <= 1048576 := by
    cases h1 : v155 s with
    | false =>
      refine ⟨[], l, cs, [], ?_, ?_, by simp [rwM, h1], by simp, rfl, hv, hc, by simp, fun t h => by cases h⟩
      · simp [t52, g52_0, t52_0, g52_1, c52_1, t52_1, g52_2, c52_2, t52_2, c1.1, c1.2, q1.1, h1, z1]
      · simp [t42, c2.1, c2.2, q1.2.1, q1.2.2, h1, hcl, v135]
    | true =>
    cases h2 : v156 l with
    | false =>
      refine ⟨[], l, cs, [], ?_, ?_, by simp [rwM, h2], by simp, rfl, hv, hc, by simp, fun t h => by cases h⟩
      · simp [t52, g52_0, t52_0, g52_1, c52_1, t52_1, g52_2, c52_2, t52_2, c1.1, c1.2, q1.1, h1, q2.1, h2, z1]
      · cases h3 : v157 e <;> simp [t42, c2.1, c2.2, q1.2.1, q1.2.2, h1, q2.2.1, q2.2.2, h2, q3, h3, hcl, v135]
    | true =>
    cases h3 : v157 e with
    | false =>
      refine ⟨[], l, cs, [], ?_, ?_, by simp [rwM, h3], by simp, rfl, hv, hc, by simp, fun t h => by cases h⟩
      · simp [t52, g52_0, t52_0, g52_1, c52_1, t52_1, g52_2, c52_2, t52_2, c1.1, c1.2, q1.1, h1, q2.1, h2, h3, z1]
      · simp [t42, c2.1, c2.2, q1.2.1, q1.2.2, h1, q2.2.1, q2.2.2, h2, q3, h3, hcl, v135]
    | true =>
      have h5 := tabLen l hl hv h2
      have hun : unused [] (l.map (·.1)) <= 5 := Nat.le_trans List.countP_le_length (by rw [List.length_map]; exact h5)
      obtain ⟨x1, x2, x3⟩ := recW (s := s) (ids := l.map (·.1)) hb hs 5 6 40 40 [] [] (by omega) (by omega) (by omega) (List.Perm.refl _) List.nodup_nil (by simp) hun e l [] cs [] 0
        ⟨hl, hv, rfl, by simp [WR], by simp [WR], hc, fun t h => by cases h⟩
      have hM : rwM s l e cs = ((mw s 6 e [] l cs).2.1, (mw s 6 e [] l cs).1, (mw s 6 e [] l cs).2.2.1, (mw s 6 e [] l cs).2.2.2) := by simp [rwM, h1, h2, h3]
      obtain ⟨⟨T, out, cs', made⟩, hm⟩ : ∃ z, mw s 6 e [] l cs = z := ⟨_, rfl⟩
      rw [hm] at hM
      dsimp only at x1 x2 x3
      rw [hm] at x1 x2 x3
      dsimp only at x1 x2 x3 hM
      rw [List.nil_append, List.nil_append] at x1 x2 x3
      have y1 : d158g1 e [] s l cs [] [] = true := congrArg Prod.fst x1
      have y2 : v158g1 e [] s l cs [] [] = (s, T, cs', out, made) := congrArg Prod.snd x1
      rw [← topW] at x2
      have y3 : d140g1 e [] s [] l cs [] = true := congrArg Prod.fst x2
      have y4 : v140g1 e [] s [] l cs [] = (true, s, out, T, cs', made) := congrArg Prod.snd x2
      have mb : made.length <= 1048576 := by have := x3.mb; omega
      have c3 := cuI made mb x3.mv
      have hTl : T.length = l.length := by have := congrArg List.length x3.ti; rwa [List.length_map, List.length_map] at this
      refine ⟨out, T, cs', made, ?_, ?_, hM, by have := x3.ob; omega, hTl, x3.tv, x3.cb, mb, x3.mv⟩
      · simp [t52, g52_0, t52_0, g52_1, c52_1, t52_1, g52_2, c52_2, t52_2, c1.1, c1.2, q1.1, h1, q2.1, h2, h3, z1, y1, y2]
      · simp [t42, c2.1, c2.2, q1.2.1, q1.2.2, h1, q2.2.1, q2.2.2, h2, q3, h3, hcl, v135, y3, y4, c3.1, c3.2]
  obtain ⟨out, T, cs', made, k1, k2, hM, k3⟩ := key
  have w1 : v52 s l e cs = (out, T, cs', made) := by
    show (t52 s l e cs some).getD _ = _
    rw [k1]
    rfl
  have w2 : v42 s l e cs = (out, T, cs', made) := by
    show (t42 s l e cs some).getD _ = _
    rw [k2]
    rfl
  rw [w1, w2, hM]
  refine ⟨?_, ?_, rfl, rfl, k3⟩
  · show (t52 s l e cs some).isSome = true
    rw [k1]
    rfl
  · show (t42 s l e cs some).isSome = true
    rw [k2]
    rfl
theorem optFit {s : Ty.T y36} {e : Ty.T y27} {u : List (Ty.T (.int .i64))} {q : Int × List (Ty.T (.int .i64))} {x : Ty.T y108} {l : List (Ty.T y108)} (hx : x ∈ l) (h : ∀ y ∈ q.2, ∃ p ∈ l, p.1 = y /\ v269 s p e = true) : ∀ y ∈ (optF s e u q x).2, ∃ p ∈ l, p.1 = y /\ v269 s p e = true := by
  unfold optF
  cases h1 : u.any fun y => y == x.1
  · cases h2 : v269 s x e
    · exact h
    · by_cases h3 : x.2.2.2.1 > q.1
      · simp only [h3, decide_true, Bool.not_true, cond_false, cond_true]
        exact h
      · by_cases h4 : x.2.2.2.1 < q.1
        · simp only [h3, h4, decide_true, decide_false, Bool.not_true, cond_false, cond_true]
          intro y hy
          rw [List.mem_singleton] at hy
          subst hy
          exact ⟨x, hx, rfl, h2⟩
        · simp only [h3, h4, decide_false, Bool.not_true, cond_false]
          intro y hy
          rcases List.mem_append.1 hy with hy | hy
          · exact h y hy
          · rw [List.mem_singleton] at hy
            subst hy
            exact ⟨x, hx, rfl, h2⟩
  · exact h
theorem optFits (s : Ty.T y36) (T : List (Ty.T y108)) (e : Ty.T y27) (u : List (Ty.T (.int .i64))) (hb : s.1.length <= 1048576) (hs : s.2.1.length <= 1048576) (hn : T.length <= 1048576) (hu : u.length <= 1048576) (hv : ∀ x ∈ T, x.2.2.2.2.2.2.1.2.2.2.2.2.2.length <= 1048576) : ∀ y ∈ v243 s T e u, ∃ p ∈ T, p.1 = y /\ v269 s p e = true := by
  rw [(optS s T e u hb hs hn hu hv).2]
  have : ∀ (l : List (Ty.T y108)) (q : Int × List (Ty.T (.int .i64))), (∀ x ∈ l, x ∈ T) -> (∀ y ∈ q.2, ∃ p ∈ T, p.1 = y /\ v269 s p e = true) -> ∀ y ∈ (l.foldl (optF s e u) q).2, ∃ p ∈ T, p.1 = y /\ v269 s p e = true := by
    intro l
    induction l with
    | nil => intro q _ h; exact h
    | cons x l ih => intro q hm h; exact ih _ (fun z hz => hm z (List.mem_cons_of_mem _ hz)) (optFit (hm x List.mem_cons_self) h)
  exact this T (5, []) (fun _ h => h) (fun y hy => by cases hy)
theorem nodupEq {T : List (Ty.T y108)} (hn : (T.map (·.1)).Nodup) {i j : Nat} {p q : Ty.T y108} (hi : T[i]? = some p) (hj : T[j]? = some q) (h : p.1 = q.1) : i = j := by
  obtain ⟨hi', hip⟩ := List.getElem?_eq_some_iff.1 hi
  obtain ⟨hj', hjp⟩ := List.getElem?_eq_some_iff.1 hj
  have key : ∀ {i j : Nat} (hi : i < T.length) (hj : j < T.length), i < j -> ¬ T[i].1 = T[j].1 := fun {i j} hi hj hij he => by
    have := List.pairwise_iff_getElem.1 hn i j (by rw [List.length_map]; exact hi) (by rw [List.length_map]; exact hj) hij
    rw [List.getElem_map, List.getElem_map] at this
    exact this he
  rcases Nat.lt_trichotomy i j with hij | hij | hij
  · exact absurd (by rw [hip, hjp]; exact h) (key hi' hj' hij)
  · exact hij
  · exact absurd (by rw [hip, hjp]; exact h.symm) (key hj' hi' hij)
theorem upSet (T : List (Ty.T y108)) (n : Ty.T y108) (hb : T.length <= 1048576) (hv : ∀ x ∈ T, x.2.2.2.2.2.2.1.2.2.2.2.2.2.length <= 1048576) (hn : n.2.2.2.2.2.2.1.2.2.2.2.2.2.length <= 1048576) {j : Nat} {p : Ty.T y108} (hj : v246 T n.1 = (j : Int)) (hp : T[j]? = some p) : v247 T n = T.set j n := by
  have h1 := ctS T hb hv
  have h3 := cpS n hn
  have h6 := ea T n.1 hb
  have hl := (List.getElem?_eq_some_iff.1 hp).1
  have g0 : (0 : Int) <= (j : Int) := by omega
  have g1 : (j : Int) < (T.length : Int) := by omega
  have g2 : (j : Int) ≥ 0 := g0
  show (t247 T n some).getD [] = _
  unfold t247
  rw [h1.1, h1.2, h3.1, h3.2, h6.1]
  rw [hj]
  simp only [decide_eq_true g2, cond_true, if_pos g0, if_pos g1, Int.toNat_natCast, hp, optC_some, Option.getD_some]
structure WfW (k : Nat) (u : List (Ty.T (.int .i64))) (T : List (Ty.T y108)) (cs : List (Ty.T (.int .i64))) : Prop where
  tb : T.length <= 1048576
  tv : ∀ x ∈ T, x.2.2.2.2.2.2.1.2.2.2.2.2.2.length <= 1048576
  tn : (T.map (·.1)).Nodup
  ub : u.length + k <= 1048576
  cb : cs.length <= 1048576
structure KeepW (T : List (Ty.T y108)) (cs : List (Ty.T (.int .i64))) (T' : List (Ty.T y108)) (cs' : List (Ty.T (.int .i64))) : Prop where
  ti : T'.map (·.1) = T.map (·.1)
  tv : ∀ x ∈ T', x.2.2.2.2.2.2.1.2.2.2.2.2.2.length <= 1048576
  cs : cs'.length <= cs.length
theorem KeepW.trans {T T' T'' : List (Ty.T y108)} {cs cs' cs'' : List (Ty.T (.int .i64))} (h : KeepW T cs T' cs') (k : KeepW T' cs' T'' cs'') : KeepW T cs T'' cs'' := ⟨k.ti.trans h.ti, k.tv, Nat.le_trans k.cs h.cs⟩
theorem KeepW.len {T T' : List (Ty.T y108)} {cs cs' : List (Ty.T (.int .i64))} (h : KeepW T cs T' cs') : T'.length = T.length := by have := congrArg List.length h.ti; rwa [List.length_map, List.length_map] at this
theorem KeepW.wf {k : Nat} {u : List (Ty.T (.int .i64))} {T T' : List (Ty.T y108)} {cs cs' : List (Ty.T (.int .i64))} (h : KeepW T cs T' cs') (w : WfW k u T cs) : WfW k u T' cs' := ⟨by rw [h.len]; exact w.tb, h.tv, by rw [h.ti]; exact w.tn, w.ub, Nat.le_trans h.cs w.cb⟩
inductive FoldP (P : Ty.T y27 -> List (Ty.T y108) -> List (Ty.T (.int .i64)) -> List (Ty.T y108) × List (Ty.T y27) × List (Ty.T (.int .i64)) × List (Ty.T y66) -> Prop) : List (Ty.T y27) -> List (Ty.T y108) -> List (Ty.T (.int .i64)) -> List (Ty.T y108) × List (Ty.T y27) × List (Ty.T (.int .i64)) × List (Ty.T y66) -> Prop
  | nil {T cs} : FoldP P [] T cs (T, [], cs, [])
  | cons {y L T cs a b} : P y T cs a -> FoldP P L a.1 a.2.2.1 b -> FoldP P (y :: L) T cs (b.1, a.2.1 ++ b.2.1, b.2.2.1, a.2.2.2 ++ b.2.2.2)
theorem foldP_keep {P : Ty.T y27 -> List (Ty.T y108) -> List (Ty.T (.int .i64)) -> List (Ty.T y108) × List (Ty.T y27) × List (Ty.T (.int .i64)) × List (Ty.T y66) -> Prop} {M : Ty.T y27 -> List (Ty.T y108) -> List (Ty.T (.int .i64)) -> List (Ty.T y108) × List (Ty.T y27) × List (Ty.T (.int .i64)) × List (Ty.T y66)} {k : Nat} {u : List (Ty.T (.int .i64))} (h : ∀ y T cs, WfW k u T cs -> P y T cs (M y T cs) /\ KeepW T cs (M y T cs).1 (M y T cs).2.2.1) : ∀ (L : List (Ty.T y27)) T cs, WfW k u T cs ->
    FoldP (fun y T cs a => WfW k u T cs /\ P y T cs a /\ KeepW T cs a.1 a.2.2.1) L T cs (foldW M L T cs) /\ KeepW T cs (foldW M L T cs).1 (foldW M L T cs).2.2.1
  | [], T, cs, w => ⟨.nil, rfl, w.tv, Nat.le_refl _⟩
  | y :: L, T, cs, w => by
    obtain ⟨h1, h2⟩ := h y T cs w
    obtain ⟨h3, h4⟩ := foldP_keep h L _ _ (h2.wf w)
    exact ⟨.cons ⟨w, h1, h2⟩ h3, h2.trans h4⟩
theorem mwInd {s : Ty.T y36} (hb : s.1.length <= 1048576) (hs : s.2.1.length <= 1048576) (P : Nat -> Ty.T y27 -> List (Ty.T (.int .i64)) -> List (Ty.T y108) -> List (Ty.T (.int .i64)) -> List (Ty.T y108) × List (Ty.T y27) × List (Ty.T (.int .i64)) × List (Ty.T y66) -> Prop)
    (h0 : ∀ x u T cs, WfW 0 u T cs -> P 0 x u T cs (T, [], cs, []))
    (h1 : ∀ k x u T cs, WfW (k + 1) u T cs -> v243 s T x u = [] -> P (k + 1) x u T cs (T, cond (v244 x) [] [x], cs, []))
    (h2 : ∀ k x u T cs oo (ch : Nat) cs1 (j : Nat) p z, WfW (k + 1) u T cs -> v243 s T x u = oo -> oo.length <= T.length -> oo[ch]? = some p.1 -> v245 cs (oo.length : Int) = ((ch : Int), cs1) -> cs1 = (if oo.length < 2 then cs else cs.tail) -> T[j]? = some p -> (u.any fun y => y == p.1) = false -> v269 s p x = true -> (newE (v214 p x)).1 = p.1 -> (v214 p x).2.2.2.1.length <= 3 ->
      FoldP (fun y T cs a => WfW k (u ++ [p.1]) T cs /\ P k y (u ++ [p.1]) T cs a /\ KeepW T cs a.1 a.2.2.1) (v214 p x).2.2.2.1 (T.set j (newE (v214 p x))) cs1 z ->
      P (k + 1) x u T cs (z.1, z.2.1, z.2.2.1, turnW s p x (ch : Int) oo.length u :: z.2.2.2)) :
    ∀ k x u T cs, WfW k u T cs -> P k x u T cs (mw s k x u T cs) /\ KeepW T cs (mw s k x u T cs).1 (mw s k x u T cs).2.2.1
  | 0, x, u, T, cs, w => ⟨h0 x u T cs w, rfl, w.tv, Nat.le_refl _⟩
  | k + 1, x, u, T, cs, w => by
    have hu : u.length <= 1048576 := by have := w.ub; omega
    obtain ⟨-, -, -, hlen, hmem⟩ := options s T x u hb hs w.tb hu w.tv
    have hfit := optFits s T x u hb hs w.tb hu w.tv
    obtain ⟨o, hoe⟩ : ∃ o, v243 s T x u = o := ⟨_, rfl⟩
    rw [hoe] at hlen hmem hfit
    cases o with
    | nil =>
      have hmw : mw s (k + 1) x u T cs = (T, cond (v244 x) [] [x], cs, []) := by rw [mw, hoe]
      rw [hmw]
      exact ⟨h1 k x u T cs w hoe, rfl, w.tv, Nat.le_refl _⟩
    | cons y0 o =>
      have hmw : mw s (k + 1) x u T cs = mwC (mw s k) s x u T cs (y0 :: o) := by rw [mw, hoe]
      obtain ⟨oo, hoo⟩ : ∃ oo, oo = y0 :: o := ⟨_, rfl⟩
      rw [← hoo] at hoe hmem hlen hmw hfit
      have hol : oo.length <= 1048576 := Nat.le_trans hlen w.tb
      have hpos : 0 < oo.length := by rw [hoo]; simp
      obtain ⟨-, -, -, pk0, pkn, pcs, -, -⟩ := pick cs oo.length hpos hol w.cb
      obtain ⟨⟨kk, cs1⟩, hpk⟩ : ∃ q, v245 cs (oo.length : Int) = q := ⟨_, rfl⟩
      rw [hpk] at pk0 pkn pcs
      dsimp only at pk0 pkn pcs
      have hcb1 : cs1.length <= cs.length := by
        rw [pcs]
        split
        · exact Nat.le_refl _
        · rw [List.length_tail]; omega
      obtain ⟨ch, hch⟩ : ∃ ch : Nat, @Eq Int kk (ch : Int) := ⟨Int.toNat kk, (Int.toNat_of_nonneg pk0).symm⟩
      have hcl : ch < oo.length := by have := pkn; rw [hch] at this; omega
      have hy : oo[ch]? = some (oo[ch]'hcl) := List.getElem?_eq_getElem hcl
      obtain ⟨p0, hp0, hid0, hft⟩ := hfit (oo[ch]'hcl) (List.getElem_mem _)
      obtain ⟨-, hun⟩ := hmem (oo[ch]'hcl) (List.getElem_mem _)
      obtain ⟨y, hyy⟩ : ∃ y, oo[ch]'hcl = y := ⟨_, rfl⟩
      rw [hyy] at hy hid0 hun
      rcases eaR T y w.tb with ⟨_, h⟩ | ⟨j, p, hj, hjl, hpj, hpid⟩
      · exact absurd hid0 (h p0 hp0)
      subst hpid
      obtain ⟨j0, hj0⟩ := List.getElem?_of_mem hp0
      have hjj := nodupEq w.tn hj0 hpj hid0
      subst hjj
      have hpp : p0 = p := Option.some.inj (hj0.symm.trans hpj)
      subst hpp
      have hat : atW T p0.1 = p0 := by
        unfold atW
        rw [hj, Int.toNat_natCast, hpj]
        rfl
      have hgd : oo.getD ch 0 = p0.1 := by rw [List.getD_eq_getElem?_getD, hy]; rfl
      obtain ⟨-, -, -, hda4, hda5, hda6⟩ := doAct p0 x (w.tv p0 hp0)
      have hn1 : (newE (v214 p0 x)).1 = p0.1 := by
        unfold newE
        rw [hda6]
      have hpl : (newE (v214 p0 x)).2.2.2.2.2.2.1.2.2.2.2.2.2.length <= 1048576 := by
        show (v214 p0 x).2.2.2.2.length <= 1048576
        rw [hda5]
        exact w.tv p0 hp0
      have hup : v247 T (newE (v214 p0 x)) = T.set j0 (newE (v214 p0 x)) := upSet T _ w.tb w.tv hpl (by rw [hn1]; exact hj) hpj
      unfold mwC at hmw
      simp only [hpk, hch, Int.toNat_natCast, hgd, hat, hup] at hmw
      have hK : KeepW T cs (T.set j0 (newE (v214 p0 x))) cs1 := by
        refine ⟨?_, fun q hq => ?_, hcb1⟩
        · rw [← hup]
          exact (update T _ w.tb w.tv hpl).2.2.2.1
        · rw [← hup] at hq
          exact (update T _ w.tb w.tv hpl).2.2.2.2 q hq
      have w1 : WfW k (u ++ [p0.1]) (T.set j0 (newE (v214 p0 x))) cs1 := by
        have := hK.wf w
        exact ⟨this.tb, this.tv, this.tn, by have := w.ub; simp only [List.length_append, List.length_cons, List.length_nil]; omega, this.cb⟩
      obtain ⟨f1, f2⟩ := foldP_keep (P := fun y T cs a => P k y (u ++ [p0.1]) T cs a) (M := fun y => mw s k y (u ++ [p0.1])) (fun y T cs w => mwInd hb hs P h0 h1 h2 k y (u ++ [p0.1]) T cs w) (v214 p0 x).2.2.2.1 _ _ w1
      rw [hmw]
      exact ⟨h2 k x u T cs oo ch cs1 j0 p0 _ w hoe hlen hy (by rw [hpk, hch]) pcs hpj hun hft hn1 hda4 f1, hK.trans f2⟩

def upto (a b : Int) : Int := max 0 (min a b)
theorem sUpto (a b : Int) : v148 a b = upto a b := by
  unfold v148 upto
  by_cases h : b < a
  · rw [decide_eq_true h]
    by_cases h2 : b < 0
    · rw [decide_eq_true h2]; show (0 : Int) = _; omega
    · rw [decide_eq_false h2]; show b = _; omega
  · rw [decide_eq_false h]
    by_cases h2 : a < 0
    · rw [decide_eq_true h2]; show (0 : Int) = _; omega
    · rw [decide_eq_false h2]; show a = _; omega
theorem iUpto (a b : Int) : v192 a b = upto a b := by
  unfold v192 upto
  split <;> split <;> omega
def bnd (a : Int) : Int := max (-2147483647) (min a 2147483647)
theorem sBound (a : Int) : v280 a = bnd a := by
  unfold v280 bnd
  by_cases h : a > 2147483647
  · rw [decide_eq_true h]; show (2147483647 : Int) = _; omega
  · rw [decide_eq_false h]
    by_cases h2 : a < -2147483647
    · rw [decide_eq_true h2]; show (-2147483647 : Int) = _; omega
    · rw [decide_eq_false h2]; show a = _; omega
def pw (x : Int) : Nat -> Int
  | 0 => 1
  | n + 1 => min (pw x n * x) 2147483647
theorem pw_succ (x : Int) (n : Nat) : pw x (n + 1) = min (pw x n * x) 2147483647 := rfl
theorem pw_range (x : Int) (h0 : 0 <= x) (n : Nat) : 0 <= pw x n /\ pw x n <= 2147483647 := by
  induction n with
  | zero => simp [pw]
  | succ n ih =>
    have : 0 <= pw x n * x := Int.mul_nonneg ih.1 h0
    rw [pw_succ]
    omega
theorem mul_small {a x : Int} (h0 : 0 <= a) (h1 : a <= 2147483647) (h2 : 0 <= x) (h3 : x <= 2147483647) : 0 <= a * x /\ a * x <= 4611686014132420609 := by
  constructor
  · exact Int.mul_nonneg h0 h2
  · calc a * x <= 2147483647 * 2147483647 := Int.mul_le_mul h1 h3 h2 (by omega)
      _ = 4611686014132420609 := by decide
theorem pw_one (n : Nat) : pw 1 n = 1 := by
  induction n with
  | zero => rfl
  | succ n ih => rw [pw_succ, ih]; decide
theorem pw_zero (n : Nat) : pw 0 (n + 1) = 0 := by
  rw [pw_succ, Int.mul_zero]
  decide
theorem pw_top (x : Int) (h : 1 <= x) (n j : Nat) (e : pw x n = 2147483647) : pw x (n + j) = 2147483647 := by
  induction j with
  | zero => exact e
  | succ j ih =>
    show min (pw x (n + j) * x) 2147483647 = _
    rw [ih]
    omega
theorem pw_lower (x : Int) (h : 2 <= x) (n : Nat) : min (2 ^ n) 2147483647 <= pw x n := by
  induction n with
  | zero => simp [pw]; omega
  | succ n ih =>
    have h1 := pw_range x (by omega) n
    have h2 : pw x n * 2 <= pw x n * x := Int.mul_le_mul_of_nonneg_left h h1.1
    rw [pw_succ, Int.pow_succ]
    omega
theorem pw_31 (x : Int) (h : 2 <= x) (n : Nat) (hn : 31 <= n) : pw x n = 2147483647 := by
  have h1 := pw_lower x h 31
  have h2 := (pw_range x (by omega) 31).2
  have h3 : pw x 31 = 2147483647 := by
    have : (2 : Int) ^ 31 = 2147483648 := by decide
    omega
  have := pw_top x (by omega) 31 (n - 31) h3
  rwa [show 31 + (n - 31) = n by omega] at this
theorem upto_max (k : Int) : 0 <= upto k 2147483647 /\ upto k 2147483647 <= 2147483647 := by unfold upto; omega
def powr (k n : Int) : Int := pw (upto k 2147483647) (min n 64).toNat
theorem sPow_iter (n x : Int) (hx0 : 0 <= x) (hx : x <= 2147483647) (hn : n <= 9223372036854775807) (d : Nat) : ∀ (j m : Nat), j + d = (min n 64).toNat -> d < m ->
    iter s235_0 m (n, 0, x, pw x j, (j : Int), ()) = some (0, (n, 0, x, pw x (min n 64).toNat, (((min n 64).toNat : Nat) : Int), ())) := by
  induction d with
  | zero =>
    intro j m hj hm
    obtain ⟨q, rfl⟩ : ∃ q, m = q + 1 := ⟨m - 1, by omega⟩
    have h : s235_0 (n, 0, x, pw x j, (j : Int), ()) = some (1, (n, 0, x, pw x j, (j : Int), ())) := by
      by_cases h : (j : Int) < n
      · have h2 : ¬ (j : Int) < 64 := by omega
        simp [s235_0, t235_0, h, h2]
      · simp [s235_0, t235_0, h]
    rw [iter, h, show (min n 64).toNat = j by omega]
    rfl
  | succ d ih =>
    intro j m hj hm
    obtain ⟨q, rfl⟩ : ∃ q, m = q + 1 := ⟨m - 1, by omega⟩
    have hp := pw_range x hx0 j
    have hm := mul_small hp.1 hp.2 hx0 hx
    have h : s235_0 (n, 0, x, pw x j, (j : Int), ()) = some (0, (n, 0, x, pw x (j + 1), ((j + 1 : Nat) : Int), ())) := by
      have h1 : (j : Int) < n := by omega
      have h2 : (j : Int) < 64 := by omega
      have e : bnd (pw x j * x) = pw x (j + 1) := by rw [pw_succ]; unfold bnd; omega
      simp only [s235_0, t235_0, h1, h2, decide_true, cond_true, sBound]
      rw [wrap_in (n := pw x j * x) (by omega) (by omega), e, wrap_in (n := (j : Int) + 1) (by omega) (by omega)]
      rfl
    rw [iter, h]
    exact ih (j + 1) q (by omega) (by omega)
theorem sPow (a n : Int) (hn : n <= 9223372036854775807) : d235 a n = true /\ v235 a n = powr a n := by
  have hu := upto_max a
  have h := sPow_iter n (upto a 2147483647) hu.1 hu.2 hn (min n 64).toNat 0 (n235_0 (n, 0, upto a 2147483647, 1, 0, ())) (by omega) (by simp only [n235_0]; omega)
  unfold d235 v235
  rw [sUpto]
  have e0 : k235_0 n 0 (upto a 2147483647) 1 0 0 = true := at_of h 0
  have ew : w235_0 n 0 (upto a 2147483647) 1 0 = _ := val_of h
  rw [e0, ew]
  exact ⟨rfl, rfl⟩
theorem iPow_iter (x : Int) (hx0 : 2 <= x) (hx : x <= 2147483647) (m : Nat) : ∀ (j q : Nat), (m : Int) <= 9223372036854775807 -> m < q ->
    ∃ z, iter s233_0 q (x, (m : Int), 0, pw x j, ()) = some (0, (x, z, 0, pw x (j + m), ())) := by
  induction m with
  | zero =>
    intro j q _ hq
    obtain ⟨q, rfl⟩ : ∃ p, q = p + 1 := ⟨q - 1, by omega⟩
    have h : s233_0 (x, ((0 : Nat) : Int), 0, pw x j, ()) = some (1, (x, ((0 : Nat) : Int), 0, pw x j, ())) := by simp [s233_0, t233_0]
    exact ⟨_, by rw [iter, h]; rfl⟩
  | succ m ih =>
    intro j q hm hq
    obtain ⟨q, rfl⟩ : ∃ p, q = p + 1 := ⟨q - 1, by omega⟩
    have hp := pw_range x (by omega) j
    by_cases h : pw x j < 2147483647
    · have hml := mul_small hp.1 hp.2 (by omega : 0 <= x) hx
      have hs : s233_0 (x, ((m + 1 : Nat) : Int), 0, pw x j, ()) = some (0, (x, (m : Int), 0, pw x (j + 1), ())) := by
        have h1 : ((m + 1 : Nat) : Int) > 0 := by omega
        have e : (if (2147483647 : Int) < pw x j * x then 2147483647 else pw x j * x) = pw x (j + 1) := by rw [pw_succ]; split <;> omega
        simp only [s233_0, t233_0, h1, h, decide_true, cond_true]
        rw [wrap_in (n := pw x j * x) (by omega) (by omega), e, wrap_in (n := ((m + 1 : Nat) : Int) - 1) (by omega) (by omega), show ((m + 1 : Nat) : Int) - 1 = m by omega]
      obtain ⟨z, hz⟩ := ih (j + 1) q (by omega) (by omega)
      exact ⟨z, by rw [iter, hs, show j + (m + 1) = (j + 1) + m by omega]; exact hz⟩
    · have e : pw x j = 2147483647 := by omega
      have hs : s233_0 (x, ((m + 1 : Nat) : Int), 0, pw x j, ()) = some (1, (x, ((m + 1 : Nat) : Int), 0, pw x j, ())) := by
        simp [s233_0, t233_0, h]
      exact ⟨_, by rw [iter, hs, pw_top x (by omega) j (m + 1) e, e]; rfl⟩
theorem iPow (a n : Int) (hn : n <= 9223372036854775807) : d233 a n = true /\ v233 a n = powr a n := by
  have hu := upto_max a
  unfold d233 v233 powr
  rw [iUpto]
  generalize upto a 2147483647 = x at *
  by_cases h2 : x < 2
  · rw [decide_eq_true h2]
    by_cases hn0 : n > 0
    · rw [decide_eq_true hn0]
      refine ⟨rfl, ?_⟩
      obtain ⟨q, hq⟩ : ∃ q, (min n 64).toNat = q + 1 := ⟨(min n 64).toNat - 1, by omega⟩
      rw [hq]
      by_cases h0 : x = 0
      · subst h0; rw [pw_zero]; rfl
      · obtain rfl : x = 1 := by omega
        rw [pw_one]; rfl
    · rw [decide_eq_false hn0, show (min n 64).toNat = 0 by omega]
      exact ⟨rfl, rfl⟩
  · rw [decide_eq_false h2]
    have key : ∃ z, iter s233_0 (n233_0 (x, n, 0, 1, ())) (x, n, 0, 1, ()) = some (0, (x, z, 0, pw x (min n 64).toNat, ())) := by
      by_cases hn0 : 0 <= n
      · obtain ⟨z, hz⟩ := iPow_iter x (by omega) hu.2 n.toNat 0 (n233_0 (x, n, 0, 1, ())) (by omega) (by simp only [n233_0]; omega)
        rw [show ((n.toNat : Nat) : Int) = n by omega, Nat.zero_add] at hz
        have e : pw x n.toNat = pw x (min n 64).toNat := by
          by_cases h64 : n <= 64
          · rw [show (min n 64).toNat = n.toNat by omega]
          · rw [pw_31 x (by omega) n.toNat (by omega), pw_31 x (by omega) (min n 64).toNat (by omega)]
        exact ⟨z, by rw [← e]; exact hz⟩
      · obtain ⟨q, hq⟩ : ∃ q, n233_0 (x, n, 0, 1, ()) = q + 1 := ⟨n233_0 (x, n, 0, 1, ()) - 1, by simp only [n233_0]; omega⟩
        have hs : s233_0 (x, n, 0, 1, ()) = some (1, (x, n, 0, 1, ())) := by
          have : ¬ n > 0 := by omega
          simp [s233_0, t233_0, this]
        exact ⟨_, by rw [hq, iter, hs, show (min n 64).toNat = 0 by omega]; rfl⟩
    obtain ⟨z, hz⟩ := key
    have e0 : k233_0 x n 0 1 0 = true := at_of hz 0
    have ew : w233_0 x n 0 1 = _ := val_of hz
    rw [e0, ew]
    exact ⟨rfl, rfl⟩
def spw (x : Int) : Nat -> Int
  | 0 => 0
  | n + 1 => min (spw x n + pw x n) 2147483647
theorem spw_succ (x : Int) (n : Nat) : spw x (n + 1) = min (spw x n + pw x n) 2147483647 := rfl
theorem spw_range (x : Int) (h0 : 0 <= x) (n : Nat) : 0 <= spw x n /\ spw x n <= 2147483647 := by
  induction n with
  | zero => simp [spw]
  | succ n ih =>
    have := pw_range x h0 n
    rw [spw_succ]
    omega
theorem spw_top (x : Int) (h0 : 0 <= x) (n j : Nat) (e : spw x n = 2147483647) : spw x (n + j) = 2147483647 := by
  induction j with
  | zero => exact e
  | succ j ih =>
    have := pw_range x h0 (n + j)
    show min (spw x (n + j) + pw x (n + j)) 2147483647 = _
    omega
theorem spw_31 (x : Int) (h : 2 <= x) (n : Nat) (hn : 32 <= n) : spw x n = 2147483647 := by
  have h1 := pw_31 x h 31 (by omega)
  have h2 := spw_range x (by omega) 31
  have h3 : spw x 32 = 2147483647 := by
    rw [spw_succ, h1]
    omega
  have := spw_top x (by omega) 32 (n - 32) h3
  rwa [show 32 + (n - 32) = n by omega] at this
theorem spw_zero (n : Nat) : spw 0 (n + 1) = 1 := by
  induction n with
  | zero => decide
  | succ n ih => rw [spw_succ, ih, pw_zero]; decide
theorem spw_one (n : Nat) : spw 1 n = min (n : Int) 2147483647 := by
  induction n with
  | zero => decide
  | succ n ih => rw [spw_succ, ih, pw_one]; omega
theorem powr_nat (a : Int) (j : Nat) (h : j <= 64) : powr a j = pw (upto a 2147483647) j := by
  unfold powr
  rw [show (min (j : Int) 64).toNat = j by omega]
theorem powr_nat2 (x : Int) (h : 2 <= x) (hx : x <= 2147483647) (j : Nat) : powr x j = pw x j := by
  unfold powr
  rw [show upto x 2147483647 = x by unfold upto; omega]
  by_cases h64 : j <= 64
  · rw [show (min (j : Int) 64).toNat = j by omega]
  · rw [pw_31 x h _ (by omega), pw_31 x h _ (by omega)]
theorem sPlus (a b : Int) : v222 a b = bnd (bnd a + bnd b) := by
  unfold v222
  rw [sBound, sBound, sBound, wrap_in (by unfold bnd; omega) (by unfold bnd; omega)]
def smEnd (a n : Int) (out : Int) : Int := if n > 64 then (if upto a 2 = 1 then upto n 2147483647 else out) else out
theorem sSum_iter (a n : Int) (hn : n <= 9223372036854775807) (d : Nat) : ∀ (j m : Nat), j + d = (min n 64).toNat -> d < m ->
    ∃ z, iter s234_0 m (a, n, 0, spw (upto a 2147483647) j, (j : Int), ()) = some (0, (a, n, 0, spw (upto a 2147483647) (min n 64).toNat, z, ())) := by
  have hu := upto_max a
  induction d with
  | zero =>
    intro j m hj hm
    obtain ⟨q, rfl⟩ : ∃ q, m = q + 1 := ⟨m - 1, by omega⟩
    have h : s234_0 (a, n, 0, spw (upto a 2147483647) j, (j : Int), ()) = some (1, (a, n, 0, spw (upto a 2147483647) j, (j : Int), ())) := by
      by_cases h : (j : Int) < n
      · have h2 : ¬ (j : Int) < 64 := by omega
        simp [s234_0, t234_0, h, h2]
      · simp [s234_0, t234_0, h]
    exact ⟨_, by rw [iter, h, show (min n 64).toNat = j by omega]; rfl⟩
  | succ d ih =>
    intro j m hj hm
    obtain ⟨q, rfl⟩ : ∃ q, m = q + 1 := ⟨m - 1, by omega⟩
    have hs := spw_range (upto a 2147483647) hu.1 j
    have hp := pw_range (upto a 2147483647) hu.1 j
    by_cases h : spw (upto a 2147483647) j < 2147483647
    · have hst : s234_0 (a, n, 0, spw (upto a 2147483647) j, (j : Int), ()) = some (0, (a, n, 0, spw (upto a 2147483647) (j + 1), ((j + 1 : Nat) : Int), ())) := by
        have h1 : (j : Int) < n := by omega
        have h2 : (j : Int) < 64 := by omega
        have hq := sPow a j (by omega)
        have e : bnd (bnd (spw (upto a 2147483647) j) + bnd (pw (upto a 2147483647) j)) = spw (upto a 2147483647) (j + 1) := by
          rw [spw_succ]; unfold bnd; omega
        simp only [s234_0, t234_0, h1, h2, h, decide_true, cond_true, hq.1, hq.2, sPlus]
        rw [powr_nat a j (by omega), e, wrap_in (n := (j : Int) + 1) (by omega) (by omega)]
        rfl
      obtain ⟨z, hz⟩ := ih (j + 1) q (by omega) (by omega)
      exact ⟨z, by rw [iter, hst]; exact hz⟩
    · have e : spw (upto a 2147483647) j = 2147483647 := by omega
      have e2 : spw (upto a 2147483647) (min n 64).toNat = 2147483647 := by
        have := spw_top _ hu.1 j (d + 1) e
        rwa [hj] at this
      have hst : s234_0 (a, n, 0, spw (upto a 2147483647) j, (j : Int), ()) = some (1, (a, n, 0, spw (upto a 2147483647) j, (j : Int), ())) := by
        by_cases h1 : (j : Int) < n <;> simp [s234_0, t234_0, h1, h]
      exact ⟨_, by rw [iter, hst, e2, e]; rfl⟩
def sumr (a n : Int) : Int := smEnd a n (spw (upto a 2147483647) (min n 64).toNat)
theorem sSum (a n : Int) (hn : n <= 9223372036854775807) : d234 a n = true /\ v234 a n = sumr a n := by
  obtain ⟨z, hz⟩ := sSum_iter a n hn (min n 64).toNat 0 (n234_0 (a, n, 0, 0, 0, ())) (by omega) (by simp only [n234_0]; omega)
  have e0 : k234_0 a n 0 0 0 0 = true := at_of hz 0
  have ew : w234_0 a n 0 0 0 = _ := val_of hz
  unfold d234 v234 sumr smEnd
  rw [e0, ew]
  simp only [cond_true, sUpto]
  by_cases h : n > 64
  · rw [decide_eq_true h, if_pos h]
    by_cases h1 : upto a 2 = 1
    · rw [if_pos h1, h1]; exact ⟨rfl, rfl⟩
    · rw [if_neg h1, show (upto a 2 == (1 : Int)) = false by simpa using h1]; exact ⟨rfl, rfl⟩
  · rw [decide_eq_false h, if_neg h]; exact ⟨rfl, rfl⟩
theorem iSum_iter (x n : Int) (h2 : 2 <= x) (hx : x <= 2147483647) (hn : n <= 9223372036854775807) (d : Nat) : ∀ (j m : Nat), j + d = n.toNat -> d < m ->
    ∃ z, iter s232_0 m (x, n, 0, spw x j, (j : Int), ()) = some (0, (x, n, 0, spw x n.toNat, z, ())) := by
  induction d with
  | zero =>
    intro j m hj hm
    obtain ⟨q, rfl⟩ : ∃ q, m = q + 1 := ⟨m - 1, by omega⟩
    have h : s232_0 (x, n, 0, spw x j, (j : Int), ()) = some (1, (x, n, 0, spw x j, (j : Int), ())) := by
      have h1 : ¬ (j : Int) < n := by omega
      simp [s232_0, t232_0, h1]
    exact ⟨_, by rw [iter, h, show n.toNat = j by omega]; rfl⟩
  | succ d ih =>
    intro j m hj hm
    obtain ⟨q, rfl⟩ : ∃ q, m = q + 1 := ⟨m - 1, by omega⟩
    have hs := spw_range x (by omega) j
    have hp := pw_range x (by omega) j
    by_cases h : spw x j < 2147483647
    · have hst : s232_0 (x, n, 0, spw x j, (j : Int), ()) = some (0, (x, n, 0, spw x (j + 1), ((j + 1 : Nat) : Int), ())) := by
        have h1 : (j : Int) < n := by omega
        have hq := iPow x j (by omega)
        have e : (if (2147483647 : Int) < spw x j + pw x j then 2147483647 else spw x j + pw x j) = spw x (j + 1) := by rw [spw_succ]; split <;> omega
        simp only [s232_0, t232_0, h1, h, decide_true, cond_true, hq.1, hq.2]
        rw [powr_nat2 x h2 hx j, wrap_in (n := spw x j + pw x j) (by omega) (by omega), e, wrap_in (n := (j : Int) + 1) (by omega) (by omega)]
        rfl
      obtain ⟨z, hz⟩ := ih (j + 1) q (by omega) (by omega)
      exact ⟨z, by rw [iter, hst]; exact hz⟩
    · have e : spw x j = 2147483647 := by omega
      have e2 : spw x n.toNat = 2147483647 := by
        have := spw_top x (by omega) j (d + 1) e
        rwa [hj] at this
      have hst : s232_0 (x, n, 0, spw x j, (j : Int), ()) = some (1, (x, n, 0, spw x j, (j : Int), ())) := by
        by_cases h1 : (j : Int) < n <;> simp [s232_0, t232_0, h1, h]
      exact ⟨_, by rw [iter, hst, e2, e]; rfl⟩
theorem iSum (a n : Int) (hn : n <= 9223372036854775807) : d232 a n = true /\ v232 a n = sumr a n := by
  have hu := upto_max a
  have hq : upto a 2 = min (upto a 2147483647) 2 := by unfold upto; omega
  unfold d232 v232 sumr smEnd
  rw [iUpto, hq]
  generalize upto a 2147483647 = x at *
  by_cases hn0 : n <= 0
  · rw [decide_eq_true hn0, if_neg (show ¬ n > 64 by omega), show (min n 64).toNat = 0 by omega]
    exact ⟨rfl, rfl⟩
  · rw [decide_eq_false hn0]
    obtain ⟨q, hq1⟩ : ∃ q, (min n 64).toNat = q + 1 := ⟨(min n 64).toNat - 1, by omega⟩
    by_cases h0 : x = 0
    · subst h0
      rw [hq1, spw_zero, if_neg (show ¬ (min (0 : Int) 2 = 1) by decide), ite_self]
      exact ⟨rfl, rfl⟩
    · rw [show (x == (0 : Int)) = false by simpa using h0]
      by_cases h1 : x = 1
      · subst h1
        refine ⟨rfl, ?_⟩
        rw [spw_one, if_pos (show min (1 : Int) 2 = 1 by decide)]
        show (if (2147483647 : Int) < n then 2147483647 else n) = _
        unfold upto
        split <;> split <;> omega
      · rw [show (x == (1 : Int)) = false by simpa using h1]
        obtain ⟨z, hz⟩ := iSum_iter x n (by omega) hu.2 hn n.toNat 0 (n232_0 (x, n, 0, 0, 0, ())) (by omega) (by simp only [n232_0]; omega)
        have e : (if n > 64 then (if min x 2 = 1 then upto n 2147483647 else spw x (min n 64).toNat) else spw x (min n 64).toNat) = spw x n.toNat := by
          split
          · rw [if_neg (by omega), spw_31 x (by omega) _ (by omega), spw_31 x (by omega) _ (by omega)]
          · rw [show (min n 64).toNat = n.toNat by omega]
        have e0 : k232_0 x n 0 0 0 0 = true := at_of hz 0
        have ew : w232_0 x n 0 0 0 = _ := val_of hz
        rw [e0, ew, e]
        exact ⟨rfl, rfl⟩
theorem ok_i64 {n : Int} (h : Ty.ok (.int .i64) n) : -9223372036854775808 <= n /\ n <= 9223372036854775807 := by
  simp [Ty.ok, Lit.wf, IntKind.min, IntKind.max, IntKind.signed, IntKind.bits] at h
  omega
noncomputable def cntF (k : Int) (e : Ty.T y108) : Int := if e.2.2.2.2.2.2.2.2 = 0 then k else k + 1
theorem useS (xs : List (Ty.T y108)) (hb : xs.length <= 1048576) : d69 xs = true /\ v69 xs = xs.foldl cntF 0 := by
  have h := fold_iter (s := s69_0) (mk := fun (k : Int) i => (xs, 0, k, i, ())) (xs := xs) (f := cntF) (Inv := fun i k => 0 <= k /\ k <= i) (fun i x k hx hI => by
    obtain ⟨hi, rfl⟩ := List.getElem?_eq_some_iff.1 hx
    have hk := wrap_in (n := k + 1) (by omega) (by omega)
    by_cases hg : (xs[i]).2.2.2.2.2.2.2.2 = 0
    · have hg2 : ((xs[i]).2.2.2.2.2.2.2.2 != (0 : Int)) = false := by simpa using hg
      refine ⟨by simp [s69_0, t69_0, optC_some, hi, hg, hg2, cntF, wrap_nat (n := i) (by omega)], ?_⟩
      unfold cntF; rw [if_pos hg]; omega
    · have hg2 : ((xs[i]).2.2.2.2.2.2.2.2 != (0 : Int)) = true := by simpa using hg
      refine ⟨by simp [s69_0, t69_0, optC_some, hi, hg, hg2, hk, cntF, wrap_nat (n := i) (by omega)], ?_⟩
      unfold cntF; rw [if_neg hg]; omega) (fun k => by simp [s69_0, t69_0]) xs.length 0 0 (n69_0 (xs, 0, 0, 0, ())) (by omega) (by simp only [n69_0]; omega) ⟨by omega, by omega⟩
  have hk : k69_0 xs 0 0 0 0 = true := at_of h 0
  have hw : w69_0 xs 0 0 0 = _ := val_of h
  unfold d69 v69
  rw [hk, hw]
  exact ⟨rfl, rfl⟩
theorem useI (xs : List (Ty.T y108)) (hb : xs.length <= 1048576) : d68 xs = true /\ v68 xs = xs.foldl cntF 0 := by
  have h := fold_iter (s := s68_0) (mk := fun (k : Int) i => (0, k, xs, ((xs).length : Int), i, ())) (xs := xs) (f := cntF) (Inv := fun i k => 0 <= k /\ k <= i) (fun i x k hx hI => by
    obtain ⟨hi, rfl⟩ := List.getElem?_eq_some_iff.1 hx
    have hk := wrap_in (n := k + 1) (by omega) (by omega)
    by_cases hg : (xs[i]).2.2.2.2.2.2.2.2 = 0
    · have hg2 : ((xs[i]).2.2.2.2.2.2.2.2 != (0 : Int)) = false := by simpa using hg
      refine ⟨by simp [s68_0, t68_0, optC_some, hi, hg, hg2, cntF, wrap_nat (n := i) (by omega)], ?_⟩
      unfold cntF; rw [if_pos hg]; omega
    · have hg2 : ((xs[i]).2.2.2.2.2.2.2.2 != (0 : Int)) = true := by simpa using hg
      refine ⟨by simp [s68_0, t68_0, optC_some, hi, hg, hg2, hk, cntF, wrap_nat (n := i) (by omega)], ?_⟩
      unfold cntF; rw [if_neg hg]; omega) (fun k => by simp [s68_0, t68_0]) xs.length 0 0 (n68_0 (0, 0, xs, ((xs).length : Int), 0, ())) (by omega) (by simp only [n68_0]; omega) ⟨by omega, by omega⟩
  have hk : k68_0 0 0 xs ((xs).length : Int) 0 0 = true := at_of h 0
  have hw : w68_0 0 0 xs ((xs).length : Int) 0 = _ := val_of h
  unfold d68 v68
  rw [hk, hw]
  exact ⟨rfl, rfl⟩
theorem cnt_range (xs : List (Ty.T y108)) : ∀ k, 0 <= k -> 0 <= xs.foldl cntF k /\ xs.foldl cntF k <= k + xs.length := by
  induction xs with
  | nil => intro k hk; simp; exact hk
  | cons x xs ih =>
    intro k hk
    simp only [List.foldl_cons, List.length_cons]
    have h := ih (cntF k x) (by unfold cntF; split <;> omega)
    have h2 : cntF k x <= k + 1 := by unfold cntF; split <;> omega
    omega
noncomputable def chF (k : Int) (x : Ty.T y66) : Int := if IntKind.wrap .i64 (x.2.2.2.2.2.2.2 + 1) > k then IntKind.wrap .i64 (x.2.2.2.2.2.2.2 + 1) else k
theorem wrap_up (d k : Int) (h0 : -9223372036854775808 <= d) (h1 : d <= 9223372036854775807) (hk : 0 <= k) : (if IntKind.wrap .i64 (d + 1) > k then IntKind.wrap .i64 (d + 1) else k) = cond (decide (d ≥ k)) (cond (decide (IntKind.wrap .i64 (d + 1) > 0)) (IntKind.wrap .i64 (d + 1)) k) k := by
  by_cases hd : d = 9223372036854775807
  · subst hd
    have : IntKind.wrap .i64 ((9223372036854775807 : Int) + 1) = -9223372036854775808 := by decide
    rw [this, if_neg (by omega), decide_eq_false (show ¬ (-9223372036854775808 : Int) > 0 by omega)]
    cases decide ((9223372036854775807 : Int) ≥ k) <;> rfl
  · rw [wrap_in (n := d + 1) (by omega) (by omega)]
    by_cases h : d ≥ k
    · rw [decide_eq_true h, if_pos (by omega), decide_eq_true (show d + 1 > 0 by omega)]; rfl
    · rw [decide_eq_false h, if_neg (by omega)]; rfl
theorem chainS (f : Ty.T y56) (hb : f.2.2.2.length <= 1048576) (hr : ∀ x ∈ f.2.2.2, -9223372036854775808 <= x.2.2.2.2.2.2.2 /\ x.2.2.2.2.2.2.2 <= 9223372036854775807) : d66 f = true /\ v66 f = f.2.2.2.foldl chF 0 := by
  have h := fold_iter (s := s66_0) (mk := fun (k : Int) i => (0, k, i, f, ())) (xs := f.2.2.2) (f := chF) (Inv := fun _ k => 0 <= k) (fun i x k hx hI => by
    have hm := hr x (List.mem_of_getElem? hx)
    obtain ⟨hi, rfl⟩ := List.getElem?_eq_some_iff.1 hx
    refine ⟨?_, by unfold chF; split <;> omega⟩
    have e := wrap_up (f.2.2.2[i]).2.2.2.2.2.2.2 k hm.1 hm.2 hI
    unfold chF
    rw [e]
    by_cases h1 : (f.2.2.2[i]).2.2.2.2.2.2.2 ≥ k <;> by_cases h2 : IntKind.wrap .i64 ((f.2.2.2[i]).2.2.2.2.2.2.2 + 1) > 0 <;> simp [s66_0, t66_0, optC_some, hi, h1, h2, wrap_nat (n := i) (by omega)]) (fun k => by simp [s66_0, t66_0]) f.2.2.2.length 0 0 (n66_0 (0, 0, 0, f, ())) (by omega) (by simp only [n66_0]; omega) (by omega)
  have hk : k66_0 0 0 0 f 0 = true := at_of h 0
  have hw : w66_0 0 0 0 f = _ := val_of h
  unfold d66 v66
  rw [hk, hw]
  exact ⟨rfl, rfl⟩
theorem chainI (f : Ty.T y56) (hb : f.2.2.2.length <= 1048576) (hr : ∀ x ∈ f.2.2.2, -9223372036854775808 <= x.2.2.2.2.2.2.2 /\ x.2.2.2.2.2.2.2 <= 9223372036854775807) : d65 f = true /\ v65 f = f.2.2.2.foldl chF 0 := by
  have h := fold_iter (s := s65_0) (mk := fun (k : Int) i => (0, k, f.2.2.2, ((f.2.2.2).length : Int), i, ())) (xs := f.2.2.2) (f := chF) (Inv := fun _ k => 0 <= k) (fun i x k hx hI => by
    have hm := hr x (List.mem_of_getElem? hx)
    obtain ⟨hi, rfl⟩ := List.getElem?_eq_some_iff.1 hx
    refine ⟨?_, by unfold chF; split <;> omega⟩
    simp [s65_0, t65_0, optC_some, hi, chF, wrap_nat (n := i) (by omega)]) (fun k => by simp [s65_0, t65_0]) f.2.2.2.length 0 0 (n65_0 (0, 0, f.2.2.2, ((f.2.2.2).length : Int), 0, ())) (by omega) (by simp only [n65_0]; omega) (by omega)
  have hk : k65_0 0 0 f.2.2.2 ((f.2.2.2).length : Int) 0 0 = true := at_of h 0
  have hw : w65_0 0 0 f.2.2.2 ((f.2.2.2).length : Int) 0 = _ := val_of h
  unfold d65 v65
  rw [hk, hw]
  exact ⟨rfl, rfl⟩
theorem bounds (l : List (Ty.T y108)) (f : Ty.T y56) (hl : l.length <= 1048576) (hb : f.2.2.2.length <= 1048576) (hr : ∀ x ∈ f.2.2.2, -9223372036854775808 <= x.2.2.2.2.2.2.2 /\ x.2.2.2.2.2.2.2 <= 9223372036854775807) : d47 l f = true /\ d46 l f = true /\ v46 l f = v47 l f := by
  have u1 := useS l hl
  have u2 := useI l hl
  have ur := cnt_range l 0 (by omega)
  have hn : v69 l <= 9223372036854775807 := by rw [u1.2]; omega
  have hn2 : v68 l <= 9223372036854775807 := by rw [u2.2]; omega
  have e : v68 l = v69 l := u2.2.trans u1.2.symm
  have a1 := sSum 3 (v69 l) hn
  have a2 := iSum 3 (v69 l) hn
  have a3 := sPow 3 (v69 l) hn
  have a4 := iPow 3 (v69 l) hn
  have t1 : d146 l = true /\ v146 l = sumr 3 (v69 l) := by unfold d146 v146; rw [u1.1, a1.1, a1.2]; exact ⟨rfl, rfl⟩
  have t2 : d144 l = true /\ v144 l = sumr 3 (v69 l) := by unfold d144 v144; rw [u2.1, e, a2.1, a2.2]; exact ⟨rfl, rfl⟩
  have t3 : d147 l = true /\ v147 l = powr 3 (v69 l) := by unfold d147 v147; rw [u1.1, a3.1, a3.2]; exact ⟨rfl, rfl⟩
  have t4 : d145 l = true /\ v145 l = powr 3 (v69 l) := by unfold d145 v145; rw [u2.1, e, a4.1, a4.2]; exact ⟨rfl, rfl⟩
  have c1 := chainS f hb hr
  have c2 := chainI f hb hr
  unfold d47 d46 v47 v46
  rw [t1.1, t1.2, t2.1, t2.2, t3.1, t3.2, t4.1, t4.2, c1.1, c1.2, c2.1, c2.2, u1.1, u2.1, e]
  generalize decide ((f.2.2.2.length : Int) <= sumr 3 (v69 l)) = b1
  generalize decide ((f.1.length : Int) <= powr 3 (v69 l)) = b2
  cases b1 <;> cases b2 <;> exact ⟨rfl, rfl, rfl⟩
theorem iter_all {V : Type} {s : V -> Option (Nat × V)} {mk fin : Nat -> V} {N : Nat} (h : ∀ i, i < N -> s (mk i) = some (0, mk (i + 1)) ∨ s (mk i) = some (1, fin i)) {v : V} : ∀ (k i n : Nat), i + k = N -> iter s n (mk i) = some (1, v) -> ∀ j, i <= j -> j < N -> s (mk j) = some (0, mk (j + 1))
  | 0, i, n, hk, hi, j, h1, h2 => by omega
  | k + 1, i, n, hk, hi, j, h1, h2 => by
    cases n with
    | zero => rw [iter] at hi; cases hi
    | succ n =>
      rcases h i (by omega) with a | a
      · by_cases hij : i = j
        · subst hij; exact a
        · rw [iter, a] at hi
          exact iter_all h k (i + 1) n (by omega) hi j (by omega) h2
      · rw [iter, a] at hi
        cases hi
theorem tabStep (l : List (Ty.T y108)) (hb : l.length <= 1048576) (hv : ∀ x ∈ l, x.2.2.2.2.2.2.1.2.2.2.2.2.2.length <= 1048576) (i : Nat) (hi : i < l.length) : (s156_0 (l, false, (i : Int), ()) = some (0, (l, false, ((i + 1 : Nat) : Int), ())) /\ v242 l[i] = true /\ ∀ (j : Nat) (hj : j + 1 = i), ¬ (@LE.le Int _ l[i].1 (l[j]'(by omega)).1)) ∨ s156_0 (l, false, (i : Int), ()) = some (1, (l, false, (i : Int), ())) := by
  have h1 : l[i]? = some l[i] := List.getElem?_eq_getElem hi
  have h3 : (i : Int) < (l.length : Int) := by omega
  have hq := effectOk l[i] (hv _ (List.getElem_mem hi))
  obtain ⟨p, hp⟩ : ∃ p, l[i] = p := ⟨_, rfl⟩
  rw [hp] at h1 hq ⊢
  have hw := wrap_nat (n := i) (by omega)
  match i, hi, h1, h3, hw, hp with
  | 0, hi, h1, h3, hw, hp =>
    simp only [s156_0, t156_0, decide_eq_true h3, cond_true, if_pos (show (0 : Int) <= ((0 : Nat) : Int) by omega), Int.toNat_natCast, h1, optC_some, hq.1, decide_eq_false (show ¬ ((0 : Nat) : Int) > 0 by omega), cond_false, hw]
    cases v242 p
    · exact .inr rfl
    · exact .inl ⟨rfl, rfl, fun j hj => by omega⟩
  | j + 1, hi, h1, h3, hw, hp =>
    have h2 : l[j]? = some l[j] := List.getElem?_eq_getElem (by omega)
    obtain ⟨q, hqq⟩ : ∃ q, l[j] = q := ⟨_, rfl⟩
    rw [hqq] at h2
    simp only [s156_0, t156_0, decide_eq_true h3, cond_true, if_pos (show (0 : Int) <= ((j + 1 : Nat) : Int) by omega), Int.toNat_natCast, h1, h2, optC_some, hq.1, decide_eq_true (show ((j + 1 : Nat) : Int) > 0 by omega), wrap_pred j (by omega), if_pos (show (0 : Int) <= (j : Int) by omega), hw]
    cases hc : v242 p
    · exact .inr rfl
    · by_cases hd : q.1 ≥ p.1
      · rw [decide_eq_true hd]
        exact .inr rfl
      · rw [decide_eq_false hd]
        refine .inl ⟨rfl, rfl, fun j' hj' => ?_⟩
        have : j' = j := by omega
        subst this
        rw [hqq]
        exact hd
theorem tabAll (l : List (Ty.T y108)) (hb : l.length <= 1048576) (hv : ∀ x ∈ l, x.2.2.2.2.2.2.1.2.2.2.2.2.2.length <= 1048576) (h : v156 l = true) (i : Nat) (hi : i < l.length) : v242 l[i] = true /\ ∀ (j : Nat) (hj : j + 1 = i), ¬ (@LE.le Int _ l[i].1 (l[j]'(by omega)).1) := by
  unfold v156 at h
  rcases tableL l hb hv with ⟨j, x1, x2⟩ | ⟨x1, x2⟩
  · have e0 : k156_0 l false 0 0 = true := at_of x1 0
    have ew : w156_0 l false 0 = _ := val_of x1
    simp only [e0, ew, cond_true] at h
    cases h
  · have := iter_all (s := s156_0) (mk := fun i => (l, false, (i : Int), ())) (fin := fun i => (l, false, (i : Int), ())) (N := l.length) (fun i hi => by
      rcases tabStep l hb hv i hi with h | h
      · exact .inl h.1
      · exact .inr h) l.length 0 _ (by omega) x1 i (by omega) hi
    rcases tabStep l hb hv i hi with h | h
    · exact h.2
    · rw [h] at this
      cases this
theorem tabLt (l : List (Ty.T y108)) (hb : l.length <= 1048576) (hv : ∀ x ∈ l, x.2.2.2.2.2.2.1.2.2.2.2.2.2.length <= 1048576) (h : v156 l = true) : ∀ (k i j : Nat) (hi : i < l.length) (hj : j < l.length), i + k + 1 = j -> @LT.lt Int _ l[i].1 l[j].1
  | 0, i, j, hi, hj, hk => Int.not_le.1 ((tabAll l hb hv h j hj).2 i (by omega))
  | k + 1, i, j, hi, hj, hk => Int.lt_trans (tabLt l hb hv h k i (j - 1) hi (by omega) (by omega)) (Int.not_le.1 ((tabAll l hb hv h j hj).2 (j - 1) (by omega)))
theorem tabAsc (l : List (Ty.T y108)) (hb : l.length <= 1048576) (hv : ∀ x ∈ l, x.2.2.2.2.2.2.1.2.2.2.2.2.2.length <= 1048576) (h : v156 l = true) : (l.map (·.1)).Nodup := by
  refine List.pairwise_iff_getElem.2 fun i j hi hj hij => ?_
  rw [List.length_map] at hi hj
  rw [List.getElem_map, List.getElem_map]
  exact Int.ne_of_lt (tabLt l hb hv h (j - i - 1) i j hi hj (by omega))
def lf (p : Ty.T y108) : Int := p.2.2.2.2.2.2.2.2
theorem fitsLf (s : Ty.T y36) (x : Ty.T y108) (e : Ty.T y27) (hv : x.2.2.2.2.2.2.1.2.2.2.2.2.2.length <= 1048576) (h : v269 s x e = true) : ¬ lf x = 0 := by
  have hok := fitsOk s x e hv h
  unfold v269 at h
  rw [(effectOk x hv).1, hok] at h
  intro h0
  have : v309 x s.2.2.2 = false := by
    unfold v309
    have : (x.2.2.2.2.2.2.2.2 != (0 : Int)) = false := by
      have h1 : x.2.2.2.2.2.2.2.2 = (0 : Int) := h0
      rw [h1]
      rfl
    rw [this]
    rfl
  rw [this] at h
  cases h
def usN (u : List (Ty.T (.int .i64))) (T : List (Ty.T y108)) : Nat := T.countP fun p => !decide (lf p = 0) && !(u.any fun z => z == p.1)
def SW : Nat -> Nat
  | 0 => 0
  | m + 1 => 1 + 3 * SW m
def LW : Nat -> Nat
  | 0 => 1
  | m + 1 => 3 * LW m
theorem LW_pos : ∀ m, 1 <= LW m
  | 0 => Nat.le_refl _
  | m + 1 => by have := LW_pos m; simp only [LW]; omega
def ofN (t : Ty.T y66) : Bool := decide ((2 : Int) <= t.2.2.2.1)
def needN (l : List (Ty.T y66)) : Nat := l.countP ofN
def deepN (t : Ty.T y66) : Int := t.2.2.2.2.2.2.2
def LeR (p p' : Ty.T y108) : Prop := p'.1 = p.1 /\ (lf p = 0 -> lf p' = 0)
theorem All2.refl {α : Type} {R : α -> α -> Prop} (h : ∀ a, R a a) : ∀ l : List α, All2 R l l
  | [] => .nil
  | a :: l => .cons (h a) (All2.refl h l)
theorem All2.trans' {α : Type} {R : α -> α -> Prop} (h : ∀ a b c, R a b -> R b c -> R a c) : ∀ {l m n : List α}, All2 R l m -> All2 R m n -> All2 R l n
  | _, _, _, .nil, .nil => .nil
  | _, _, _, .cons a b, .cons c e => .cons (h _ _ _ a c) (All2.trans' h b e)
theorem All2.setR {α : Type} {R : α -> α -> Prop} (h : ∀ a, R a a) : ∀ (l : List α) (j : Nat) (n : α), (∀ p, l[j]? = some p -> R p n) -> All2 R l (l.set j n)
  | [], _, _, _ => .nil
  | a :: l, 0, n, hp => .cons (hp a rfl) (All2.refl h l)
  | a :: l, j + 1, n, hp => .cons (h a) (All2.setR h l j n fun p hq => hp p hq)
theorem LeR.refl (p : Ty.T y108) : LeR p p := ⟨rfl, id⟩
theorem LeR.trans (a b c : Ty.T y108) (h : LeR a b) (k : LeR b c) : LeR a c := ⟨k.1.trans h.1, fun x => k.2 (h.2 x)⟩
theorem usN_le {u : List (Ty.T (.int .i64))} : ∀ {T T' : List (Ty.T y108)}, All2 LeR T T' -> usN u T' <= usN u T
  | _, _, .nil => Nat.le_refl _
  | a :: T, b :: T', .cons h k => by
    have ih : T'.countP _ <= T.countP _ := usN_le (u := u) k
    unfold usN
    rw [List.countP_cons, List.countP_cons, h.1]
    by_cases h0 : lf a = 0
    · rw [h.2 h0, h0]
      exact Nat.add_le_add_right ih _
    · rw [decide_eq_false h0]
      by_cases h1 : lf b = 0
      · rw [decide_eq_true h1]
        simp only [Bool.not_true, Bool.false_and, Bool.false_eq_true, if_false, Nat.add_zero]
        exact Nat.le_trans ih (Nat.le_add_right _ _)
      · rw [decide_eq_false h1]
        exact Nat.add_le_add_right ih _
theorem usN_lt {u : List (Ty.T (.int .i64))} {T : List (Ty.T y108)} {p : Ty.T y108} (hp : p ∈ T) (h0 : ¬ lf p = 0) (hu : (u.any fun z => z == p.1) = false) : usN (u ++ [p.1]) T + 1 <= usN u T := by
  unfold usN
  refine cntP (fun x hx => ?_) (y := p) ?_ ?_ T hp
  · simp only [List.any_append, Bool.not_or, Bool.and_eq_true] at hx ⊢
    exact ⟨hx.1, hx.2.1⟩
  · rw [hu, decide_eq_false h0]
    rfl
  · simp
/-- What is said of rewriting. -/
def BndP (u : List (Ty.T (.int .i64))) (T : List (Ty.T y108)) (cs : List (Ty.T (.int .i64))) (n : Nat) (z : List (Ty.T y108) × List (Ty.T y27) × List (Ty.T (.int .i64)) × List (Ty.T y66)) : Prop :=
  All2 LeR T z.1 /\ (∀ m, usN u T <= m -> z.2.1.length <= n * LW m /\ z.2.2.2.length <= n * SW m /\ ∀ t ∈ z.2.2.2, 0 <= deepN t /\ deepN t + 1 <= (u.length : Int) + (m : Int)) /\ z.2.2.1 = cs.drop (needN z.2.2.2)
theorem bndFold {P : Ty.T y27 -> List (Ty.T y108) -> List (Ty.T (.int .i64)) -> List (Ty.T y108) × List (Ty.T y27) × List (Ty.T (.int .i64)) × List (Ty.T y66) -> Prop} {u : List (Ty.T (.int .i64))} (hP : ∀ y T cs a, P y T cs a -> BndP u T cs 1 a) : ∀ {L T cs z}, FoldP P L T cs z -> BndP u T cs L.length z
  | _, _, _, _, .nil => ⟨All2.refl LeR.refl _, fun m hm => ⟨by simp, by simp, fun t ht => by cases ht⟩, by simp [needN]⟩
  | _, _, _, _, .cons (y := y) (L := L) (T := T) (cs := cs) (a := a) (b := b) h k => by
    obtain ⟨a1, a2, a3⟩ := hP _ _ _ _ h
    obtain ⟨b1, b2, b3⟩ := bndFold hP k
    refine ⟨All2.trans' LeR.trans a1 b1, fun m hm => ?_, ?_⟩
    · obtain ⟨x1, x2, x3⟩ := a2 m hm
      obtain ⟨y1, y2, y3⟩ := b2 m (Nat.le_trans (usN_le a1) hm)
      refine ⟨?_, ?_, fun t ht => ?_⟩
      · show (a.2.1 ++ b.2.1).length <= _
        rw [List.length_append, List.length_cons, Nat.succ_mul]
        omega
      · show (a.2.2.2 ++ b.2.2.2).length <= _
        rw [List.length_append, List.length_cons, Nat.succ_mul]
        omega
      · rcases List.mem_append.1 ht with ht | ht
        · exact x3 t ht
        · exact y3 t ht
    · show b.2.2.1 = cs.drop (needN (a.2.2.2 ++ b.2.2.2))
      rw [b3, a3, List.drop_drop]
      unfold needN
      rw [List.countP_append]
theorem mwBnd {s : Ty.T y36} (hb : s.1.length <= 1048576) (hs : s.2.1.length <= 1048576) (k : Nat) (x : Ty.T y27) (u : List (Ty.T (.int .i64))) (T : List (Ty.T y108)) (cs : List (Ty.T (.int .i64))) (w : WfW k u T cs) : BndP u T cs 1 (mw s k x u T cs) := by
  refine (mwInd hb hs (fun k x u T cs z => BndP u T cs 1 z) ?_ ?_ ?_ k x u T cs w).1
  · intro x u T cs w
    exact ⟨All2.refl LeR.refl _, fun m hm => ⟨by simp, by simp, fun t ht => by cases ht⟩, by simp [needN]⟩
  · intro k x u T cs w ho
    refine ⟨All2.refl LeR.refl _, fun m hm => ⟨?_, by simp, fun t ht => by cases ht⟩, by simp [needN]⟩
    have := LW_pos m
    cases v244 x
    · show 1 <= _
      omega
    · show 0 <= _
      omega
  · intro k x u T cs oo ch cs1 j p z w ho hol hy hpk hcs hpj hun hft hn1 hL hf
    have hpm := List.mem_of_getElem? hpj
    have h0 := fitsLf s p x (w.tv p hpm) hft
    have hA : All2 LeR T (T.set j (newE (v214 p x))) := All2.setR LeR.refl T j _ fun q hq => by
      have : q = p := Option.some.inj (hq.symm.trans hpj)
      subst this
      exact ⟨hn1, fun h => absurd h h0⟩
    obtain ⟨a1, a2, a3⟩ := bndFold (fun y T cs a h => h.2.1) hf
    refine ⟨All2.trans' LeR.trans hA a1, fun m hm => ?_, ?_⟩
    · have hlt := usN_lt hpm h0 hun
      obtain ⟨m, rfl⟩ : ∃ m', m = m' + 1 := ⟨m - 1, by omega⟩
      obtain ⟨x1, x2, x3⟩ := a2 m (by have := usN_le (u := u ++ [p.1]) hA; omega)
      have hm1 : (v214 p x).2.2.2.1.length * LW m <= 3 * LW m := Nat.mul_le_mul_right _ hL
      have hm2 : (v214 p x).2.2.2.1.length * SW m <= 3 * SW m := Nat.mul_le_mul_right _ hL
      refine ⟨?_, ?_, fun t ht => ?_⟩
      · show z.2.1.length <= _
        simp only [LW]
        omega
      · show (turnW s p x (ch : Int) oo.length u :: z.2.2.2).length <= _
        rw [List.length_cons]
        simp only [SW]
        omega
      · rcases List.mem_cons.1 ht with rfl | ht
        · show 0 <= (u.length : Int) /\ (u.length : Int) + 1 <= _
          omega
        · have := x3 t ht
          rw [List.length_append] at this
          simp only [List.length_cons, List.length_nil] at this
          omega
    · show z.2.2.1 = cs.drop (needN (turnW s p x (ch : Int) oo.length u :: z.2.2.2))
      have hn : needN (turnW s p x (ch : Int) oo.length u :: z.2.2.2) = needN z.2.2.2 + (if oo.length < 2 then 0 else 1) := by
        unfold needN
        rw [List.countP_cons]
        congr 1
        show (if decide ((2 : Int) <= (oo.length : Int)) = true then 1 else 0) = _
        by_cases h2 : oo.length < 2
        · rw [if_pos h2, if_neg (by simp only [decide_eq_true_eq]; omega)]
        · rw [if_neg h2, if_pos (by simp only [decide_eq_true_eq]; omega)]
      rw [hn, a3, hcs]
      by_cases h2 : oo.length < 2
      · rw [if_pos h2, if_pos h2]
        rfl
      · rw [if_neg h2, if_neg h2, ← List.drop_one, List.drop_drop]
        congr 1
        omega
theorem usN_cnt (T : List (Ty.T y108)) : ∀ k : Int, T.foldl cntF k = k + (usN [] T : Int) := by
  induction T with
  | nil => intro k; simp [usN]
  | cons p T ih =>
    intro k
    rw [List.foldl_cons, ih]
    unfold usN cntF
    rw [List.countP_cons]
    by_cases h : lf p = 0
    · have h' : p.2.2.2.2.2.2.2.2 = 0 := h
      rw [if_pos h', decide_eq_true h]
      simp
    · have h' : ¬ p.2.2.2.2.2.2.2.2 = 0 := h
      rw [if_neg h', decide_eq_false h]
      simp
      omega
theorem small3 (m : Nat) (h : m <= 5) : ((SW m : Int) = sumr 3 (m : Int)) /\ ((LW m : Int) = powr 3 (m : Int)) := by
  match m, h with
  | 0, _ => exact ⟨by decide +kernel, by decide +kernel⟩
  | 1, _ => exact ⟨by decide +kernel, by decide +kernel⟩
  | 2, _ => exact ⟨by decide +kernel, by decide +kernel⟩
  | 3, _ => exact ⟨by decide +kernel, by decide +kernel⟩
  | 4, _ => exact ⟨by decide +kernel, by decide +kernel⟩
  | 5, _ => exact ⟨by decide +kernel, by decide +kernel⟩
  | n + 6, h => omega
theorem chF_le : ∀ (l : List (Ty.T y66)) (k b : Int), k <= b -> b <= 1048576 -> (∀ t ∈ l, 0 <= deepN t /\ deepN t + 1 <= b) -> l.foldl chF k <= b
  | [], _, _, h, _, _ => h
  | t :: l, k, b, h, hb, hd => by
    rw [List.foldl_cons]
    refine chF_le l _ b ?_ hb fun t ht => hd t (List.mem_cons_of_mem _ ht)
    obtain ⟨h1, h2⟩ := hd t List.mem_cons_self
    unfold chF
    have hw : IntKind.wrap .i64 (t.2.2.2.2.2.2.2 + 1) = t.2.2.2.2.2.2.2 + 1 := wrap_in (by unfold deepN at h1; omega) (by unfold deepN at h2; omega)
    rw [hw]
    unfold deepN at h2
    split <;> omega
theorem chooseI (l : List (Ty.T y66)) (hb : l.length <= 1048576) : d58 l = true /\ v58 l = (l.filter ofN).map (·.2.2.1) := by
  have h := seq_iter (s := s58_0) (f := fun i => ([], l, ((l).length : Int), (i : Int), ((l.take i).filter ofN).map (·.2.2.1), ())) (c := 0) (N := l.length) (v' := ([], l, ((l).length : Int), (l.length : Int), ((l.take l.length).filter ofN).map (·.2.2.1), ())) (fun i hi => by
    have h1 : l[i]? = some l[i] := List.getElem?_eq_getElem hi
    have hw := wrap_nat (n := i) (by omega)
    have hz : ∀ x : Int, (@HAppend.hAppend (List Int) (List Int) (List Int) _ (((l.take i).filter ofN).map (·.2.2.1)) [x]).length * 8 <= 140737488351232 := fun x => by
      have := List.length_filter_le ofN (l.take i)
      simp only [List.length_append, List.length_cons, List.length_nil, List.length_map, List.length_take] at this ⊢
      omega
    rw [filter_snoc h1]
    by_cases c1 : (l[i]).2.2.2.1 ≥ (2 : Int)
    · have c2 : ofN l[i] = true := decide_eq_true c1
      simp only [s58_0, t58_0, decide_eq_true (show (i : Int) < (l.length : Int) by omega), cond_true, if_pos (show (0 : Int) <= (i : Int) by omega), Int.toNat_natCast, h1, optC_some, hw, decide_eq_true c1, c2, if_pos (hz _), List.map_append, List.map_cons, List.map_nil] <;> rfl
    · have c2 : ofN l[i] = false := decide_eq_false c1
      simp only [s58_0, t58_0, decide_eq_true (show (i : Int) < (l.length : Int) by omega), cond_true, if_pos (show (0 : Int) <= (i : Int) by omega), Int.toNat_natCast, h1, optC_some, hw, decide_eq_false c1, c2, cond_false, List.append_nil] <;> rfl) (by simp [s58_0, t58_0]) l.length 0 (n58_0 ([], l, ((l).length : Int), 0, [], ())) (by omega) (by simp only [n58_0]; omega)
  have hk : k58_0 [] l ((l).length : Int) 0 [] 0 = true := at_of h 0
  have hw : w58_0 [] l ((l).length : Int) 0 [] = _ := val_of h
  unfold d58 v58
  rw [hk, hw]
  exact ⟨rfl, by simp⟩
theorem rng64 {d : Int} (h : 0 <= d) (h2 : d <= 1048576) : -9223372036854775808 <= d /\ d <= 9223372036854775807 := by omega
theorem needI (f : Ty.T y56) (hb : f.2.2.2.length <= 1048576) : d49 f = true /\ v49 f = (needN f.2.2.2 : Int) := by
  have h := chooseI f.2.2.2 hb
  unfold d49 v49
  rw [h.1, h.2]
  refine ⟨rfl, ?_⟩
  show ((List.length (List.map _ (List.filter ofN f.2.2.2)) : Nat) : Int) = _
  rw [List.length_map, ← List.countP_eq_length_filter]
  rfl
theorem rwBnd (s : Ty.T y36) (l : List (Ty.T y108)) (e : Ty.T y27) (cs : List (Ty.T (.int .i64))) (hb : s.1.length <= 1048576) (hs : s.2.1.length <= 1048576) (hl : l.length <= 1048576) (hv : ∀ x ∈ l, x.2.2.2.2.2.2.1.2.2.2.2.2.2.length <= 1048576) (hc : cs.length <= 1048576) :
    ((rwM s l e cs).1.length : Int) <= powr 3 (l.foldl cntF 0) /\ ((rwM s l e cs).2.2.2.length : Int) <= sumr 3 (l.foldl cntF 0) /\ (∀ t ∈ (rwM s l e cs).2.2.2, 0 <= deepN t /\ deepN t + 1 <= l.foldl cntF 0) /\ (rwM s l e cs).2.2.1 = cs.drop (needN (rwM s l e cs).2.2.2) := by
  have hcn := cnt_range l 0 (by omega)
  cases hok : (v155 s && v156 l && v157 e) with
  | false =>
    have hM : rwM s l e cs = ([], l, cs, []) := by simp only [rwM, hok, cond_false]
    rw [hM]
    refine ⟨(pw_range _ (upto_max 3).1 _).1, ?_, (fun t ht => by cases ht), by simp [needN]⟩
    show (0 : Int) <= sumr 3 (l.foldl cntF 0)
    unfold sumr smEnd
    have h1 := (spw_range (upto 3 2147483647) (upto_max 3).1 (min (l.foldl cntF 0) 64).toNat).1
    split
    · split
      · exact (upto_max _).1
      · exact h1
    · exact h1
  | true =>
    have hM : rwM s l e cs = ((mw s 6 e [] l cs).2.1, (mw s 6 e [] l cs).1, (mw s 6 e [] l cs).2.2.1, (mw s 6 e [] l cs).2.2.2) := by simp only [rwM, hok, cond_true]
    have h2 : v156 l = true := by simp only [Bool.and_eq_true] at hok; exact hok.1.2
    have h5 := tabLen l hl hv h2
    have hcu : usN [] l <= 5 := Nat.le_trans List.countP_le_length h5
    have hf : l.foldl cntF 0 = (usN [] l : Int) := by rw [usN_cnt]; omega
    have h3 := small3 (usN [] l) hcu
    obtain ⟨-, b2, b3⟩ := mwBnd hb hs 6 e [] l cs ⟨hl, hv, tabAsc l hl hv h2, by simp, hc⟩
    obtain ⟨x1, x2, x3⟩ := b2 _ (Nat.le_refl _)
    rw [hM, hf, ← h3.1, ← h3.2]
    refine ⟨by show ((mw s 6 e [] l cs).2.1.length : Int) <= _; omega, by show ((mw s 6 e [] l cs).2.2.2.length : Int) <= _; omega, fun t ht => ?_, b3⟩
    have := x3 t ht
    simp only [List.length_nil] at this
    omega
theorem inB (s : Ty.T y36) (l : List (Ty.T y108)) (e : Ty.T y27) (cs : List (Ty.T (.int .i64))) (hb : s.1.length <= 1048576) (hs : s.2.1.length <= 1048576) (hl : l.length <= 1048576) (hv : ∀ x ∈ l, x.2.2.2.2.2.2.1.2.2.2.2.2.2.length <= 1048576) (hc : cs.length <= 1048576) : d46 l (rwM s l e cs) = true /\ v46 l (rwM s l e cs) = true := by
  obtain ⟨b1, b2, b3, b4⟩ := rwBnd s l e cs hb hs hl hv hc
  obtain ⟨-, -, -, -, r1, r2, r3, r4, r5, r6⟩ := rewrite s l e cs hb hs hl hv hc
  have hcn := cnt_range l 0 (by omega)
  have u2 := useI l hl
  have a2 := iSum 3 (v68 l) (by rw [u2.2]; omega)
  have a4 := iPow 3 (v68 l) (by rw [u2.2]; omega)
  have t2 : d144 l = true /\ v144 l = sumr 3 (l.foldl cntF 0) := by unfold d144 v144; rw [u2.1, a2.1, a2.2, u2.2]; exact ⟨rfl, rfl⟩
  have t4 : d145 l = true /\ v145 l = powr 3 (l.foldl cntF 0) := by unfold d145 v145; rw [u2.1, a4.1, a4.2, u2.2]; exact ⟨rfl, rfl⟩
  have c2 := chainI (rwM s l e cs) r5 (fun x hx => rng64 (b3 x hx).1 (show deepN x <= 1048576 by have := (b3 x hx).2; omega))
  have hch := chF_le (rwM s l e cs).2.2.2 0 (l.foldl cntF 0) hcn.1 (by omega) b3
  unfold d46 v46
  rw [t2.1, t2.2, t4.1, t4.2, c2.1, c2.2, u2.1, u2.2, decide_eq_true b1, decide_eq_true b2, decide_eq_true hch]
  exact ⟨rfl, rfl⟩
def cur (c : Ty.T y221) : Prop := (0 : Int) <= id (α := Int) c.2.1 /\ id (α := Int) c.2.1 <= (c.1.length : Int) /\ (c.1.length : Int) <= 1099511627776
theorem and255 (x : Int) : 0 <= IntKind.wrap .i64 ((BitVec.ofInt (IntKind.bits .i64) x &&& BitVec.ofInt (IntKind.bits .i64) (255 : Int)).toNat : Int) /\ IntKind.wrap .i64 ((BitVec.ofInt (IntKind.bits .i64) x &&& BitVec.ofInt (IntKind.bits .i64) (255 : Int)).toNat : Int) <= 255 := by
  have h : (BitVec.ofInt (IntKind.bits .i64) x &&& BitVec.ofInt (IntKind.bits .i64) (255 : Int)).toNat <= 255 := by
    rw [BitVec.toNat_and]
    exact Nat.le_trans Nat.and_le_right (by decide)
  rw [wrap_in (by omega) (by omega)]
  omega
theorem byteC (b : List Int) (i k : Int) (h1 : 0 <= i) (h2 : i <= (b.length : Int)) (h3 : (b.length : Int) <= 1099511627776) : d218g1 (b, i, k) = true /\ (0 <= (v218g1 (b, i, k)).1 /\ (v218g1 (b, i, k)).1 <= 255) /\ cur (v218g1 (b, i, k)).2 := by
  unfold d218g1 v218g1 t218g1
  try simp only [nfs]
  dsimp only [Ty.T]
  by_cases hl : i < (b.length : Int)
  · have hi : i.toNat < b.length := by omega
    simp only [hl, decide_true, cond_true, h1, Bool.true_and, optD, optV, List.getElem?_eq_getElem hi]
    refine ⟨trivial, and255 _, ?_⟩
    show (0 : Int) <= IntKind.wrap .i64 (i + 1) /\ IntKind.wrap .i64 (i + 1) <= (b.length : Int) /\ (b.length : Int) <= 1099511627776
    rw [wrap_in (by omega) (by omega)]
    omega
  · simp only [hl, decide_false, cond_false]
    exact ⟨trivial, and255 _, h1, h2, h3⟩
theorem byte (c : Ty.T y221) (h : cur c) : d218g1 c = true /\ (0 <= (v218g1 c).1 /\ (v218g1 c).1 <= 255) /\ cur (v218g1 c).2 := byteC c.1 c.2.1 c.2.2 h.1 h.2.1 h.2.2
theorem below (n : Int) (c : Ty.T y221) (h : cur c) : d121g1 n c = true /\ (0 < n -> 0 <= (v121g1 n c).1 /\ (v121g1 n c).1 < n) /\ cur (v121g1 n c).2 := by
  have b1 := byte c h
  have b2 := byte _ b1.2.2
  have b3 := byte _ b2.2.2
  unfold d121g1 v121g1 t121g1
  try simp only [nfs]
  by_cases h0 : n <= 0
  · simp only [h0, decide_true, cond_true]
    exact ⟨trivial, fun h => by omega, h⟩
  · have hn : ¬ n = 0 := by omega
    simp only [h0, decide_false, cond_false, b1.1, b2.1, b3.1, cond_true, hn, Bool.not_false, Bool.and_true]
    by_cases h1 : n <= 256
    · simp only [h1, decide_true, cond_true]
      exact ⟨trivial, fun _ => ⟨Int.tmod_nonneg _ b1.2.1.1, Int.tmod_lt_of_pos _ (by omega)⟩, b1.2.2⟩
    · simp only [h1, decide_false, cond_false]
      refine ⟨trivial, fun _ => ⟨Int.tmod_nonneg _ ?_, Int.tmod_lt_of_pos _ (by omega)⟩, b3.2.2⟩
      obtain ⟨_, ⟨p1, p2⟩, _⟩ := b1
      obtain ⟨_, ⟨q1, q2⟩, _⟩ := b2
      obtain ⟨_, ⟨r1, r2⟩, _⟩ := b3
      rw [wrap_in (n := (v218g1 c).1 * 65536) (by omega) (by omega), wrap_in (n := (v218g1 (v218g1 c).2).1 * 256) (by omega) (by omega), wrap_in (n := (v218g1 c).1 * 65536 + _) (by omega) (by omega), wrap_in (by omega) (by omega)]
      omega
theorem oneOf (l : List Int) (c : Ty.T y221) (hl : l ≠ []) (h : cur c) : d209g1 l c = true /\ (v209g1 l c).1 ∈ l /\ cur (v209g1 l c).2 := by
  have hp : 0 < l.length := List.length_pos_iff.2 hl
  obtain ⟨b1, b2, b3⟩ := below (l.length : Int) c h
  have b2 := b2 (by omega)
  unfold d209g1 v209g1
  have hi : ((v121g1 (l.length : Int) c).1).toNat < l.length := by omega
  have h0 := b2.1
  simp only [b1, cond_true, h0, decide_true, Bool.true_and, optD, optV]
  simp only [List.getElem?_eq_getElem hi]
  exact ⟨trivial, List.getElem_mem hi, b3⟩
theorem once (n : Int) (c : Ty.T y221) (h : cur c) : d142g1 n c = true /\ cur (v142g1 n c).2 := by
  have b := below n c h
  unfold d142g1 v142g1
  simp only [b.1, cond_true]
  exact ⟨trivial, b.2.2⟩
theorem newStep (b : List Int) (hh i : Int) (h0 : 0 <= i) (hb : i <= 1099511627776) : (i < (b.length : Int) /\ ∃ h' : Int, s116_0 (b, hh, i, ()) = some (0, (b, h', i + 1, ()))) ∨ s116_0 (b, hh, i, ()) = some (1, (b, hh, i, ())) := by
  unfold s116_0 t116_0
  dsimp only [Ty.T]
  by_cases hl : i < (b.length : Int)
  · by_cases h4 : i < 4000
    · have hi : i.toNat < b.length := by omega
      have e : IntKind.wrap .i64 (i + 1) = i + 1 := wrap_in (by omega) (by omega)
      refine .inl ⟨hl, ?w, ?h⟩
      case h =>
        simp only [hl, h4, decide_true, cond_true, h0, if_true, optC, List.getElem?_eq_getElem hi, e]
        rfl
    · right
      simp only [hl, h4, decide_true, decide_false, cond_true, cond_false]
  · right
    simp only [hl, decide_false, cond_false]
theorem newC (b : List Int) (hb : (b.length : Int) <= 1099511627776) : d116 b = true /\ cur (v116 b) := by
  have h : ∀ x : Int, _ := fun x => run_iter (s := s116_0) (Q := fun v => v.1 = b) (fun k v => ∃ hh i : Int, v = (b, hh, i, ()) /\ 0 <= i /\ i + k = b.length) (fun k v hv => by
    obtain ⟨hh, i, rfl, h0, hk⟩ := hv
    rcases newStep b hh i h0 (by omega) with ⟨hl, h', h1⟩ | h1
    · exact .inr ⟨k - 1, _, by omega, h1, h', i + 1, rfl, by omega, by omega⟩
    · exact .inl ⟨_, h1, rfl⟩) b.length (b, x, (0 : Int), ()) (n116_0 (b, x, (0 : Int), ())) ⟨x, 0, rfl, by omega, by omega⟩ (by simp only [n116_0]; omega)
  unfold d116 v116
  obtain ⟨v', h1, h2⟩ := h (IntKind.wrap .i64 ((139871 : Int) + (b.length : Int)))
  have e1 : k116_0 b (IntKind.wrap .i64 ((139871 : Int) + (b.length : Int))) 0 0 = true := at_of h1 0
  have e2 : w116_0 b (IntKind.wrap .i64 ((139871 : Int) + (b.length : Int))) 0 = v' := val_of h1
  simp only [e1, e2, cond_true]
  refine ⟨trivial, ?_⟩
  rw [h2]
  exact ⟨Int.le_refl _, Int.natCast_nonneg _, hb⟩
theorem z121g1 {n : Int} {c : Ty.T y221} (h : cur c) : d121g1 n c = true := (below n c h).1
theorem uq121g1 {n : Int} {c : Ty.T y221} (h : cur c) : cur (v121g1 n c).2 := (below n c h).2.2
theorem z142g1 {n : Int} {c : Ty.T y221} (h : cur c) : d142g1 n c = true := (once n c h).1
theorem uq142g1 {n : Int} {c : Ty.T y221} (h : cur c) : cur (v142g1 n c).2 := (once n c h).2
theorem z209g1 {l : List (Ty.T (.int .i64))} {c : Ty.T y221} (hl : l ≠ []) (h : cur c) : d209g1 l c = true := (oneOf l c hl h).1
theorem uq209g1 {l : List (Ty.T (.int .i64))} {c : Ty.T y221} (hl : l ≠ []) (h : cur c) : cur (v209g1 l c).2 := (oneOf l c hl h).2.2
theorem lp122g1 {n : Int} {c : Ty.T y221} {p q : Ty.T y63} {l : List Int} (h : cur c) (hn : n = l.length) (hb : l.length <= 1000) : k122g1_0 n 0 c p q l 0 = true /\ cur (w122g1_0 n 0 c p q l).2.2.1 := by
  have := run_sat (s := s122g1_0) (Q := fun v => cur v.2.2.1) (fun k v => ∃ (i : Int) (c : Ty.T y221) (q : Ty.T y63), v = (n, i, c, p, q, l, ()) /\ cur c /\ 0 <= i /\ i + k = n) (fun k v hv => by
    obtain ⟨i, c, q, rfl, h1, h3, h4⟩ := hv
    unfold s122g1_0 t122g1_0
    dsimp only
    simp (maxDischargeDepth := 99) only [false_and, and_false, Sat_cond, Sat_some, false_and, and_false, Sat_ite, Sat_ifz, Sat_opt, Sat_none, cond_true, cond_false, and_true, true_and, implies_true, and_self, ne_eq, reduceCtorEq, not_false_eq_true, true_or, or_true, false_or, or_false, Nat.zero_ne_one, Nat.one_ne_zero, List.length_cons, List.length_nil, Nat.reduceAdd, Nat.reduceLeDiff, Int.cast_ofNat_Int, few_nil, few_pair, few_int, few_bool, few_str, few_nul, z142g1, uq142g1, h1]
    intro hl
    have hl : i < n := of_decide_eq_true hl
    obtain ⟨b, hb1, _⟩ := getE (l := l) h3 (by omega)
    have e : IntKind.wrap .i64 (i + 1) = i + 1 := wrap_in (by omega) (by omega)
    have hl2 : i < (l.length : Int) := by omega
    refine ⟨h3, hl2, b, hb1, k - 1, by omega, i + 1, _, _, by rw [e], uq142g1 h1, by omega, by omega⟩) l.length (n, 0, c, p, q, l, ()) (n122g1_0 (n, 0, c, p, q, l, ())) ⟨0, c, q, rfl, h, by omega, by omega⟩ (by simp only [n122g1_0]; omega)
  exact ⟨this.1.1, this.2⟩
theorem zl122g1 {c : Ty.T y221} {p q : Ty.T y63} {l : List (Ty.T (.int .i64))} (hl : (6 : Int) = l.length) (h : cur c) : k122g1_0 6 0 c p q l 0 = true := (lp122g1 (l := l) h hl (by omega)).1
theorem ul122g1 {c : Ty.T y221} {p q : Ty.T y63} {l : List (Ty.T (.int .i64))} (hl : (6 : Int) = l.length) (h : cur c) : cur (w122g1_0 6 0 c p q l).2.2.1 := (lp122g1 (l := l) h hl (by omega)).2
theorem ue122g1_0_0 {a1 : Ty.T y221} (h0 : cur a1) : cur (e122g1_0 a1).2 := by
  unfold e122g1_0
  simp (maxDischargeDepth := 99) only [false_and, and_false, Sat_cond, Sat_some, false_and, and_false, Sat_ite, Sat_ifz, Sat_opt, Sat_none, cond_true, cond_false, and_true, true_and, implies_true, and_self, ne_eq, reduceCtorEq, not_false_eq_true, true_or, or_true, false_or, or_false, Nat.zero_ne_one, Nat.one_ne_zero, List.length_cons, List.length_nil, Nat.reduceAdd, Nat.reduceLeDiff, Int.cast_ofNat_Int, z121g1, uq121g1, z209g1, uq209g1, h0]
theorem ue122g1_1_0 {a0 : Int} {a1 : Ty.T y221} (h0 : cur a1) : cur (e122g1_1 a0 a1).2.2.1 := by
  unfold e122g1_1
  simp (maxDischargeDepth := 99) only [false_and, and_false, Sat_cond, Sat_some, false_and, and_false, Sat_ite, Sat_ifz, Sat_opt, Sat_none, cond_true, cond_false, and_true, true_and, implies_true, and_self, ne_eq, reduceCtorEq, not_false_eq_true, true_or, or_true, false_or, or_false, Nat.zero_ne_one, Nat.one_ne_zero, List.length_cons, List.length_nil, Nat.reduceAdd, Nat.reduceLeDiff, Int.cast_ofNat_Int, zl122g1, ul122g1, z121g1, uq121g1, ue122g1_0_0, z209g1, uq209g1, h0]
theorem ue122g1_2_0 {a0 : Int} {a1 : Ty.T y221} (h0 : cur a1) : cur (e122g1_2 a0 a1).2 := by
  unfold e122g1_2
  simp (maxDischargeDepth := 99) only [false_and, and_false, Sat_cond, Sat_some, false_and, and_false, Sat_ite, Sat_ifz, Sat_opt, Sat_none, cond_true, cond_false, and_true, true_and, implies_true, and_self, ne_eq, reduceCtorEq, not_false_eq_true, true_or, or_true, false_or, or_false, Nat.zero_ne_one, Nat.one_ne_zero, List.length_cons, List.length_nil, Nat.reduceAdd, Nat.reduceLeDiff, Int.cast_ofNat_Int, z209g1, uq209g1, z142g1, uq142g1, ue122g1_1_0, h0]
theorem st122g1 {a0 : Int} {a1 : Ty.T y221} (h0 : cur a1) : Sat (t122g1 a0 a1 some) (fun r => cur r.2) := by
  unfold t122g1
  simp (maxDischargeDepth := 99) only [false_and, and_false, Sat_cond, Sat_some, false_and, and_false, Sat_ite, Sat_ifz, Sat_opt, Sat_none, cond_true, cond_false, and_true, true_and, implies_true, and_self, ne_eq, reduceCtorEq, not_false_eq_true, true_or, or_true, false_or, or_false, Nat.zero_ne_one, Nat.one_ne_zero, List.length_cons, List.length_nil, Nat.reduceAdd, Nat.reduceLeDiff, Int.cast_ofNat_Int, few_nil, few_pair, few_int, few_bool, few_str, few_nul, z121g1, uq121g1, z209g1, uq209g1, ue122g1_0_0, zl122g1, ul122g1, ue122g1_1_0, z142g1, uq142g1, ue122g1_2_0, h0]
theorem z122g1 {a0 : Int} {a1 : Ty.T y221} (h0 : cur a1) : d122g1 a0 a1 = true := (st122g1 h0).d
theorem uq122g1_0 {a0 : Int} {a1 : Ty.T y221} (h0 : cur a1) : cur (v122g1 a0 a1).2 := (st122g1 h0).v
theorem st119g1_1 {i j : Int} {b : Bool} {c : Ty.T y221} {s : Ty.T y36} {q : Ty.T (.pair (.int .i64) (.int .i64))} {ps : List (Ty.T y63)} {ss : List (Ty.T y190)} (h : cur c) (h0 : 0 <= i) (h1 : i < (ss.length : Int)) : Sat (t119g1_1 (i, j, b, c, s, q, ps, ss, ()) some) fun r => r.length = ss.length := by
  unfold t119g1_1
  dsimp only
  obtain ⟨x, hx, _⟩ := getE (l := ss) h0 h1
  simp (maxDischargeDepth := 99) only [false_and, and_false, Sat_cond, Sat_some, false_and, and_false, Sat_ite, Sat_ifz, Sat_opt, Sat_none, cond_true, cond_false, and_true, true_and, implies_true, and_self, ne_eq, reduceCtorEq, not_false_eq_true, true_or, or_true, false_or, or_false, Nat.zero_ne_one, Nat.one_ne_zero, List.length_cons, List.length_nil, Nat.reduceAdd, Nat.reduceLeDiff, Int.cast_ofNat_Int, few_nil, few_pair, few_int, few_bool, few_str, few_nul, z209g1, uq209g1, h]
  exact ⟨h0, h1, x, hx, List.length_set⟩
theorem st119g1_2 {i j i2 k : Int} {b : Bool} {li : List Int} {c : Ty.T y221} {s : Ty.T y36} {q : Ty.T (.pair (.int .i64) (.int .i64))} {ps : List (Ty.T y63)} {ss : List (Ty.T y190)} (h : cur c) (h0 : 0 <= i) (h1 : i < (ss.length : Int)) : Sat (t119g1_2 (i, j, b, i2, li, k, c, s, q, ps, ss, ()) some) fun r => r.length = ss.length := by
  unfold t119g1_2
  dsimp only
  obtain ⟨x, hx, _⟩ := getE (l := ss) h0 h1
  simp (maxDischargeDepth := 99) only [false_and, and_false, Sat_cond, Sat_some, false_and, and_false, Sat_ite, Sat_ifz, Sat_opt, Sat_none, cond_true, cond_false, and_true, true_and, implies_true, and_self, ne_eq, reduceCtorEq, not_false_eq_true, true_or, or_true, false_or, or_false, Nat.zero_ne_one, Nat.one_ne_zero, List.length_cons, List.length_nil, Nat.reduceAdd, Nat.reduceLeDiff, Int.cast_ofNat_Int, few_nil, few_pair, few_int, few_bool, few_str, few_nul, z209g1, uq209g1, h]
  exact ⟨h0, h1, x, hx, List.length_set⟩
theorem lp119g1 {c : Ty.T y221} {s : Ty.T y36} {q : Ty.T (.pair (.int .i64) (.int .i64))} {ps : List (Ty.T y63)} {ss : List (Ty.T y190)} (hs : ss.length = 2) (h : cur c) : k119g1_0 0 c s q ps ss 0 = true /\ ∃ c' ss', cur c' /\ List.length ss' = 2 /\ w119g1_0 0 c s q ps ss = ((2 : Int), c', s, q, ps, ss', ()) := by
  have := run_sat (s := s119g1_0) (Q := fun v => ∃ c' ss', cur c' /\ List.length ss' = 2 /\ v = ((2 : Int), c', s, q, ps, ss', ())) (fun k v => ∃ (i : Int) (c : Ty.T y221) (ss : List (Ty.T y190)), v = (i, c, s, q, ps, ss, ()) /\ cur c /\ ss.length = 2 /\ 0 <= i /\ i + k = 2) (fun k v hv => by
    obtain ⟨i, c, ss, rfl, h1, h2, h3, h4⟩ := hv
    unfold s119g1_0 t119g1_0
    dsimp only
    rw [Sat_cond]
    refine ⟨fun hl => ?_, fun hl => ?_⟩
    · have hl : i < 2 := of_decide_eq_true hl
      have e : IntKind.wrap .i64 (i + 1) = i + 1 := wrap_in (by omega) (by omega)
      have s1 := st119g1_1 (i := i) (j := i) (b := decide (i < 2)) (c := c) (s := s) (q := q) (ps := ps) (ss := ss) h1 h3 (by omega)
      have l1 : (c119g1_1 (i, i, decide (i < 2), c, s, q, ps, ss, ())).length = 2 := (s1.v (z := [])).trans h2
      have s2 := st119g1_2 (i := i) (j := i) (i2 := i) (k := (v209g1 [20, 20, 3, 1, 10] c).1) (b := decide (i < 2)) (li := [20, 20, 3, 1, 10]) (c := (v209g1 [20, 20, 3, 1, 10] c).2) (s := s) (q := q) (ps := ps) (ss := c119g1_1 (i, i, decide (i < 2), c, s, q, ps, ss, ())) (uq209g1 (by simp) h1) h3 (by omega)
      have g1 : g119g1_1 (i, i, decide (i < 2), c, s, q, ps, ss, ()) = true := s1.d
      have g2 : g119g1_2 (i, i, decide (i < 2), i, [20, 20, 3, 1, 10], (v209g1 [20, 20, 3, 1, 10] c).1, (v209g1 [20, 20, 3, 1, 10] c).2, s, q, ps, c119g1_1 (i, i, decide (i < 2), c, s, q, ps, ss, ()), ()) = true := s2.d
      rw [g1, g2, cond_true, cond_true, Sat_some]
      refine .inr ⟨rfl, k - 1, by omega, i + 1, _, _, by rw [e] <;> rfl, uq209g1 (l := [0, 0, 8, 1]) (by simp) (uq209g1 (l := [20, 20, 3, 1, 10]) (by simp) h1), (s2.v (z := [])).trans l1, by omega, by omega⟩
    · have hl : ¬ i < 2 := of_decide_eq_false hl
      have : i = 2 := by omega
      subst this
      rw [Sat_some]
      exact .inl ⟨rfl, c, ss, h1, h2, rfl⟩) 2 ((0 : Int), c, s, q, ps, ss, ()) (n119g1_0 ((0 : Int), c, s, q, ps, ss, ())) ⟨0, c, ss, rfl, h, hs, by omega, by omega⟩ (by simp only [n119g1_0]; omega)
  exact ⟨this.1.1, this.2⟩
theorem lq119g1 {id n : Int} {c : Ty.T y221} {s : Ty.T y36} {q : Ty.T (.pair (.int .i64) (.int .i64))} {ps : List (Ty.T y63)} {ss : List (Ty.T y190)} (h0 : 0 <= n) (hp : (ps.length : Int) + n <= 1000) (h : cur c) :
    k119g1_3 id n c s q ps ss 0 = true /\ ∃ (id' : Int) (c' : Ty.T y221) (ps' : List (Ty.T y63)), cur c' /\ (ps'.length : Int) = ps.length + n /\ w119g1_3 id n c s q ps ss = (id', (0 : Int), c', s, q, ps', ss, ()) := by
  have := run_sat (s := s119g1_3) (Q := fun v => ∃ (id' : Int) (c' : Ty.T y221) (ps' : List (Ty.T y63)), cur c' /\ (ps'.length : Int) = ps.length + n /\ v = (id', (0 : Int), c', s, q, ps', ss, ()))
    (fun k v => ∃ (id m : Int) (c : Ty.T y221) (qs : List (Ty.T y63)), v = (id, m, c, s, q, qs, ss, ()) /\ cur c /\ m = k /\ (qs.length : Int) + m = ps.length + n) (fun k v hv => by
    obtain ⟨id, m, c, qs, rfl, hc, hk, hq⟩ := hv
    unfold s119g1_3 t119g1_3
    dsimp only
    rw [Sat_cond]
    refine ⟨fun hl => ?_, fun hl => ?_⟩
    · have hl : m > 0 := of_decide_eq_true hl
      have e : IntKind.wrap .i64 (m - 1) = m - 1 := wrap_in (by omega) (by omega)
      have hz : ∀ p : Ty.T y63, (qs ++ [p]).length * 96 <= 140737488351232 := fun p => by simp only [List.length_append, List.length_cons, List.length_nil]; omega
      rw [z121g1 hc, z122g1 (uq121g1 hc), cond_true, cond_true, if_pos (hz _), Sat_some]
      exact .inr ⟨rfl, k - 1, by omega, _, m - 1, _, _, by rw [e], uq122g1_0 (uq121g1 hc), by omega, by simp only [List.length_append, List.length_cons, List.length_nil]; omega⟩
    · have hl : ¬ m > 0 := of_decide_eq_false hl
      have : m = 0 := by omega
      subst this
      rw [Sat_some]
      exact .inl ⟨rfl, id, c, qs, hc, by omega, rfl⟩) n.toNat (id, n, c, s, q, ps, ss, ()) (n119g1_3 (id, n, c, s, q, ps, ss, ())) ⟨id, n, c, ps, rfl, h, by omega, rfl⟩ (by simp only [n119g1_3]; omega)
  exact ⟨this.1.1, this.2⟩
theorem st119g1 {a0 : Ty.T y221} (h : cur a0) : Sat (t119g1 a0 some) fun r => cur r.2.1 /\ 1 <= r.2.2.1.length /\ r.2.2.1.length <= 6 /\ r.2.2.2.length = 2 := by
  have d0 : d215 2 = true := rfl
  obtain ⟨k1, c1, ss1, hc1, hs1, w1⟩ := lp119g1 (c := (v121g1 2 (v121g1 3 a0).2).2) (s := ([], [], 0, 0)) (q := ((v121g1 2 (v121g1 3 a0).2).1, IntKind.wrap .i64 ((2 : Int) + (v121g1 3 a0).1))) (ps := (v215 2).2.1) (ss := (v215 2).2.2) rfl (uq121g1 (uq121g1 h))
  have hb := (below 5 c1 hc1).2.1 (by omega)
  have e : IntKind.wrap .i64 ((1 : Int) + (v121g1 5 c1).1) = 1 + (v121g1 5 c1).1 := wrap_in (by omega) (by omega)
  obtain ⟨k2, i2, c2, ps2, hc2, hl2, w2⟩ := lq119g1 (id := 0) (n := 1 + (v121g1 5 c1).1) (c := (v121g1 5 c1).2) (s := ([], [], 0, 0)) (q := ((v121g1 2 (v121g1 3 a0).2).1, IntKind.wrap .i64 ((2 : Int) + (v121g1 3 a0).1))) (ps := (v215 2).2.1) (ss := ss1) (by omega) (by show ((([] : List (Ty.T y63)).length : Int)) + _ <= 1000; simp; omega) (uq121g1 hc1)
  have hl2 : (ps2.length : Int) = 1 + (v121g1 5 c1).1 := by rw [hl2]; show (0 : Int) + _ = _; omega
  unfold t119g1
  have e0 : e119g1_0 a0 = _ := w1
  have e1 : e119g1_1 a0 = (i2, (0 : Int), c2, ([], [], 0, 0), ((v121g1 2 (v121g1 3 a0).2).1, IntKind.wrap .i64 ((2 : Int) + (v121g1 3 a0).1)), ps2, ss1, ()) := by unfold e119g1_1; rw [e0]; dsimp only; rw [e]; exact w2
  rw [d0, z121g1 h, z121g1 (uq121g1 h), k1, e1, e0]
  dsimp only
  rw [e, z121g1 hc1, k2]
  simp only [cond_true, Sat_some]
  exact ⟨hc2, by omega, by omega, hs1⟩
theorem z119g1 {a0 : Ty.T y221} (h : cur a0) : d119g1 a0 = true := (st119g1 h).d
theorem uq119g1_0 {a0 : Ty.T y221} (h : cur a0) : cur (v119g1 a0).2.1 := (st119g1 h).v.1
theorem st265g1_0 {k : Int} {c : Ty.T y221} {s : Ty.T y36} (h : cur c) (hl : 0 < s.1.length) : Sat (t265g1_0 (k, c, s, ()) some) fun _ => True := by
  have b := (below (s.1.length : Int) c h).2.1 (by omega)
  obtain ⟨x, hx, _⟩ := getE (l := s.1) b.1 b.2
  unfold t265g1_0
  simp (maxDischargeDepth := 99) only [false_and, and_false, Sat_cond, Sat_some, false_and, and_false, Sat_ite, Sat_ifz, Sat_opt, Sat_none, cond_true, cond_false, and_true, true_and, implies_true, and_self, ne_eq, reduceCtorEq, not_false_eq_true, true_or, or_true, false_or, or_false, Nat.zero_ne_one, Nat.one_ne_zero, List.length_cons, List.length_nil, Nat.reduceAdd, Nat.reduceLeDiff, Int.cast_ofNat_Int, few_nil, few_pair, few_int, few_bool, few_str, few_nul, z121g1, uq121g1, z142g1, uq142g1, h]
  exact ⟨b.1, x, hx⟩
theorem st265g1 {a0 : Ty.T y36} {a1 : Ty.T y221} (h : cur a1) : Sat (t265g1 a0 a1 some) fun r => cur r.2 := by
  unfold t265g1
  rw [Sat_cond]
  refine ⟨fun _ => ?_, fun h0 => ?_⟩
  · simp (maxDischargeDepth := 99) only [false_and, and_false, Sat_cond, Sat_some, false_and, and_false, Sat_ite, Sat_ifz, Sat_opt, Sat_none, cond_true, cond_false, and_true, true_and, implies_true, and_self, ne_eq, reduceCtorEq, not_false_eq_true, true_or, or_true, false_or, or_false, Nat.zero_ne_one, Nat.one_ne_zero, List.length_cons, List.length_nil, Nat.reduceAdd, Nat.reduceLeDiff, Int.cast_ofNat_Int, few_nil, few_pair, few_int, few_bool, few_str, few_nul, z121g1, uq121g1, z142g1, uq142g1, h]
  · have hp : 0 < a0.1.length := by simp at h0; exact List.length_pos_iff.2 h0
    have g : g265g1_0 (0, (v142g1 8 a1).2, a0, ()) = true := (st265g1_0 (uq142g1 h) hp).d
    simp (maxDischargeDepth := 99) only [false_and, and_false, Sat_cond, Sat_some, false_and, and_false, Sat_ite, Sat_ifz, Sat_opt, Sat_none, cond_true, cond_false, and_true, true_and, implies_true, and_self, ne_eq, reduceCtorEq, not_false_eq_true, true_or, or_true, false_or, or_false, Nat.zero_ne_one, Nat.one_ne_zero, List.length_cons, List.length_nil, Nat.reduceAdd, Nat.reduceLeDiff, Int.cast_ofNat_Int, few_nil, few_pair, few_int, few_bool, few_str, few_nul, z121g1, uq121g1, z142g1, uq142g1, h, g]
theorem z265g1 {a0 : Ty.T y36} {a1 : Ty.T y221} (h : cur a1) : d265g1 a0 a1 = true := (st265g1 h).d
theorem uq265g1_0 {a0 : Ty.T y36} {a1 : Ty.T y221} (h : cur a1) : cur (v265g1 a0 a1).2 := (st265g1 h).v
theorem ue237g1_0_0 {a1 : Ty.T y221} (h0 : cur a1) : cur (e237g1_0 a1).2 := by
  unfold e237g1_0
  simp (maxDischargeDepth := 99) only [false_and, and_false, Sat_cond, Sat_some, false_and, and_false, Sat_ite, Sat_ifz, Sat_opt, Sat_none, cond_true, cond_false, and_true, true_and, implies_true, and_self, ne_eq, reduceCtorEq, not_false_eq_true, true_or, or_true, false_or, or_false, Nat.zero_ne_one, Nat.one_ne_zero, List.length_cons, List.length_nil, Nat.reduceAdd, Nat.reduceLeDiff, Int.cast_ofNat_Int, z209g1, uq209g1, h0]
theorem ue237g1_1_0 {a0 : Ty.T y36} {a1 : Ty.T y221} (h0 : cur a1) : cur (e237g1_1 a0 a1).2 := by
  unfold e237g1_1
  simp (maxDischargeDepth := 99) only [false_and, and_false, Sat_cond, Sat_some, false_and, and_false, Sat_ite, Sat_ifz, Sat_opt, Sat_none, cond_true, cond_false, and_true, true_and, implies_true, and_self, ne_eq, reduceCtorEq, not_false_eq_true, true_or, or_true, false_or, or_false, Nat.zero_ne_one, Nat.one_ne_zero, List.length_cons, List.length_nil, Nat.reduceAdd, Nat.reduceLeDiff, Int.cast_ofNat_Int, z209g1, uq209g1, z265g1, uq265g1_0, ue237g1_0_0, h0]
theorem st237g1 {a0 : Ty.T y36} {a1 : Ty.T y221} (h0 : cur a1) : Sat (t237g1 a0 a1 some) (fun r => cur r.2) := by
  unfold t237g1
  simp (maxDischargeDepth := 99) only [false_and, and_false, Sat_cond, Sat_some, false_and, and_false, Sat_ite, Sat_ifz, Sat_opt, Sat_none, cond_true, cond_false, and_true, true_and, implies_true, and_self, ne_eq, reduceCtorEq, not_false_eq_true, true_or, or_true, false_or, or_false, Nat.zero_ne_one, Nat.one_ne_zero, List.length_cons, List.length_nil, Nat.reduceAdd, Nat.reduceLeDiff, Int.cast_ofNat_Int, few_nil, few_pair, few_int, few_bool, few_str, few_nul, z209g1, uq209g1, z265g1, uq265g1_0, ue237g1_0_0, z142g1, uq142g1, z121g1, uq121g1, ue237g1_1_0, h0]
theorem z237g1 {a0 : Ty.T y36} {a1 : Ty.T y221} (h0 : cur a1) : d237g1 a0 a1 = true := (st237g1 h0).d
theorem uq237g1_0 {a0 : Ty.T y36} {a1 : Ty.T y221} (h0 : cur a1) : cur (v237g1 a0 a1).2 := (st237g1 h0).v
theorem st266g1_0 {v : V266g1_0} (h0 : cur v.2.1) : Sat (t266g1_0 v some) (fun r => cur r.1) := by
  unfold t266g1_0
  simp (maxDischargeDepth := 99) only [false_and, and_false, Sat_cond, Sat_some, false_and, and_false, Sat_ite, Sat_ifz, Sat_opt, Sat_none, cond_true, cond_false, and_true, true_and, implies_true, and_self, ne_eq, reduceCtorEq, not_false_eq_true, true_or, or_true, false_or, or_false, Nat.zero_ne_one, Nat.one_ne_zero, List.length_cons, List.length_nil, Nat.reduceAdd, Nat.reduceLeDiff, Int.cast_ofNat_Int, few_nil, few_pair, few_int, few_bool, few_str, few_nul, z209g1, uq209g1, h0]
theorem z266g1_0 {v : V266g1_0} (h0 : cur v.2.1) : g266g1_0 v = true := (st266g1_0 h0).d
theorem uq266g1_0_0 {v : V266g1_0} (h0 : cur v.2.1) : cur (c266g1_0 v).1 := (st266g1_0 h0).v
theorem st266g1_1 {v : V266g1_1} (h0 : cur v.2.2.1) : Sat (t266g1_1 v some) (fun r => cur r.1) := by
  unfold t266g1_1
  simp (maxDischargeDepth := 99) only [false_and, and_false, Sat_cond, Sat_some, false_and, and_false, Sat_ite, Sat_ifz, Sat_opt, Sat_none, cond_true, cond_false, and_true, true_and, implies_true, and_self, ne_eq, reduceCtorEq, not_false_eq_true, true_or, or_true, false_or, or_false, Nat.zero_ne_one, Nat.one_ne_zero, List.length_cons, List.length_nil, Nat.reduceAdd, Nat.reduceLeDiff, Int.cast_ofNat_Int, few_nil, few_pair, few_int, few_bool, few_str, few_nul, z142g1, uq142g1, z265g1, uq265g1_0, z209g1, uq209g1, h0]
theorem z266g1_1 {v : V266g1_1} (h0 : cur v.2.2.1) : g266g1_1 v = true := (st266g1_1 h0).d
theorem uq266g1_1_0 {v : V266g1_1} (h0 : cur v.2.2.1) : cur (c266g1_1 v).1 := (st266g1_1 h0).v
theorem st266g1_2 {v : V266g1_2} (h0 : cur v.1) : Sat (t266g1_2 v some) (fun r => cur r.2) := by
  unfold t266g1_2
  simp (maxDischargeDepth := 99) only [false_and, and_false, Sat_cond, Sat_some, false_and, and_false, Sat_ite, Sat_ifz, Sat_opt, Sat_none, cond_true, cond_false, and_true, true_and, implies_true, and_self, ne_eq, reduceCtorEq, not_false_eq_true, true_or, or_true, false_or, or_false, Nat.zero_ne_one, Nat.one_ne_zero, List.length_cons, List.length_nil, Nat.reduceAdd, Nat.reduceLeDiff, Int.cast_ofNat_Int, few_nil, few_pair, few_int, few_bool, few_str, few_nul, z142g1, uq142g1, h0]
theorem z266g1_2 {v : V266g1_2} (h0 : cur v.1) : g266g1_2 v = true := (st266g1_2 h0).d
theorem uq266g1_2_0 {v : V266g1_2} (h0 : cur v.1) : cur (c266g1_2 v).2 := (st266g1_2 h0).v
theorem st266g1_3 {v : V266g1_0} (h0 : cur v.2.1) : Sat (t266g1_3 v some) (fun r => cur r.2) := by
  unfold t266g1_3
  simp (maxDischargeDepth := 99) only [false_and, and_false, Sat_cond, Sat_some, false_and, and_false, Sat_ite, Sat_ifz, Sat_opt, Sat_none, cond_true, cond_false, and_true, true_and, implies_true, and_self, ne_eq, reduceCtorEq, not_false_eq_true, true_or, or_true, false_or, or_false, Nat.zero_ne_one, Nat.one_ne_zero, List.length_cons, List.length_nil, Nat.reduceAdd, Nat.reduceLeDiff, Int.cast_ofNat_Int, few_nil, few_pair, few_int, few_bool, few_str, few_nul, z265g1, uq265g1_0, h0]
theorem z266g1_3 {v : V266g1_0} (h0 : cur v.2.1) : g266g1_3 v = true := (st266g1_3 h0).d
theorem uq266g1_3_0 {v : V266g1_0} (h0 : cur v.2.1) : cur (c266g1_3 v).2 := (st266g1_3 h0).v
theorem ue266g1_0_0 {a1 : Ty.T y221} (h0 : cur a1) : cur (e266g1_0 a1).2 := by
  unfold e266g1_0
  simp (maxDischargeDepth := 99) only [false_and, and_false, Sat_cond, Sat_some, false_and, and_false, Sat_ite, Sat_ifz, Sat_opt, Sat_none, cond_true, cond_false, and_true, true_and, implies_true, and_self, ne_eq, reduceCtorEq, not_false_eq_true, true_or, or_true, false_or, or_false, Nat.zero_ne_one, Nat.one_ne_zero, List.length_cons, List.length_nil, Nat.reduceAdd, Nat.reduceLeDiff, Int.cast_ofNat_Int, z209g1, uq209g1, h0]
theorem ue266g1_1_0 {a0 : Ty.T y36} {a1 : Ty.T y221} (h0 : cur a1) : cur (e266g1_1 a0 a1).1 := by
  unfold e266g1_1
  simp (maxDischargeDepth := 99) only [false_and, and_false, Sat_cond, Sat_some, false_and, and_false, Sat_ite, Sat_ifz, Sat_opt, Sat_none, cond_true, cond_false, and_true, true_and, implies_true, and_self, ne_eq, reduceCtorEq, not_false_eq_true, true_or, or_true, false_or, or_false, Nat.zero_ne_one, Nat.one_ne_zero, List.length_cons, List.length_nil, Nat.reduceAdd, Nat.reduceLeDiff, Int.cast_ofNat_Int, z266g1_0, uq266g1_0_0, z142g1, uq142g1, ue266g1_0_0, z209g1, uq209g1, h0]
theorem ue266g1_2_0 {a0 : Ty.T y36} {a1 : Ty.T y221} (h0 : cur a1) : cur (e266g1_2 a0 a1).1 := by
  unfold e266g1_2
  simp (maxDischargeDepth := 99) only [false_and, and_false, Sat_cond, Sat_some, false_and, and_false, Sat_ite, Sat_ifz, Sat_opt, Sat_none, cond_true, cond_false, and_true, true_and, implies_true, and_self, ne_eq, reduceCtorEq, not_false_eq_true, true_or, or_true, false_or, or_false, Nat.zero_ne_one, Nat.one_ne_zero, List.length_cons, List.length_nil, Nat.reduceAdd, Nat.reduceLeDiff, Int.cast_ofNat_Int, z266g1_1, uq266g1_1_0, ue266g1_1_0, h0]
theorem ue266g1_3_0 {a0 : Ty.T y36} {a1 : Ty.T y221} (h0 : cur a1) : cur (e266g1_3 a0 a1).2 := by
  unfold e266g1_3
  simp (maxDischargeDepth := 99) only [false_and, and_false, Sat_cond, Sat_some, false_and, and_false, Sat_ite, Sat_ifz, Sat_opt, Sat_none, cond_true, cond_false, and_true, true_and, implies_true, and_self, ne_eq, reduceCtorEq, not_false_eq_true, true_or, or_true, false_or, or_false, Nat.zero_ne_one, Nat.one_ne_zero, List.length_cons, List.length_nil, Nat.reduceAdd, Nat.reduceLeDiff, Int.cast_ofNat_Int, z266g1_2, uq266g1_2_0, ue266g1_2_0, h0]
theorem ue266g1_4_0 {a0 : Ty.T y36} {a1 : Ty.T y221} (h0 : cur a1) : cur (e266g1_4 a0 a1).2 := by
  unfold e266g1_4
  simp (maxDischargeDepth := 99) only [false_and, and_false, Sat_cond, Sat_some, false_and, and_false, Sat_ite, Sat_ifz, Sat_opt, Sat_none, cond_true, cond_false, and_true, true_and, implies_true, and_self, ne_eq, reduceCtorEq, not_false_eq_true, true_or, or_true, false_or, or_false, Nat.zero_ne_one, Nat.one_ne_zero, List.length_cons, List.length_nil, Nat.reduceAdd, Nat.reduceLeDiff, Int.cast_ofNat_Int, z266g1_3, uq266g1_3_0, ue266g1_3_0, ue266g1_2_0, h0]
theorem st266g1 {a0 : Ty.T y36} {a1 : Ty.T y221} (h0 : cur a1) : Sat (t266g1 a0 a1 some) (fun r => cur r.2) := by
  unfold t266g1
  simp (maxDischargeDepth := 99) only [false_and, and_false, Sat_cond, Sat_some, false_and, and_false, Sat_ite, Sat_ifz, Sat_opt, Sat_none, cond_true, cond_false, and_true, true_and, implies_true, and_self, ne_eq, reduceCtorEq, not_false_eq_true, true_or, or_true, false_or, or_false, Nat.zero_ne_one, Nat.one_ne_zero, List.length_cons, List.length_nil, Nat.reduceAdd, Nat.reduceLeDiff, Int.cast_ofNat_Int, few_nil, few_pair, few_int, few_bool, few_str, few_nul, z209g1, uq209g1, z142g1, uq142g1, ue266g1_0_0, z266g1_0, uq266g1_0_0, z266g1_1, uq266g1_1_0, ue266g1_1_0, z266g1_2, uq266g1_2_0, ue266g1_2_0, z266g1_3, uq266g1_3_0, ue266g1_3_0, ue266g1_4_0, h0]
theorem z266g1 {a0 : Ty.T y36} {a1 : Ty.T y221} (h0 : cur a1) : d266g1 a0 a1 = true := (st266g1 h0).d
theorem uq266g1_0 {a0 : Ty.T y36} {a1 : Ty.T y221} (h0 : cur a1) : cur (v266g1 a0 a1).2 := (st266g1 h0).v
theorem st267g1 {a0 : Ty.T y221} (h0 : cur a0) : Sat (t267g1 a0 some) (fun r => cur r.2) := by
  unfold t267g1
  simp (maxDischargeDepth := 99) only [false_and, and_false, Sat_cond, Sat_some, false_and, and_false, Sat_ite, Sat_ifz, Sat_opt, Sat_none, cond_true, cond_false, and_true, true_and, implies_true, and_self, ne_eq, reduceCtorEq, not_false_eq_true, true_or, or_true, false_or, or_false, Nat.zero_ne_one, Nat.one_ne_zero, List.length_cons, List.length_nil, Nat.reduceAdd, Nat.reduceLeDiff, Int.cast_ofNat_Int, few_nil, few_pair, few_int, few_bool, few_str, few_nul, z142g1, uq142g1, z121g1, uq121g1, z209g1, uq209g1, h0]
theorem z267g1 {a0 : Ty.T y221} (h0 : cur a0) : d267g1 a0 = true := (st267g1 h0).d
theorem uq267g1_0 {a0 : Ty.T y221} (h0 : cur a0) : cur (v267g1 a0).2 := (st267g1 h0).v
theorem lp268g1 {n : Int} {c : Ty.T y221} {s : Ty.T y36} {y : Ty.T y106} {q : Ty.T q0} {l : List (Ty.T y27)} (h : cur c) : k268g1_0 n 0 c s y q l 0 = true /\ cur (w268g1_0 n 0 c s y q l).2.2.1 /\ (w268g1_0 n 0 c s y q l).2.2.2.2.2.2.1 = l := by
  have := run_sat (s := s268g1_0) (Q := fun v => cur v.2.2.1 /\ v.2.2.2.2.2.2.1 = l) (fun k v => ∃ (i : Int) (c : Ty.T y221) (q : Ty.T q0), v = (n, i, c, s, y, q, l, ()) /\ cur c /\ 0 <= i /\ i + k = 6) (fun k v hv => by
    obtain ⟨i, c, q, rfl, h1, h3, h4⟩ := hv
    unfold s268g1_0 t268g1_0
    dsimp only
    have e : IntKind.wrap .i64 (i + 1) = i + 1 := wrap_in (by omega) (by omega)
    rw [Sat_cond, z121g1 h1, cond_true, Sat_some, Sat_some]
    refine ⟨fun hl => ?_, fun _ => .inl ⟨rfl, h1, rfl⟩⟩
    have hi : i < 6 := by
      by_cases hi : i < 6
      · exact hi
      · unfold c268g1_1 t268g1_1 at hl
        dsimp only at hl
        rw [show decide (i < (6 : Int)) = false from decide_eq_false hi] at hl
        cases hl
    exact .inr ⟨rfl, k - 1, by omega, i + 1, _, _, by rw [e] <;> rfl, uq121g1 h1, by omega, by omega⟩) 6 (n, 0, c, s, y, q, l, ()) (n268g1_0 (n, 0, c, s, y, q, l, ())) ⟨0, c, q, rfl, h, by omega, by omega⟩ (by simp only [n268g1_0]; omega)
  exact ⟨this.1.1, this.2⟩
theorem zl268g1 {n : Int} {c : Ty.T y221} {s : Ty.T y36} {y : Ty.T y106} {q : Ty.T q0} {l : List (Ty.T y27)} (h : cur c) : k268g1_0 n 0 c s y q l 0 = true := (lp268g1 h).1
theorem ul268g1 {n : Int} {c : Ty.T y221} {s : Ty.T y36} {y : Ty.T y106} {q : Ty.T q0} {l : List (Ty.T y27)} (h : cur c) : cur (w268g1_0 n 0 c s y q l).2.2.1 := (lp268g1 h).2.1
theorem ur268g1 {n : Int} {c : Ty.T y221} {s : Ty.T y36} {y : Ty.T y106} {q : Ty.T q0} {l : List (Ty.T y27)} (h : cur c) : (w268g1_0 n 0 c s y q l).2.2.2.2.2.2.1 = l := (lp268g1 h).2.2
theorem st268g1_3 {v : V268g1_2} (h0 : cur v.2.1) : Sat (t268g1_3 v some) (fun r => cur r.2) := by
  unfold t268g1_3
  simp (maxDischargeDepth := 99) only [false_and, and_false, Sat_cond, Sat_some, false_and, and_false, Sat_ite, Sat_ifz, Sat_opt, Sat_none, cond_true, cond_false, and_true, true_and, implies_true, and_self, ne_eq, reduceCtorEq, not_false_eq_true, true_or, or_true, false_or, or_false, Nat.zero_ne_one, Nat.one_ne_zero, List.length_cons, List.length_nil, Nat.reduceAdd, Nat.reduceLeDiff, Int.cast_ofNat_Int, few_nil, few_pair, few_int, few_bool, few_str, few_nul, z121g1, uq121g1, z265g1, uq265g1_0, h0]
theorem z268g1_3 {v : V268g1_2} (h0 : cur v.2.1) : g268g1_3 v = true := (st268g1_3 h0).d
theorem uq268g1_3_0 {v : V268g1_2} (h0 : cur v.2.1) : cur (c268g1_3 v).2 := (st268g1_3 h0).v
theorem st268g1_5 {v : V268g1_5} (h0 : cur v.2.2.2.2.2.1) : Sat (t268g1_5 v some) (fun r => cur r.2.2) := by
  unfold t268g1_5
  simp (maxDischargeDepth := 99) only [false_and, and_false, Sat_cond, Sat_some, false_and, and_false, Sat_ite, Sat_ifz, Sat_opt, Sat_none, cond_true, cond_false, and_true, true_and, implies_true, and_self, ne_eq, reduceCtorEq, not_false_eq_true, true_or, or_true, false_or, or_false, Nat.zero_ne_one, Nat.one_ne_zero, List.length_cons, List.length_nil, Nat.reduceAdd, Nat.reduceLeDiff, Int.cast_ofNat_Int, few_nil, few_pair, few_int, few_bool, few_str, few_nul, z142g1, uq142g1, h0]
theorem z268g1_5 {v : V268g1_5} (h0 : cur v.2.2.2.2.2.1) : g268g1_5 v = true := (st268g1_5 h0).d
theorem uq268g1_5_0 {v : V268g1_5} (h0 : cur v.2.2.2.2.2.1) : cur (c268g1_5 v).2.2 := (st268g1_5 h0).v
theorem lq268g1 {n : Int} {c : Ty.T y221} {s : Ty.T y36} {y : Ty.T y106} {q : Ty.T q0} {l : List (Ty.T y27)} (h0 : 0 <= n) (hn : n <= 2) (hl : l = []) (h : cur c) : k268g1_4 n c s y q l 0 = true /\ cur (w268g1_4 n c s y q l).2.1 /\ List.length (w268g1_4 n c s y q l).2.2.2.2.2.1 <= 2 := by
  have := run_sat (s := s268g1_4) (Q := fun v => cur v.2.1 /\ List.length v.2.2.2.2.2.1 <= 2) (fun k v => ∃ (i : Int) (c : Ty.T y221) (l : List (Ty.T y27)), v = (i, c, s, y, q, l, ()) /\ cur c /\ i = k /\ (l.length : Int) + i <= 2) (fun k v hv => by
    obtain ⟨i, c, l, rfl, h1, h3, h4⟩ := hv
    have e : 0 <= i -> IntKind.wrap .i64 (i - 1) = i - 1 := fun _ => wrap_in (by omega) (by omega)
    have hz : ∀ x, (l ++ [x]).length * 56 <= 140737488351232 := fun x => by simp only [List.length_append, List.length_cons, List.length_nil]; omega
    unfold s268g1_4 t268g1_4
    dsimp only
    simp (maxDischargeDepth := 99) only [false_and, and_false, Sat_cond, Sat_some, false_and, and_false, Sat_ite, Sat_ifz, Sat_opt, Sat_none, cond_true, cond_false, and_true, true_and, implies_true, and_self, ne_eq, reduceCtorEq, not_false_eq_true, true_or, or_true, false_or, or_false, Nat.zero_ne_one, Nat.one_ne_zero, List.length_cons, List.length_nil, Nat.reduceAdd, Nat.reduceLeDiff, Int.cast_ofNat_Int, few_nil, few_pair, few_int, few_bool, few_str, few_nul, z237g1, uq237g1_0, z268g1_5, uq268g1_5_0, h1, hz, if_true]
    refine ⟨fun hl => ?_, fun _ => by omega⟩
    have hl : i > 0 := of_decide_eq_true hl
    refine ⟨k - 1, by omega, i - 1, _, _, by rw [e (by omega)] <;> rfl, ?_, by omega, by simp only [List.length_append, List.length_cons, List.length_nil]; omega⟩
    simp (maxDischargeDepth := 99) only [false_and, and_false, Sat_cond, Sat_some, false_and, and_false, Sat_ite, Sat_ifz, Sat_opt, Sat_none, cond_true, cond_false, and_true, true_and, implies_true, and_self, ne_eq, reduceCtorEq, not_false_eq_true, true_or, or_true, false_or, or_false, Nat.zero_ne_one, Nat.one_ne_zero, List.length_cons, List.length_nil, Nat.reduceAdd, Nat.reduceLeDiff, Int.cast_ofNat_Int, few_nil, few_pair, few_int, few_bool, few_str, few_nul, z237g1, uq237g1_0, z268g1_5, uq268g1_5_0, h1]) n.toNat (n, c, s, y, q, l, ()) (n268g1_4 (n, c, s, y, q, l, ())) ⟨n, c, l, rfl, h, by omega, by subst hl; show (0 : Int) + n <= 2; omega⟩ (by simp only [n268g1_4]; omega)
  exact ⟨this.1.1, this.2⟩
theorem wbA {c : Ty.T y221} (h : cur c) : 0 <= IntKind.wrap .i64 ((1 : Int) + (v121g1 2 c).1) := by
  have := (below 2 c h).2.1 (by omega)
  rw [wrap_in (by omega) (by omega)]
  omega
theorem wbB {c : Ty.T y221} (h : cur c) : IntKind.wrap .i64 ((1 : Int) + (v121g1 2 c).1) <= 2 := by
  have := (below 2 c h).2.1 (by omega)
  rw [wrap_in (by omega) (by omega)]
  omega
theorem zm268g1 {n : Int} {c : Ty.T y221} {s : Ty.T y36} {y : Ty.T y106} {q : Ty.T q0} {l : List (Ty.T y27)} (h0 : 0 <= n) (hn : n <= 2) (hl : l = []) (h : cur c) : k268g1_4 n c s y q l 0 = true := (lq268g1 h0 hn hl h).1
theorem um268g1 {n : Int} {c : Ty.T y221} {s : Ty.T y36} {y : Ty.T y106} {q : Ty.T q0} {l : List (Ty.T y27)} (h0 : 0 <= n) (hn : n <= 2) (hl : l = []) (h : cur c) : cur (w268g1_4 n c s y q l).2.1 := (lq268g1 h0 hn hl h).2.1
theorem un268g1 {n : Int} {c : Ty.T y221} {s : Ty.T y36} {y : Ty.T y106} {q : Ty.T q0} {l : List (Ty.T y27)} (h0 : 0 <= n) (hn : n <= 2) (hl : l = []) (h : cur c) : Ty.few 2 (.sl 41 y27) (w268g1_4 n c s y q l).2.2.2.2.2.1 := few_row rfl (Nat.le_trans (lq268g1 h0 hn hl h).2.2 (by decide))
theorem ue268g1_0_0 {a0 : Ty.T y36} {a1 : Int} {a2 : Ty.T y221} (h0 : cur a2) : cur (e268g1_0 a0 a1 a2).2.2.1 := by
  unfold e268g1_0
  simp (maxDischargeDepth := 99) only [false_and, and_false, Sat_cond, Sat_some, false_and, and_false, Sat_ite, Sat_ifz, Sat_opt, Sat_none, cond_true, cond_false, and_true, true_and, implies_true, and_self, ne_eq, reduceCtorEq, not_false_eq_true, true_or, or_true, false_or, or_false, Nat.zero_ne_one, Nat.one_ne_zero, List.length_cons, List.length_nil, Nat.reduceAdd, Nat.reduceLeDiff, Int.cast_ofNat_Int, zl268g1, ul268g1, ur268g1, z209g1, uq209g1, h0]
theorem ue268g1_0_e {a0 : Ty.T y36} {a1 : Int} {a2 : Ty.T y221} (h0 : cur a2) : (e268g1_0 a0 a1 a2).2.2.2.2.2.2.1 = [] := by
  unfold e268g1_0
  exact ur268g1 (by simp (maxDischargeDepth := 99) only [false_and, and_false, Sat_cond, Sat_some, false_and, and_false, Sat_ite, Sat_ifz, Sat_opt, Sat_none, cond_true, cond_false, and_true, true_and, implies_true, and_self, ne_eq, reduceCtorEq, not_false_eq_true, true_or, or_true, false_or, or_false, Nat.zero_ne_one, Nat.one_ne_zero, List.length_cons, List.length_nil, Nat.reduceAdd, Nat.reduceLeDiff, Int.cast_ofNat_Int, zl268g1, ul268g1, ur268g1, z209g1, uq209g1, h0])
theorem ue268g1_3_0 {a0 : Ty.T y36} {a1 : Int} {a2 : Ty.T y221} (h0 : cur a2) : cur (e268g1_3 a0 a1 a2).2 := by
  unfold e268g1_3
  simp (maxDischargeDepth := 99) only [false_and, and_false, Sat_cond, Sat_some, false_and, and_false, Sat_ite, Sat_ifz, Sat_opt, Sat_none, cond_true, cond_false, and_true, true_and, implies_true, and_self, ne_eq, reduceCtorEq, not_false_eq_true, true_or, or_true, false_or, or_false, Nat.zero_ne_one, Nat.one_ne_zero, List.length_cons, List.length_nil, Nat.reduceAdd, Nat.reduceLeDiff, Int.cast_ofNat_Int, z268g1_3, uq268g1_3_0, z142g1, uq142g1, ue268g1_0_0, ue268g1_0_e, h0]
theorem ue268g1_4_0 {a0 : Ty.T y36} {a1 : Int} {a2 : Ty.T y221} (h0 : cur a2) : cur (e268g1_4 a0 a1 a2).2.1 := by
  unfold e268g1_4
  simp (maxDischargeDepth := 99) only [false_and, and_false, Sat_cond, Sat_some, false_and, and_false, Sat_ite, Sat_ifz, Sat_opt, Sat_none, cond_true, cond_false, and_true, true_and, implies_true, and_self, ne_eq, reduceCtorEq, not_false_eq_true, true_or, or_true, false_or, or_false, Nat.zero_ne_one, Nat.one_ne_zero, List.length_cons, List.length_nil, Nat.reduceAdd, Nat.reduceLeDiff, Int.cast_ofNat_Int, zm268g1, um268g1, un268g1, wbA, wbB, z121g1, uq121g1, ue268g1_0_0, ue268g1_0_e, h0]
theorem ue268g1_4_1 {a0 : Ty.T y36} {a1 : Int} {a2 : Ty.T y221} (h0 : cur a2) : Ty.few 2 (.sl 41 y27) (e268g1_4 a0 a1 a2).2.2.2.2.2.1 := by
  unfold e268g1_4
  simp (maxDischargeDepth := 99) only [false_and, and_false, Sat_cond, Sat_some, false_and, and_false, Sat_ite, Sat_ifz, Sat_opt, Sat_none, cond_true, cond_false, and_true, true_and, implies_true, and_self, ne_eq, reduceCtorEq, not_false_eq_true, true_or, or_true, false_or, or_false, Nat.zero_ne_one, Nat.one_ne_zero, List.length_cons, List.length_nil, Nat.reduceAdd, Nat.reduceLeDiff, Int.cast_ofNat_Int, zm268g1, um268g1, un268g1, wbA, wbB, z121g1, uq121g1, ue268g1_0_0, ue268g1_0_e, h0]
theorem st268g1 {a0 : Ty.T y36} {a1 : Int} {a2 : Ty.T y221} (h0 : cur a2) : Sat (t268g1 a0 a1 a2 some) (fun r => cur r.2.1 /\ Ty.few 2 (.sl 41 y27) r.2.2) := by
  unfold t268g1
  simp (maxDischargeDepth := 99) only [false_and, and_false, Sat_cond, Sat_some, false_and, and_false, Sat_ite, Sat_ifz, Sat_opt, Sat_none, cond_true, cond_false, and_true, true_and, implies_true, and_self, ne_eq, reduceCtorEq, not_false_eq_true, true_or, or_true, false_or, or_false, Nat.zero_ne_one, Nat.one_ne_zero, List.length_cons, List.length_nil, Nat.reduceAdd, Nat.reduceLeDiff, Int.cast_ofNat_Int, few_nil, few_pair, few_int, few_bool, few_str, few_nul, z209g1, uq209g1, zl268g1, ul268g1, ur268g1, ue268g1_0_0, ue268g1_0_e, z142g1, uq142g1, z268g1_3, uq268g1_3_0, ue268g1_3_0, z121g1, uq121g1, zm268g1, um268g1, un268g1, wbA, wbB, ue268g1_4_0, ue268g1_4_1, h0]
theorem z268g1 {a0 : Ty.T y36} {a1 : Int} {a2 : Ty.T y221} (h0 : cur a2) : d268g1 a0 a1 a2 = true := (st268g1 h0).d
theorem uq268g1_0 {a0 : Ty.T y36} {a1 : Int} {a2 : Ty.T y221} (h0 : cur a2) : cur (v268g1 a0 a1 a2).2.1 := (st268g1 h0).v.1
theorem uq268g1_1 {a0 : Ty.T y36} {a1 : Int} {a2 : Ty.T y221} (h0 : cur a2) : Ty.few 2 (.sl 41 y27) (v268g1 a0 a1 a2).2.2 := (st268g1 h0).v.2
theorem uq268g1_1m8 {a0 : Ty.T y36} {a1 : Int} {a2 : Ty.T y221} (h0 : cur a2) : Ty.few 8 (.sl 41 y27) (v268g1 a0 a1 a2).2.2 := few_mono (by decide) _ _ (uq268g1_1 h0)
theorem st211g1_0 {v : V211g1_0} (h0 : cur v.1) : Sat (t211g1_0 v some) (fun r => cur r.2) := by
  unfold t211g1_0
  simp (maxDischargeDepth := 99) only [false_and, and_false, Sat_cond, Sat_some, false_and, and_false, Sat_ite, Sat_ifz, Sat_opt, Sat_none, cond_true, cond_false, and_true, true_and, implies_true, and_self, ne_eq, reduceCtorEq, not_false_eq_true, true_or, or_true, false_or, or_false, Nat.zero_ne_one, Nat.one_ne_zero, List.length_cons, List.length_nil, Nat.reduceAdd, Nat.reduceLeDiff, Int.cast_ofNat_Int, few_nil, few_pair, few_int, few_bool, few_str, few_nul, z142g1, uq142g1, h0]
theorem z211g1_0 {v : V211g1_0} (h0 : cur v.1) : g211g1_0 v = true := (st211g1_0 h0).d
theorem uq211g1_0_0 {v : V211g1_0} (h0 : cur v.1) : cur (c211g1_0 v).2 := (st211g1_0 h0).v
theorem st211g1_1 {v : V211g1_1} (h0 : cur v.2.1) : Sat (t211g1_1 v some) (fun r => cur r.1) := by
  unfold t211g1_1
  simp (maxDischargeDepth := 99) only [false_and, and_false, Sat_cond, Sat_some, false_and, and_false, Sat_ite, Sat_ifz, Sat_opt, Sat_none, cond_true, cond_false, and_true, true_and, implies_true, and_self, ne_eq, reduceCtorEq, not_false_eq_true, true_or, or_true, false_or, or_false, Nat.zero_ne_one, Nat.one_ne_zero, List.length_cons, List.length_nil, Nat.reduceAdd, Nat.reduceLeDiff, Int.cast_ofNat_Int, few_nil, few_pair, few_int, few_bool, few_str, few_nul, z265g1, uq265g1_0, h0]
theorem z211g1_1 {v : V211g1_1} (h0 : cur v.2.1) : g211g1_1 v = true := (st211g1_1 h0).d
theorem uq211g1_1_0 {v : V211g1_1} (h0 : cur v.2.1) : cur (c211g1_1 v).1 := (st211g1_1 h0).v
theorem st211g1_2 {v : V211g1_2} (h0 : cur v.1) : Sat (t211g1_2 v some) (fun _ => True) := by
  unfold t211g1_2
  simp (maxDischargeDepth := 99) only [false_and, and_false, Sat_cond, Sat_some, false_and, and_false, Sat_ite, Sat_ifz, Sat_opt, Sat_none, cond_true, cond_false, and_true, true_and, implies_true, and_self, ne_eq, reduceCtorEq, not_false_eq_true, true_or, or_true, false_or, or_false, Nat.zero_ne_one, Nat.one_ne_zero, List.length_cons, List.length_nil, Nat.reduceAdd, Nat.reduceLeDiff, Int.cast_ofNat_Int, few_nil, few_pair, few_int, few_bool, few_str, few_nul, z121g1, uq121g1, h0]
theorem z211g1_2 {v : V211g1_2} (h0 : cur v.1) : g211g1_2 v = true := (st211g1_2 h0).d
theorem st211g1_3 {v : V211g1_1} (h0 : cur v.2.1) : Sat (t211g1_3 v some) (fun r => cur r.1) := by
  unfold t211g1_3
  simp (maxDischargeDepth := 99) only [false_and, and_false, Sat_cond, Sat_some, false_and, and_false, Sat_ite, Sat_ifz, Sat_opt, Sat_none, cond_true, cond_false, and_true, true_and, implies_true, and_self, ne_eq, reduceCtorEq, not_false_eq_true, true_or, or_true, false_or, or_false, Nat.zero_ne_one, Nat.one_ne_zero, List.length_cons, List.length_nil, Nat.reduceAdd, Nat.reduceLeDiff, Int.cast_ofNat_Int, few_nil, few_pair, few_int, few_bool, few_str, few_nul, z211g1_2, z121g1, uq121g1, h0]
theorem z211g1_3 {v : V211g1_1} (h0 : cur v.2.1) : g211g1_3 v = true := (st211g1_3 h0).d
theorem uq211g1_3_0 {v : V211g1_1} (h0 : cur v.2.1) : cur (c211g1_3 v).1 := (st211g1_3 h0).v
theorem st211g1_4 {v : V211g1_4} (h0 : cur v.2.1) : Sat (t211g1_4 v some) (fun r => cur r.2) := by
  unfold t211g1_4
  simp (maxDischargeDepth := 99) only [false_and, and_false, Sat_cond, Sat_some, false_and, and_false, Sat_ite, Sat_ifz, Sat_opt, Sat_none, cond_true, cond_false, and_true, true_and, implies_true, and_self, ne_eq, reduceCtorEq, not_false_eq_true, true_or, or_true, false_or, or_false, Nat.zero_ne_one, Nat.one_ne_zero, List.length_cons, List.length_nil, Nat.reduceAdd, Nat.reduceLeDiff, Int.cast_ofNat_Int, few_nil, few_pair, few_int, few_bool, few_str, few_nul, z209g1, uq209g1, z142g1, uq142g1, z121g1, uq121g1, h0]
theorem z211g1_4 {v : V211g1_4} (h0 : cur v.2.1) : g211g1_4 v = true := (st211g1_4 h0).d
theorem uq211g1_4_0 {v : V211g1_4} (h0 : cur v.2.1) : cur (c211g1_4 v).2 := (st211g1_4 h0).v
theorem ue211g1_0_0 {a0 : Ty.T y36} {a1 : Int} {a2 : Ty.T y221} (h0 : cur a2) : cur (e211g1_0 a0 a1 a2).2 := by
  unfold e211g1_0
  simp (maxDischargeDepth := 99) only [false_and, and_false, Sat_cond, Sat_some, false_and, and_false, Sat_ite, Sat_ifz, Sat_opt, Sat_none, cond_true, cond_false, and_true, true_and, implies_true, and_self, ne_eq, reduceCtorEq, not_false_eq_true, true_or, or_true, false_or, or_false, Nat.zero_ne_one, Nat.one_ne_zero, List.length_cons, List.length_nil, Nat.reduceAdd, Nat.reduceLeDiff, Int.cast_ofNat_Int, z211g1_0, uq211g1_0_0, z209g1, uq209g1, z121g1, uq121g1, h0]
theorem ue211g1_1_0 {a0 : Ty.T y36} {a1 : Int} {a2 : Ty.T y221} (h0 : cur a2) : cur (e211g1_1 a0 a1 a2).1 := by
  unfold e211g1_1
  simp (maxDischargeDepth := 99) only [false_and, and_false, Sat_cond, Sat_some, false_and, and_false, Sat_ite, Sat_ifz, Sat_opt, Sat_none, cond_true, cond_false, and_true, true_and, implies_true, and_self, ne_eq, reduceCtorEq, not_false_eq_true, true_or, or_true, false_or, or_false, Nat.zero_ne_one, Nat.one_ne_zero, List.length_cons, List.length_nil, Nat.reduceAdd, Nat.reduceLeDiff, Int.cast_ofNat_Int, z211g1_1, uq211g1_1_0, ue211g1_0_0, z121g1, uq121g1, z209g1, uq209g1, h0]
theorem ue211g1_2_0 {a0 : Ty.T y36} {a1 : Int} {a2 : Ty.T y221} (h0 : cur a2) : cur (e211g1_2 a0 a1 a2).2.1 := by
  unfold e211g1_2
  simp (maxDischargeDepth := 99) only [false_and, and_false, Sat_cond, Sat_some, false_and, and_false, Sat_ite, Sat_ifz, Sat_opt, Sat_none, cond_true, cond_false, and_true, true_and, implies_true, and_self, ne_eq, reduceCtorEq, not_false_eq_true, true_or, or_true, false_or, or_false, Nat.zero_ne_one, Nat.one_ne_zero, List.length_cons, List.length_nil, Nat.reduceAdd, Nat.reduceLeDiff, Int.cast_ofNat_Int, z268g1, uq268g1_0, uq268g1_1, uq268g1_1m8, z266g1, uq266g1_0, ue211g1_1_0, z267g1, uq267g1_0, h0]
theorem ue211g1_2_1 {a0 : Ty.T y36} {a1 : Int} {a2 : Ty.T y221} (h0 : cur a2) : Ty.few 2 (.sl 41 y27) (e211g1_2 a0 a1 a2).2.2 := by
  unfold e211g1_2
  simp (maxDischargeDepth := 99) only [false_and, and_false, Sat_cond, Sat_some, false_and, and_false, Sat_ite, Sat_ifz, Sat_opt, Sat_none, cond_true, cond_false, and_true, true_and, implies_true, and_self, ne_eq, reduceCtorEq, not_false_eq_true, true_or, or_true, false_or, or_false, Nat.zero_ne_one, Nat.one_ne_zero, List.length_cons, List.length_nil, Nat.reduceAdd, Nat.reduceLeDiff, Int.cast_ofNat_Int, z268g1, uq268g1_0, uq268g1_1, uq268g1_1m8, z266g1, uq266g1_0, ue211g1_1_0, z267g1, uq267g1_0, h0]
theorem ue211g1_2_2 {a0 : Ty.T y36} {a1 : Int} {a2 : Ty.T y221} (h0 : cur a2) : Ty.few 8 (.sl 41 y27) (e211g1_2 a0 a1 a2).2.2 := by
  unfold e211g1_2
  simp (maxDischargeDepth := 99) only [false_and, and_false, Sat_cond, Sat_some, false_and, and_false, Sat_ite, Sat_ifz, Sat_opt, Sat_none, cond_true, cond_false, and_true, true_and, implies_true, and_self, ne_eq, reduceCtorEq, not_false_eq_true, true_or, or_true, false_or, or_false, Nat.zero_ne_one, Nat.one_ne_zero, List.length_cons, List.length_nil, Nat.reduceAdd, Nat.reduceLeDiff, Int.cast_ofNat_Int, z268g1, uq268g1_0, uq268g1_1, uq268g1_1m8, z266g1, uq266g1_0, ue211g1_1_0, z267g1, uq267g1_0, h0]
theorem ue211g1_3_0 {a0 : Ty.T y36} {a1 : Int} {a2 : Ty.T y221} (h0 : cur a2) : cur (e211g1_3 a0 a1 a2).1 := by
  unfold e211g1_3
  simp (maxDischargeDepth := 99) only [false_and, and_false, Sat_cond, Sat_some, false_and, and_false, Sat_ite, Sat_ifz, Sat_opt, Sat_none, cond_true, cond_false, and_true, true_and, implies_true, and_self, ne_eq, reduceCtorEq, not_false_eq_true, true_or, or_true, false_or, or_false, Nat.zero_ne_one, Nat.one_ne_zero, List.length_cons, List.length_nil, Nat.reduceAdd, Nat.reduceLeDiff, Int.cast_ofNat_Int, z211g1_3, uq211g1_3_0, z142g1, uq142g1, ue211g1_2_0, ue211g1_2_1, ue211g1_2_2, ue211g1_1_0, z266g1, uq266g1_0, z267g1, uq267g1_0, h0]
theorem ue211g1_4_0 {a0 : Ty.T y36} {a1 : Int} {a2 : Ty.T y221} (h0 : cur a2) : cur (e211g1_4 a0 a1 a2).2 := by
  unfold e211g1_4
  simp (maxDischargeDepth := 99) only [false_and, and_false, Sat_cond, Sat_some, false_and, and_false, Sat_ite, Sat_ifz, Sat_opt, Sat_none, cond_true, cond_false, and_true, true_and, implies_true, and_self, ne_eq, reduceCtorEq, not_false_eq_true, true_or, or_true, false_or, or_false, Nat.zero_ne_one, Nat.one_ne_zero, List.length_cons, List.length_nil, Nat.reduceAdd, Nat.reduceLeDiff, Int.cast_ofNat_Int, z211g1_4, uq211g1_4_0, ue211g1_1_0, z266g1, uq266g1_0, z267g1, uq267g1_0, ue211g1_2_0, ue211g1_2_1, ue211g1_2_2, ue211g1_3_0, h0]
theorem st211g1 {a0 : Ty.T y36} {a1 : Int} {a2 : Ty.T y221} (h0 : cur a2) : Sat (t211g1 a0 a1 a2 some) (fun r => cur r.2.2.1 /\ Ty.few 8 (.sl 41 y27) r.2.2.2) := by
  unfold t211g1
  simp (maxDischargeDepth := 99) only [false_and, and_false, Sat_cond, Sat_some, false_and, and_false, Sat_ite, Sat_ifz, Sat_opt, Sat_none, cond_true, cond_false, and_true, true_and, implies_true, and_self, ne_eq, reduceCtorEq, not_false_eq_true, true_or, or_true, false_or, or_false, Nat.zero_ne_one, Nat.one_ne_zero, List.length_cons, List.length_nil, Nat.reduceAdd, Nat.reduceLeDiff, Int.cast_ofNat_Int, few_nil, few_pair, few_int, few_bool, few_str, few_nul, z121g1, uq121g1, z209g1, uq209g1, z211g1_0, uq211g1_0_0, z211g1_1, uq211g1_1_0, ue211g1_0_0, z266g1, uq266g1_0, ue211g1_1_0, z267g1, uq267g1_0, z268g1, uq268g1_0, uq268g1_1, uq268g1_1m8, z142g1, uq142g1, ue211g1_2_0, ue211g1_2_1, ue211g1_2_2, z211g1_3, uq211g1_3_0, z211g1_4, uq211g1_4_0, ue211g1_3_0, ue211g1_4_0, h0]
theorem z211g1 {a0 : Ty.T y36} {a1 : Int} {a2 : Ty.T y221} (h0 : cur a2) : d211g1 a0 a1 a2 = true := (st211g1 h0).d
theorem uq211g1_0 {a0 : Ty.T y36} {a1 : Int} {a2 : Ty.T y221} (h0 : cur a2) : cur (v211g1 a0 a1 a2).2.2.1 := (st211g1 h0).v.1
theorem uq211g1_1 {a0 : Ty.T y36} {a1 : Int} {a2 : Ty.T y221} (h0 : cur a2) : Ty.few 8 (.sl 41 y27) (v211g1 a0 a1 a2).2.2.2 := (st211g1 h0).v.2
theorem ue183g1_0_0 {v : V183g1_0} (h0 : cur v.2.2.2.1) : cur (e183g1_0 v).2.2.1 := by
  unfold e183g1_0
  simp (maxDischargeDepth := 99) only [false_and, and_false, Sat_cond, Sat_some, false_and, and_false, Sat_ite, Sat_ifz, Sat_opt, Sat_none, cond_true, cond_false, and_true, true_and, implies_true, and_self, ne_eq, reduceCtorEq, not_false_eq_true, true_or, or_true, false_or, or_false, Nat.zero_ne_one, Nat.one_ne_zero, List.length_cons, List.length_nil, Nat.reduceAdd, Nat.reduceLeDiff, Int.cast_ofNat_Int, z211g1, uq211g1_0, uq211g1_1, z121g1, uq121g1, h0]
theorem ue183g1_0_1 {v : V183g1_0} (h0 : cur v.2.2.2.1) : Ty.few 8 (.sl 41 y27) (e183g1_0 v).2.2.2 := by
  unfold e183g1_0
  simp (maxDischargeDepth := 99) only [false_and, and_false, Sat_cond, Sat_some, false_and, and_false, Sat_ite, Sat_ifz, Sat_opt, Sat_none, cond_true, cond_false, and_true, true_and, implies_true, and_self, ne_eq, reduceCtorEq, not_false_eq_true, true_or, or_true, false_or, or_false, Nat.zero_ne_one, Nat.one_ne_zero, List.length_cons, List.length_nil, Nat.reduceAdd, Nat.reduceLeDiff, Int.cast_ofNat_Int, z211g1, uq211g1_0, uq211g1_1, z121g1, uq121g1, h0]
theorem lp183g1 {r : List (Ty.T y108)} {n : Int} {c : Ty.T y221} {s : Ty.T y36} {l : List (Ty.T y108)} (h0 : 0 <= n) (hn : n <= 4) (hl : l = []) (h : cur c) : k183g1_0 r 0 n c s l 0 = true /\ cur (w183g1_0 r 0 n c s l).2.2.2.1 /\ Ty.few 8 (.sl 109 y108) (w183g1_0 r 0 n c s l).2.2.2.2.2.1 := by
  have := run_sat (s := s183g1_0) (Q := fun v => cur v.2.2.2.1 /\ Ty.few 8 (.sl 109 y108) v.2.2.2.2.2.1) (fun k v => ∃ (i id : Int) (c : Ty.T y221) (l : List (Ty.T y108)), v = (r, id, i, c, s, l, ()) /\ cur c /\ i = k /\ (l.length : Int) + i <= 4 /\ ∀ x, x ∈ l -> Ty.few 8 y108 x) (fun k v hv => by
    obtain ⟨i, id, c, l, rfl, h1, h3, h4, h5⟩ := hv
    have e : 0 <= i -> IntKind.wrap .i64 (i - 1) = i - 1 := fun _ => wrap_in (by omega) (by omega)
    have hz : ∀ x : Int × Int × Int × Int × (Int × Int × Int × Int × Int × Int × Int) × (Int × Int) × (Int × Int × Int × Int × Int × Bool × List (Int × Int × Int × Int × Int × Int × Bool)) × Int × Int, (@List.length (Int × Int × Int × Int × (Int × Int × Int × Int × Int × Int × Int) × (Int × Int) × (Int × Int × Int × Int × Int × Bool × List (Int × Int × Int × Int × Int × Int × Bool)) × Int × Int) (l ++ [x]) * 192 <= 140737488351232) = True := fun x => eq_true (by simp only [List.length_append, List.length_cons, List.length_nil]; omega)
    unfold s183g1_0 t183g1_0
    dsimp only
    simp (maxDischargeDepth := 99) only [false_and, and_false, Sat_cond, Sat_some, false_and, and_false, Sat_ite, Sat_ifz, Sat_opt, Sat_none, cond_true, cond_false, and_true, true_and, implies_true, and_self, ne_eq, reduceCtorEq, not_false_eq_true, true_or, or_true, false_or, or_false, Nat.zero_ne_one, Nat.one_ne_zero, List.length_cons, List.length_nil, Nat.reduceAdd, Nat.reduceLeDiff, Int.cast_ofNat_Int, few_nil, few_pair, few_int, few_bool, few_str, few_nul, z121g1, uq121g1, z211g1, uq211g1_0, uq211g1_1, ue183g1_0_0, ue183g1_0_1, h1, hz]
    refine ⟨fun hl => ?_, fun _ => ⟨by omega, h5⟩⟩
    have hl : i > 0 := of_decide_eq_true hl
    refine ⟨k - 1, by omega, i - 1, _, _, _, by rw [e (by omega)] <;> rfl, ?_, by omega, by simp only [List.length_append, List.length_cons, List.length_nil]; omega, fun x hx => ?_⟩
    · simp (maxDischargeDepth := 99) only [false_and, and_false, Sat_cond, Sat_some, false_and, and_false, Sat_ite, Sat_ifz, Sat_opt, Sat_none, cond_true, cond_false, and_true, true_and, implies_true, and_self, ne_eq, reduceCtorEq, not_false_eq_true, true_or, or_true, false_or, or_false, Nat.zero_ne_one, Nat.one_ne_zero, List.length_cons, List.length_nil, Nat.reduceAdd, Nat.reduceLeDiff, Int.cast_ofNat_Int, few_nil, few_pair, few_int, few_bool, few_str, few_nul, z121g1, uq121g1, z211g1, uq211g1_0, uq211g1_1, ue183g1_0_0, ue183g1_0_1, h1]
    · rcases List.mem_append.1 hx with hx | hx
      · have h6 := h5 x hx
        simp (maxDischargeDepth := 99) only [false_and, and_false, Sat_cond, Sat_some, false_and, and_false, Sat_ite, Sat_ifz, Sat_opt, Sat_none, cond_true, cond_false, and_true, true_and, implies_true, and_self, ne_eq, reduceCtorEq, not_false_eq_true, true_or, or_true, false_or, or_false, Nat.zero_ne_one, Nat.one_ne_zero, List.length_cons, List.length_nil, Nat.reduceAdd, Nat.reduceLeDiff, Int.cast_ofNat_Int, few_nil, few_pair, few_int, few_bool, few_str, few_nul, z121g1, uq121g1, z211g1, uq211g1_0, uq211g1_1, ue183g1_0_0, ue183g1_0_1] at h6 ⊢
        exact h6
      · cases List.mem_singleton.1 hx
        simp (maxDischargeDepth := 99) only [false_and, and_false, Sat_cond, Sat_some, false_and, and_false, Sat_ite, Sat_ifz, Sat_opt, Sat_none, cond_true, cond_false, and_true, true_and, implies_true, and_self, ne_eq, reduceCtorEq, not_false_eq_true, true_or, or_true, false_or, or_false, Nat.zero_ne_one, Nat.one_ne_zero, List.length_cons, List.length_nil, Nat.reduceAdd, Nat.reduceLeDiff, Int.cast_ofNat_Int, few_nil, few_pair, few_int, few_bool, few_str, few_nul, z121g1, uq121g1, z211g1, uq211g1_0, uq211g1_1, ue183g1_0_0, ue183g1_0_1, h1]) n.toNat (r, 0, n, c, s, l, ()) (n183g1_0 (r, 0, n, c, s, l, ())) ⟨n, 0, c, l, rfl, h, by omega, by subst hl; show (0 : Int) + n <= 4; omega, by subst hl; exact fun x hx => absurd hx List.not_mem_nil⟩ (by simp only [n183g1_0]; omega)
  exact ⟨this.1.1, this.2⟩
theorem vbA {c : Ty.T y221} (h : cur c) : 0 <= (v121g1 5 c).1 := ((below 5 c h).2.1 (by omega)).1
theorem vbB {c : Ty.T y221} (h : cur c) : (v121g1 5 c).1 <= 4 := by
  have := (below 5 c h).2.1 (by omega)
  omega
theorem zl183g1 {r : List (Ty.T y108)} {n : Int} {c : Ty.T y221} {s : Ty.T y36} {l : List (Ty.T y108)} (h0 : 0 <= n) (hn : n <= 4) (hl : l = []) (h : cur c) : k183g1_0 r 0 n c s l 0 = true := (lp183g1 h0 hn hl h).1
theorem ul183g1 {r : List (Ty.T y108)} {n : Int} {c : Ty.T y221} {s : Ty.T y36} {l : List (Ty.T y108)} (h0 : 0 <= n) (hn : n <= 4) (hl : l = []) (h : cur c) : cur (w183g1_0 r 0 n c s l).2.2.2.1 := (lp183g1 h0 hn hl h).2.1
theorem um183g1 {r : List (Ty.T y108)} {n : Int} {c : Ty.T y221} {s : Ty.T y36} {l : List (Ty.T y108)} (h0 : 0 <= n) (hn : n <= 4) (hl : l = []) (h : cur c) : Ty.few 8 (.sl 109 y108) (w183g1_0 r 0 n c s l).2.2.2.2.2.1 := (lp183g1 h0 hn hl h).2.2
theorem st183g1 {a0 : Ty.T y36} {a1 : Ty.T y221} (h0 : cur a1) : Sat (t183g1 a0 a1 some) (fun r => cur r.1 /\ Ty.few 8 (.sl 109 y108) r.2) := by
  unfold t183g1
  simp (maxDischargeDepth := 99) only [false_and, and_false, Sat_cond, Sat_some, false_and, and_false, Sat_ite, Sat_ifz, Sat_opt, Sat_none, cond_true, cond_false, and_true, true_and, implies_true, and_self, ne_eq, reduceCtorEq, not_false_eq_true, true_or, or_true, false_or, or_false, Nat.zero_ne_one, Nat.one_ne_zero, List.length_cons, List.length_nil, Nat.reduceAdd, Nat.reduceLeDiff, Int.cast_ofNat_Int, few_nil, few_pair, few_int, few_bool, few_str, few_nul, z121g1, uq121g1, zl183g1, ul183g1, um183g1, vbA, vbB, h0]
theorem z183g1 {a0 : Ty.T y36} {a1 : Ty.T y221} (h0 : cur a1) : d183g1 a0 a1 = true := (st183g1 h0).d
theorem uq183g1_0 {a0 : Ty.T y36} {a1 : Ty.T y221} (h0 : cur a1) : cur (v183g1 a0 a1).1 := (st183g1 h0).v.1
theorem uq183g1_1 {a0 : Ty.T y36} {a1 : Ty.T y221} (h0 : cur a1) : Ty.few 8 (.sl 109 y108) (v183g1 a0 a1).2 := (st183g1 h0).v.2
theorem run_any {V : Type} {s : V -> Option (Nat × V)} {Q : Nat -> V -> Prop} (Inv : Nat -> V -> Prop) (h : ∀ k v, Inv k v -> Sat (s v) fun r => (∃ c, r.1 = c + 1 /\ Q c r.2) ∨ (r.1 = 0 /\ ∃ k', k = k' + 1 /\ Inv k' r.2)) : ∀ (k : Nat) (v : V) (n : Nat), Inv k v -> k < n -> ∃ c v', iter s n v = some (c, v') /\ Q c v'
  | k, v, 0, _, hn => by omega
  | k, v, n + 1, hI, hn => by
    obtain ⟨⟨c, v'⟩, h1, h2⟩ := h k v hI
    rcases h2 with ⟨c, rfl, h2⟩ | ⟨rfl, k', rfl, h4⟩
    · exact ⟨c, v', by rw [iter, h1] <;> rfl, h2⟩
    · obtain ⟨c, v2, h5, h6⟩ := run_any Inv h k' v' n h4 (by omega)
      exact ⟨c, v2, by rw [iter, h1]; exact h5, h6⟩
theorem lp143g1 {n : Int} {c : Ty.T y221} (h0 : 0 <= n) (hn : n <= 7) (h : cur c) : k143g1_0 [] n c [] 0 = true /\ cur (w143g1_0 [] n c []).2.2.1 /\ List.length (w143g1_0 [] n c []).2.2.2.1 <= 7 := by
  have := run_sat (s := s143g1_0) (Q := fun v => cur v.2.2.1 /\ List.length v.2.2.2.1 <= 7) (fun k v => ∃ (i : Int) (c : Ty.T y221) (l : List Int), v = ([], i, c, l, ()) /\ cur c /\ i = k /\ (l.length : Int) + i <= 7) (fun k v hv => by
    obtain ⟨i, c, l, rfl, h1, h3, h4⟩ := hv
    have e : 0 <= i -> IntKind.wrap .i64 (i - 1) = i - 1 := fun _ => wrap_in (by omega) (by omega)
    have hz : ∀ x : Int, (@List.length Int (l ++ [x]) * 8 <= 140737488351232) = True := fun x => eq_true (by simp only [List.length_append, List.length_cons, List.length_nil]; omega)
    have b := oneOf [0, 1, 2, 1, 3, 5, (-1)] c (by simp) h1
    unfold s143g1_0 t143g1_0
    dsimp only
    simp (maxDischargeDepth := 99) only [false_and, and_false, Sat_cond, Sat_some, false_and, and_false, Sat_ite, Sat_ifz, Sat_opt, Sat_none, cond_true, cond_false, and_true, true_and, implies_true, and_self, ne_eq, reduceCtorEq, not_false_eq_true, true_or, or_true, false_or, or_false, Nat.zero_ne_one, Nat.one_ne_zero, List.length_cons, List.length_nil, Nat.reduceAdd, Nat.reduceLeDiff, Int.cast_ofNat_Int, few_nil, few_pair, few_int, few_bool, few_str, few_nul, z209g1, uq209g1, b.1, h1, hz]
    refine ⟨fun hl => ?_, fun _ => by omega⟩
    have hl : i > 0 := of_decide_eq_true hl
    exact ⟨k - 1, by omega, i - 1, _, _, by rw [e (by omega)] <;> rfl, b.2.2, by omega, by simp only [List.length_append, List.length_cons, List.length_nil]; omega⟩) n.toNat ([], n, c, [], ()) (n143g1_0 ([], n, c, [], ())) ⟨n, c, [], rfl, h, by omega, by show (0 : Int) + n <= 7; omega⟩ (by simp only [n143g1_0]; omega)
  exact ⟨this.1.1, this.2⟩
theorem st143g1 {a0 : Ty.T y221} (h : cur a0) : Sat (t143g1 a0 some) fun r => cur r.1 /\ List.length r.2 <= 7 := by
  have b := below 8 a0 h
  have b2 := b.2.1 (by omega)
  have l := lp143g1 b2.1 (by omega) b.2.2
  unfold t143g1
  rw [b.1, l.1]
  simp only [cond_true, Sat_some]
  exact l.2
theorem z143g1 {a0 : Ty.T y221} (h : cur a0) : d143g1 a0 = true := (st143g1 h).d
theorem u143g1 {a0 : Ty.T y221} (h : cur a0) : cur (v143g1 a0).1 /\ List.length (v143g1 a0).2 <= 7 := (st143g1 h).v
theorem lp212g1 {l : List (Ty.T y108)} {k kk : Int} {b : Bool} {c : Ty.T y221} {s : Ty.T y36} {r e : Ty.T y27} (hb : s.1.length <= 1048576) (hs : s.2.1.length <= 1048576) (hl : l.length <= 1048576) (hv : ∀ x ∈ l, x.2.2.2.2.2.2.1.2.2.2.2.2.2.length <= 1048576) :
    ∃ (cd : Nat) (i : Int) (r' : Ty.T y27), iter s212g1_1 (n212g1_1 (l, k, 0, kk, b, c, s, r, e, ())) (l, k, 0, kk, b, c, s, r, e, ()) = some (cd, (l, k, i, kk, b, c, s, r', e, ())) /\ ((cd = 0 /\ r' = e) ∨ cd = 1) := by
  obtain ⟨cd, v', h1, i, r', rfl, h3⟩ := run_any (s := s212g1_1) (Q := fun cd v => ∃ (i : Int) (r' : Ty.T y27), v = (l, k, i, kk, b, c, s, r', e, ()) /\ ((cd = 0 /\ r' = e) ∨ cd = 1)) (fun m v => ∃ i : Int, v = (l, k, i, kk, b, c, s, r, e, ()) /\ 0 <= i /\ i + m = l.length) (fun m v hI => by
    obtain ⟨i, rfl, h0, hm⟩ := hI
    unfold s212g1_1 t212g1_1
    dsimp only
    by_cases hi : i < (l.length : Int)
    · obtain ⟨x, hx, hxm⟩ := getE h0 hi
      have hf := fits s x e hb hs (hv x hxm)
      have hw : IntKind.wrap .i64 (i + 1) = i + 1 := wrap_in (by omega) (by omega)
      rw [decide_eq_true hi, cond_true, if_pos h0, hx]
      simp only [optC_some]
      rw [hf.1, cond_true]
      cases v269 s x e
      · rw [cond_false, Sat_some]
        exact .inr ⟨rfl, m - 1, by omega, i + 1, by rw [hw], by omega, by omega⟩
      · rw [cond_true, Sat_some]
        exact .inl ⟨0, rfl, i, e, rfl, .inl ⟨rfl, rfl⟩⟩
    · rw [decide_eq_false hi, cond_false, Sat_some]
      exact .inl ⟨1, rfl, i, r, rfl, .inr rfl⟩) l.length (l, k, 0, kk, b, c, s, r, e, ()) (n212g1_1 (l, k, 0, kk, b, c, s, r, e, ())) ⟨0, rfl, by omega, by omega⟩ (by simp only [n212g1_1]; omega)
  exact ⟨cd, i, r', h1, h3⟩
theorem lq212g1 {l : List (Ty.T y108)} {c : Ty.T y221} {s : Ty.T y36} {r e : Ty.T y27} (P : Ty.T y27 -> Prop) (hP : ∀ c, cur c -> P (v237g1 s c).1) (he : P e) (h : cur c) (hb : s.1.length <= 1048576) (hs : s.2.1.length <= 1048576) (hl : l.length <= 1048576) (hv : ∀ x ∈ l, x.2.2.2.2.2.2.1.2.2.2.2.2.2.length <= 1048576) :
    ∃ (cd : Nat) (v' : V212g1_0), iter s212g1_0 (n212g1_0 (l, 0, c, s, r, e, ())) (l, 0, c, s, r, e, ()) = some (cd, v') /\ cur v'.2.2.1 /\ ((cd = 0 /\ P v'.2.2.2.2.1) ∨ (cd = 1 /\ P v'.2.2.2.2.2.1)) := by
  refine run_any (s := s212g1_0) (Q := fun cd v => cur v.2.2.1 /\ ((cd = 0 /\ P v.2.2.2.2.1) ∨ (cd = 1 /\ P v.2.2.2.2.2.1))) (fun m v => ∃ (i : Int) (c : Ty.T y221) (r e : Ty.T y27), v = (l, i, c, s, r, e, ()) /\ cur c /\ P e /\ 0 <= i /\ i + m = 5) (fun m v hI => ?_) 5 (l, 0, c, s, r, e, ()) (n212g1_0 (l, 0, c, s, r, e, ())) ⟨0, c, r, e, rfl, h, he, by omega, by omega⟩ (by simp only [n212g1_0]; omega)
  obtain ⟨i, c, r, e, rfl, hc, he, h0, hm⟩ := hI
  unfold s212g1_0 t212g1_0
  dsimp only
  by_cases hi : i < 5
  · obtain ⟨cd, i', r', h1, h2⟩ := lp212g1 (k := i) (kk := i) (b := decide (i < (5 : Int))) (c := c) (r := r) (e := e) hb hs hl hv
    have hw : w212g1_1 l i 0 i (decide (i < (5 : Int))) c s r e = _ := val_of h1
    have hk0 : k212g1_1 l i 0 i (decide (i < (5 : Int))) c s r e 0 = (cd == 0) := at_of h1 0
    have hk1 : k212g1_1 l i 0 i (decide (i < (5 : Int))) c s r e 1 = (cd == 1) := at_of h1 1
    rw [hk0, hk1, hw]
    dsimp only
    rw [decide_eq_true hi, cond_true]
    rcases h2 with ⟨rfl, h2⟩ | rfl
    · rw [show ((0 : Nat) == 0) = true from rfl, cond_true, Sat_some]
      exact .inl ⟨0, rfl, hc, .inl ⟨rfl, by rw [h2]; exact he⟩⟩
    · rw [show ((1 : Nat) == 0) = false from rfl, cond_false, show ((1 : Nat) == 1) = true from rfl, cond_true]
      have hw2 : IntKind.wrap .i64 (i + 1) = i + 1 := wrap_in (by omega) (by omega)
      rw [z237g1 hc, cond_true, Sat_some]
      exact .inr ⟨rfl, m - 1, by omega, i + 1, _, r', _, by rw [hw2], uq237g1_0 hc, hP c hc, by omega, by omega⟩
  · rw [decide_eq_false hi, cond_false, Sat_some]
    exact .inl ⟨1, rfl, hc, .inr ⟨rfl, he⟩⟩
theorem st212g1 {a0 : Ty.T y36} {a1 : List (Ty.T y108)} {a2 : Ty.T y221} (P : Ty.T y27 -> Prop) (hP : ∀ c, cur c -> P (v237g1 a0 c).1) (h : cur a2) (hb : a0.1.length <= 1048576) (hs : a0.2.1.length <= 1048576) (hl : a1.length <= 1048576) (hv : ∀ x ∈ a1, x.2.2.2.2.2.2.1.2.2.2.2.2.2.length <= 1048576) : Sat (t212g1 a0 a1 a2 some) fun r => P r.1 /\ cur r.2 := by
  obtain ⟨cd, v', h1, h2, h3⟩ := lq212g1 (c := (v237g1 a0 a2).2) (s := a0) (r := (0, 0, 0, 0, 0, 0, false)) (e := (v237g1 a0 a2).1) P hP (hP a2 h) (uq237g1_0 h) hb hs hl hv
  have hw : w212g1_0 a1 0 (v237g1 a0 a2).2 a0 (0, 0, 0, 0, 0, 0, false) (v237g1 a0 a2).1 = _ := val_of h1
  have hk0 : k212g1_0 a1 0 (v237g1 a0 a2).2 a0 (0, 0, 0, 0, 0, 0, false) (v237g1 a0 a2).1 0 = (cd == 0) := at_of h1 0
  have hk1 : k212g1_0 a1 0 (v237g1 a0 a2).2 a0 (0, 0, 0, 0, 0, 0, false) (v237g1 a0 a2).1 1 = (cd == 1) := at_of h1 1
  unfold t212g1
  rw [z237g1 h, cond_true, hk0, hk1, hw]
  rcases h3 with ⟨rfl, h3⟩ | ⟨rfl, h3⟩
  · rw [show ((0 : Nat) == 0) = true from rfl, cond_true, Sat_some]
    exact ⟨h3, h2⟩
  · rw [show ((1 : Nat) == 0) = false from rfl, cond_false, show ((1 : Nat) == 1) = true from rfl, cond_true, Sat_some]
    exact ⟨h3, h2⟩
theorem st133g1 {a0 : Ty.T y221} (h : cur a0) : Sat (t133g1 a0 some) fun r => (r.1.1.length <= 6 /\ r.1.2.1.length = 2) /\ Ty.few 8 (.sl 109 y108) r.2.1 /\ cur r.2.2.2.1 /\ List.length r.2.2.2.2 <= 7 := by
  obtain ⟨s1, s2, s3, s4⟩ : cur (v119g1 a0).2.1 /\ 1 <= (v119g1 a0).2.2.1.length /\ (v119g1 a0).2.2.1.length <= 6 /\ (v119g1 a0).2.2.2.length = 2 := (st119g1 h).v
  have d1 : d119g1 a0 = true := (st119g1 h).d
  obtain ⟨l1, l2⟩ : cur (v183g1 ((v119g1 a0).2.2.1, (v119g1 a0).2.2.2, (v119g1 a0).1) (v119g1 a0).2.1).1 /\ Ty.few 8 (.sl 109 y108) (v183g1 ((v119g1 a0).2.2.1, (v119g1 a0).2.2.2, (v119g1 a0).1) (v119g1 a0).2.1).2 := (st183g1 (a0 := ((v119g1 a0).2.2.1, (v119g1 a0).2.2.2, (v119g1 a0).1)) (a1 := (v119g1 a0).2.1) s1).v
  have d2 : d183g1 ((v119g1 a0).2.2.1, (v119g1 a0).2.2.2, (v119g1 a0).1) (v119g1 a0).2.1 = true := (st183g1 s1).d
  have e1 := st212g1 (a0 := ((v119g1 a0).2.2.1, (v119g1 a0).2.2.2, (v119g1 a0).1)) (a1 := (v183g1 ((v119g1 a0).2.2.1, (v119g1 a0).2.2.2, (v119g1 a0).1) (v119g1 a0).2.1).2) (fun _ => True) (fun _ _ => trivial) l1 (show (v119g1 a0).2.2.1.length <= _ by omega) (show (v119g1 a0).2.2.2.length <= _ by omega) (Nat.le_trans l2.1 (by decide)) (fun x hx => Nat.le_trans (l2.2 x hx).2.2.2.2.2.2.1.2.2.2.2.2.2.1 (by decide))
  have d3 : d212g1 ((v119g1 a0).2.2.1, (v119g1 a0).2.2.2, (v119g1 a0).1) (v183g1 ((v119g1 a0).2.2.1, (v119g1 a0).2.2.2, (v119g1 a0).1) (v119g1 a0).2.1).2 (v183g1 ((v119g1 a0).2.2.1, (v119g1 a0).2.2.2, (v119g1 a0).1) (v119g1 a0).2.1).1 = true := e1.d
  have e2 : True /\ cur (v212g1 ((v119g1 a0).2.2.1, (v119g1 a0).2.2.2, (v119g1 a0).1) (v183g1 ((v119g1 a0).2.2.1, (v119g1 a0).2.2.2, (v119g1 a0).1) (v119g1 a0).2.1).2 (v183g1 ((v119g1 a0).2.2.1, (v119g1 a0).2.2.2, (v119g1 a0).1) (v119g1 a0).2.1).1).2 := e1.v
  have c2 := u143g1 e2.2
  have d4 := z143g1 e2.2
  unfold t133g1
  rw [d1, cond_true, d2, cond_true, d3, cond_true]
  have g : ∀ (T : List (Ty.T y108)) (c : Ty.T y221) (s : Ty.T y36) (e : Ty.T y27), d143g1 c = true -> g133g1_0 ([], [], T, c, ([], [], 0, 0), (0, 0, 0, 0, 0, 0, false), s, e, ()) = true := fun T c s e hv => by
    unfold g133g1_0 t133g1_0
    rw [hv]
    rfl
  rw [g _ _ _ _ d4, cond_true, Sat_some]
  exact ⟨⟨s3, s4⟩, l2, c2.1, c2.2⟩
theorem z133g1 {a0 : Ty.T y221} (h : cur a0) : d133g1 a0 = true := (st133g1 h).d
theorem u133g1 {a0 : Ty.T y221} (h : cur a0) : ((v133g1 a0).1.1.length <= 6 /\ (v133g1 a0).1.2.1.length = 2) /\ Ty.few 8 (.sl 109 y108) (v133g1 a0).2.1 /\ cur (v133g1 a0).2.2.2.1 /\ List.length (v133g1 a0).2.2.2.2 <= 7 := (st133g1 h).v
theorem usedEq (c : List (Ty.T (.int .i64))) (f : Ty.T y56) (hc : c.length <= 1048576) (hf : f.2.2.1.length <= 1048576) : v45 c f = v48 c f /\ v45 c f = max 0 ((c.length : Int) - (f.2.2.1.length : Int)) := by
  have hw : IntKind.wrap .i64 ((c.length : Int) - (f.2.2.1.length : Int)) = (c.length : Int) - (f.2.2.1.length : Int) := wrap_in (by omega) (by omega)
  unfold v45 v48
  rw [hw, sUpto]
  unfold upto
  constructor
  · split <;> omega
  · split <;> omega
theorem g44 (T : List (Ty.T y27)) (a : List (Ty.T y108)) (b : List (Ty.T (.int .i64))) (m : List (Ty.T y66)) (c : Ty.T y221) (cs : List (Ty.T (.int .i64))) (h : d143g1 c = true) : g44_0 ([], ([], [], [], []), c, T, a, b, m, cs, ()) = true := by
  unfold g44_0 t44_0
  rw [h]
  rfl
theorem law (a0 : List (Ty.T (.int .u8))) (w0 : Ty.ok (.sl 5 (.int .u8)) a0) : d6 a0 = true /\ v6 a0 = true := by
  unfold d6 v6
  cases hb : v28 a0 with
  | true => exact ⟨rfl, rfl⟩
  | false =>
    have hl : a0.length <= 1048576 := by
      have : ¬ ((a0.length : Int) > 1048576) := of_decide_eq_false hb
      omega
    obtain ⟨n1, n2⟩ := newC a0 (by omega)
    have z := z133g1 n2
    have u := u133g1 n2
    obtain ⟨⟨s, l, e, c, cs⟩, hq⟩ : ∃ q, v133g1 (v116 a0) = q := ⟨_, rfl⟩
    rw [hq] at u
    obtain ⟨⟨u1, u2⟩, u3, u4, u5⟩ := u
    dsimp only at u1 u2 u3 u4 u5
    have g1 : s.1.length <= 1048576 := by omega
    have g2 : s.2.1.length <= 1048576 := by omega
    have g3 : l.length <= 1048576 := Nat.le_trans u3.1 (by decide)
    have g4 : ∀ x ∈ l, x.2.2.2.2.2.2.1.2.2.2.2.2.2.length <= 1048576 := fun x hx => Nat.le_trans (u3.2 x hx).2.2.2.2.2.2.1.2.2.2.2.2.2.1 (by decide)
    have g5 : cs.length <= 1048576 := by omega
    obtain ⟨r1, r2, r3, r4, r5, r6, r7, r8, r9, r10⟩ := rewrite s l e cs g1 g2 g3 g4 g5
    obtain ⟨b1, b2, b3, b4⟩ := rwBnd s l e cs g1 g2 g3 g4 g5
    have ib := inB s l e cs g1 g2 g3 g4 g5
    have hdr : ∀ x ∈ (rwM s l e cs).2.2.2, -9223372036854775808 <= x.2.2.2.2.2.2.2 /\ x.2.2.2.2.2.2.2 <= 9223372036854775807 := fun x hx => rng64 (b3 x hx).1 (show deepN x <= 1048576 by have := (b3 x hx).2; have := cnt_range l 0 (by omega); omega)
    have e1 : d41 a0 = true /\ v41 a0 = (s, l, e, cs) := by
      simp only [d41, v41, t41, n1, z, hq, cond_true, Option.isSome_some, Option.getD_some]
      exact ⟨trivial, trivial⟩
    have e2 : d43 a0 = true /\ (v43 a0).2 = rwM s l e cs /\ (v43 a0).1.length <= 1048576 := by
      simp only [d43, v43, t43, n1, z, hq, r1, r3, cond_true]
      by_cases hp : (l.length : Int) > 0
      · rw [decide_eq_true hp, cond_true, (once 3 c u4).1]
        simp only [cond_true, if_pos (show (1 : Int) <= (l.length : Int) by omega)]
        cases (v142g1 3 c).1
        · exact ⟨rfl, rfl, g3⟩
        · refine ⟨rfl, rfl, ?_⟩
          show ((l.take l.length).drop 1).length <= _
          rw [List.length_drop, List.length_take]
          omega
      · rw [decide_eq_false hp]
        exact ⟨rfl, rfl, g3⟩
    have e3 : d44 a0 = true /\ (v44 a0).2 = rwM s l e cs /\ (v44 a0).1.length <= 1048576 := by
      have o := once 4 c u4
      have ch := u143g1 o.2
      simp only [d44, v44, t44, n1, z, hq, r1, r3, cond_true, o.1, g44 _ _ _ _ _ _ (z143g1 o.2)]
      cases (v142g1 4 c).1
      · exact ⟨rfl, rfl, g5⟩
      · exact ⟨rfl, rfl, by show (v143g1 (v142g1 4 c).2).2.length <= _; omega⟩
    have x1 := bounds (v43 a0).1 (rwM s l e cs) e2.2.2 r9 hdr
    have x2 := usedEq (v44 a0).1 (rwM s l e cs) e3.2.2 r8
    have x3 := usedEq cs (rwM s l e cs) g5 r8
    have x4 := needI (rwM s l e cs) r9
    have hlen : (rwM s l e cs).2.2.1.length = cs.length - needN (rwM s l e cs).2.2.2 := by rw [b4, List.length_drop]
    have hnl : needN (rwM s l e cs).2.2.2 <= (rwM s l e cs).2.2.2.length := List.countP_le_length
    have y1 : v45 cs (rwM s l e cs) = max 0 ((cs.length : Int) - ((rwM s l e cs).2.2.1.length : Int)) := x3.2
    have y2 : decide (v45 cs (rwM s l e cs) <= (needN (rwM s l e cs).2.2.2 : Int)) = true := decide_eq_true (by rw [y1]; omega)
    have y3 : decide (v45 cs (rwM s l e cs) <= ((rwM s l e cs).2.2.2.length : Int)) = true := decide_eq_true (by rw [y1]; omega)
    have y4 : (IntKind.wrap .i64 (v45 cs (rwM s l e cs) + ((rwM s l e cs).2.2.1.length : Int)) == (cs.length : Int)) = true := by
      rw [y1, wrap_in (by omega) (by omega)]
      simp only [beq_iff_eq]
      omega
    simp only [e1.1, e1.2, e2.1, e2.2.1, e3.1, e3.2.1, r2, r4, x1.1, x1.2.1, x1.2.2, x2.1, ib.1, ib.2, x4.1, x4.2, y2, y3, y4, cond_true, beq_self_eq_true]
    exact ⟨rfl, rfl⟩
end Go.Proofs.YtahlaccdpmddbaaGreat.Vm
namespace Go.Proofs.YtahlaccdpmddbaaGreat.Pure
open Go Go.Proofs.YtahlaccdpmddbaaGreat.Lib Go.Proofs.YtahlaccdpmddbaaGreat.Vm
theorem fnInBounds : Go.Proofs.YtahlaccdpmddbaaGreat.fnInBounds.Pure := fun a0 w0 => by
  have h := law a0 w0
  show cond (d6 a0) (some (f6 (v6 a0))) none = _
  rw [h.1, h.2]
  rfl
end Go.Proofs.YtahlaccdpmddbaaGreat.Pure
