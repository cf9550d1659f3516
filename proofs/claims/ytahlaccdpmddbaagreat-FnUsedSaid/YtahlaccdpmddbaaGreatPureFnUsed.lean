/- FnUsed: the law holds of the plain functions that the contracts name. No condition. -/
import Derived.Test.YtahlaccdpmddbaaGreatVmRowFnUsed
import Derived.Test.YtahlaccdpmddbaaGreatVmLibThree
namespace Go.Proofs.YtahlaccdpmddbaaGreat.Vm
open Go Go.Proofs.YtahlaccdpmddbaaGreat.Lib
set_option maxRecDepth 100000
set_option linter.unusedVariables false
set_option linter.unusedSimpArgs false
theorem YO (a : Int) (b : Int) (c : Int) (d : Int) (n : Int) (z : Int) (t : Bool) : v53 ((a, b, c, d, n, z, t) : Ty.T y27) = dX ((a, b, c, d, n, z, t) : Ty.T y27) := by
  simp only [v53, t53, dX, t157, bx, cJ, uT, nh, eC, qe, qO, v8]
  dsimp only [Ty.T]
  have cc : ∀ (p q r : Bool), cond p q r = true ↔ (p = true /\ q = true) ∨ (p = false /\ r = true) := by decide
  have cf : ∀ (p q r : Bool), cond p q r = false ↔ (p = true /\ q = false) ∨ (p = false /\ r = false) := by decide
  by_cases h1 : a = 1
  · subst h1; rw [Bool.eq_iff_iff]; cases t <;> simp [cc, cf, *] <;> omega
  by_cases h2 : a = 2
  · subst h2; rw [Bool.eq_iff_iff]; cases t <;> simp [cc, cf, *] <;> omega
  by_cases h3 : a = 3
  · subst h3; rw [Bool.eq_iff_iff]; cases t <;> simp [cc, cf, *] <;> omega
  by_cases h4 : a = 4
  · subst h4; rw [Bool.eq_iff_iff]; cases t <;> simp [cc, cf, *] <;> omega
  by_cases h5 : a = 5
  · subst h5; rw [Bool.eq_iff_iff]; cases t <;> simp [cc, cf, *] <;> omega
  by_cases h6 : a = 6
  · subst h6; rw [Bool.eq_iff_iff]; cases t <;> simp [cc, cf, *] <;> omega
  rw [Bool.eq_iff_iff]; cases t <;> simp [cc, cf, *] <;> omega
theorem Ot (e : Ty.T y27) : v53 e = dX e := by
  obtain ⟨a, b, c, d, n, z, t⟩ := e
  exact YO a b c d n z t
theorem ZO (a b c d z : Int) (t : Bool) : dX ((a, b, c, d, -1, z, t) : Ty.T y27) = false := by
  simp only [dX, t157, bx]
  dsimp only [Ty.T]
  have cc : ∀ (p q r : Bool), cond p q r = true ↔ (p = true /\ q = true) ∨ (p = false /\ r = true) := by decide
  have cf : ∀ (p q r : Bool), cond p q r = false ↔ (p = true /\ q = false) ∨ (p = false /\ r = false) := by decide
  cases t <;> simp [cc, cf]
theorem Xa (e : Ty.T y27) : LH e = mi e := by
  obtain ⟨a, b, c, d, n, z, t⟩ := e
  have h := ZO a b c d z t
  simp only [LH, mi, Ot]
  by_cases hn : n = (-1 : Int)
  · subst hn
    rw [h]
    cases (a == (2 : Int)) <;> simp [bne, *]
  · have h1 : (n == (-1 : Int)) = false := by simpa using hn
    simp only [h1]
    cases (dX (a, b, c, d, n, z, t)) <;> cases (a == (2 : Int)) <;> simp [bne, *]
theorem Yd (k : Int) (w : Int) (s : Int) (p : Int) (l : Int) (t : Int) (z : Int) : yq ((k, w, s, p, l, t, z) : Ty.T bS) = wa ((k, w, s, p, l, t, z) : Ty.T bS) := by
  simp only [yq, t283, wa, t297, bx, cJ, uT, MF, LX]
  dsimp only [Ty.T]
  have cc : ∀ (p q r : Bool), cond p q r = true ↔ (p = true /\ q = true) ∨ (p = false /\ r = true) := by decide
  have cf : ∀ (p q r : Bool), cond p q r = false ↔ (p = true /\ q = false) ∨ (p = false /\ r = false) := by decide
  by_cases h1 : k = 1
  · subst h1; rw [Bool.eq_iff_iff]; simp [cc, cf, *] <;> omega
  by_cases h2 : k = 2
  · subst h2; rw [Bool.eq_iff_iff]; simp [cc, cf, *] <;> omega
  by_cases h3 : k = 3
  · subst h3; rw [Bool.eq_iff_iff]; simp [cc, cf, *] <;> omega
  by_cases h4 : k = 4
  · subst h4; rw [Bool.eq_iff_iff]; simp [cc, cf, *] <;> omega
  by_cases h5 : k = 5
  · subst h5; rw [Bool.eq_iff_iff]; simp [cc, cf, *] <;> omega
  by_cases h6 : k = 6
  · subst h6; rw [Bool.eq_iff_iff]; simp [cc, cf, *] <;> omega
  rw [Bool.eq_iff_iff]; simp [cc, cf, *] <;> omega
theorem UO (e : Ty.T bS) : yq e = wa e := by
  obtain ⟨k, w, s, p, l, t, z⟩ := e
  exact Yd k w s p l t z
theorem Pa (k : Int) (n : Int) : zJ ((k, n) : Ty.T a9) = yU ((k, n) : Ty.T a9) := by
  simp only [zJ, t284, yU, t298, bx, cJ, fD]
  dsimp only [Ty.T]
  have cc : ∀ (p q r : Bool), cond p q r = true ↔ (p = true /\ q = true) ∨ (p = false /\ r = true) := by decide
  have cf : ∀ (p q r : Bool), cond p q r = false ↔ (p = true /\ q = false) ∨ (p = false /\ r = false) := by decide
  by_cases h0 : k = 0
  · subst h0; rw [Bool.eq_iff_iff]; simp [cc, cf, *] <;> omega
  by_cases h1 : k = 1
  · subst h1; rw [Bool.eq_iff_iff]; simp [cc, cf, *] <;> omega
  by_cases h2 : k = 2
  · subst h2; rw [Bool.eq_iff_iff]; simp [cc, cf, *] <;> omega
  by_cases h3 : k = 3
  · subst h3; rw [Bool.eq_iff_iff]; simp [cc, cf, *] <;> omega
  by_cases h4 : k = 4
  · subst h4; rw [Bool.eq_iff_iff]; simp [cc, cf, *] <;> omega
  by_cases h5 : k = 5
  · subst h5; rw [Bool.eq_iff_iff]; simp [cc, cf, *] <;> omega
  rw [Bool.eq_iff_iff]; simp [cc, cf, *] <;> omega
theorem La (e : Ty.T a9) : zJ e = yU e := by
  obtain ⟨k, n⟩ := e
  exact Pa k n
theorem TK (a : Ty.T bp) (hb : a.2.2.2.2.2.2.length <= 1048576) : (a.2.2.2.2.2.2.any (fun x => !mi x) = true /\ xl false 0 a 0 = true /\ ∃ j : Nat, xA false 0 a = (false, (j : Int), a, ())) ∨ (a.2.2.2.2.2.2.any (fun x => !mi x) = false /\ xl false 0 a 0 = false /\ xl false 0 a 1 = true /\ xA false 0 a = (false, (a.2.2.2.2.2.2.length : Int), a, ())) := by
  have h := dn (s := uW) (mk := fun i => (false, i, a, ())) (fin := fun i => (false, (i : Int), a, ())) (p := fun i => match a.2.2.2.2.2.2[i]? with | some x => !mi x | none => false) (N := a.2.2.2.2.2.2.length) (fun i hi => by
    have h1 := List.getElem?_eq_getElem hi
    simp only [h1]
    skip
    cases ht : (mi a.2.2.2.2.2.2[i] : Bool) <;> simp [uW, vt, ay, hi, h1, ht,  aT (n := i) (by omega)]) (by simp [uW, vt]) a.2.2.2.2.2.2.length 0 (yg (false, 0, a, ())) (by omega) (by simp only [yg]; omega)
  have hf := hY (p := fun x => !mi x) (xs := a.2.2.2.2.2.2) (q := fun i => match a.2.2.2.2.2.2[i]? with | some x => !mi x | none => false) (fun i x h1 => by simp only [h1])
  revert h hf
  generalize first _ 0 a.2.2.2.2.2.2.length = o
  intro h hf
  cases o with
  | none => exact .inr ⟨hf.symm, aX h 0, aX h 1, bo h⟩
  | some j => exact .inl ⟨hf.symm, aX h 0, j, bo h⟩
theorem P2 (l : List (Ty.T y27)) (hb : l.length <= 1048576) : (l.any (fun x => !mi x) = true /\ e6 l 0 ((l).length : Int) 0 0 = true /\ ∃ j : Nat, rX l 0 ((l).length : Int) 0 = (l, (j : Int), ((l).length : Int), (j : Int), ())) ∨ (l.any (fun x => !mi x) = false /\ e6 l 0 ((l).length : Int) 0 0 = false /\ e6 l 0 ((l).length : Int) 0 1 = true /\ rX l 0 ((l).length : Int) 0 = (l, 0, ((l).length : Int), (l.length : Int), ())) := by
  have h := dn (s := kJ) (mk := fun i => (l, 0, ((l).length : Int), i, ())) (fin := fun i => (l, (i : Int), ((l).length : Int), (i : Int), ())) (p := fun i => match l[i]? with | some x => !mi x | none => false) (N := l.length) (fun i hi => by
    have h1 := List.getElem?_eq_getElem hi
    simp only [h1]
    skip
    cases ht : (mi l[i] : Bool) <;> simp [kJ, kU, ay, hi, h1, ht, Tk, Xa, aT (n := i) (by omega)]) (by simp [kJ, kU]) l.length 0 (nJ (l, 0, ((l).length : Int), 0, ())) (by omega) (by simp only [nJ]; omega)
  have hf := hY (p := fun x => !mi x) (xs := l) (q := fun i => match l[i]? with | some x => !mi x | none => false) (fun i x h1 => by simp only [h1])
  revert h hf
  generalize first _ 0 l.length = o
  intro h hf
  cases o with
  | none => exact .inr ⟨hf.symm, aX h 0, aX h 1, bo h⟩
  | some j => exact .inl ⟨hf.symm, aX h 0, j, bo h⟩
theorem Sr (l : List (Ty.T y27)) (hb : l.length <= 1048576) : zt l = true /\ yK l = l.any (fun x => !mi x) := by
  unfold zt yK vi xY
  rcases P2 l hb with ⟨hB, e0, j, hw⟩ | ⟨hB, e0, e1, hw⟩
  · rw [e0, hw, hB]
    exact ⟨rfl, decide_eq_true (show ((j : Int)) ≥ 0 by omega)⟩
  · rw [e0, e1, hB]
    exact ⟨rfl, rfl⟩
theorem Rz (k n p s z kind : Int) (b : Bool) (l : List (Ty.T y27)) : Co ((k, n, p, s, z, b, l) : Ty.T bp) kind = ml ((k, n, p, s, z, b, l) : Ty.T bp) kind := by
  simp only [Co, t286, ml, t271, bx, cJ, MF]
  dsimp only [Ty.T]
  have cc : ∀ (p q r : Bool), cond p q r = true ↔ (p = true /\ q = true) ∨ (p = false /\ r = true) := by decide
  have cf : ∀ (p q r : Bool), cond p q r = false ↔ (p = true /\ q = false) ∨ (p = false /\ r = false) := by decide
  by_cases h1 : k = 1
  · subst h1; rw [Bool.eq_iff_iff]; simp [cc, cf] <;> omega
  by_cases h2 : k = 2
  · subst h2; rw [Bool.eq_iff_iff]; simp [cc, cf] <;> omega
  by_cases h3 : k = 3
  · subst h3; rw [Bool.eq_iff_iff]; simp [cc, cf] <;> omega
  by_cases h4 : k = 4
  · subst h4; rw [Bool.eq_iff_iff]; simp [cc, cf] <;> omega
  by_cases h5 : k = 5
  · subst h5; rw [Bool.eq_iff_iff]; simp [cc, cf] <;> omega
  by_cases h6 : k = 6
  · subst h6; rw [Bool.eq_iff_iff]; simp [cc, cf] <;> omega
  by_cases h7 : k = 7
  · subst h7; rw [Bool.eq_iff_iff]; simp [cc, cf] <;> omega
  by_cases h8 : k = 8
  · subst h8; rw [Bool.eq_iff_iff]; simp [cc, cf] <;> omega
  by_cases h9 : k = 9
  · subst h9; rw [Bool.eq_iff_iff]; simp [cc, cf] <;> omega
  rw [Bool.eq_iff_iff]; simp [cc, cf, *] <;> omega
theorem KC (a : Ty.T bp) (kind : Int) : Co a kind = ml a kind := by
  obtain ⟨k, n, p, s, z, b, l⟩ := a
  exact Rz k n p s z kind b l
theorem X7 (k n p s z : Int) (b : Bool) (l : List (Ty.T y27)) (hb : l.length <= 1048576) : d299 ((k, n, p, s, z, b, l) : Ty.T bp) = true /\ d285 ((k, n, p, s, z, b, l) : Ty.T bp) = true /\ uz ((k, n, p, s, z, b, l) : Ty.T bp) = Ao ((k, n, p, s, z, b, l) : Ty.T bp) := by
  have hi := Sr l hb
  have hs := TK ((k, n, p, s, z, b, l) : Ty.T bp) hb
  dsimp only at hs
  have cc : ∀ (p q r : Bool), cond p q r = true ↔ (p = true /\ q = true) ∨ (p = false /\ r = true) := by decide
  have cf : ∀ (p q r : Bool), cond p q r = false ↔ (p = true /\ q = false) ∨ (p = false /\ r = false) := by decide
  rcases hs with ⟨hB, e0, j, hw⟩ | ⟨hB, e0, e1, hw⟩
  · simp only [d299, t299, d285, t285, Ao, uz, Dw, tu, Eo, tw, Cd, vl, DR, ua, CQ, uB, Er, s6, C1, uh, CN, tt, wG, pG, B1, vk, wZ, nb, yL, id, nfs, Mf, bx, cJ, nh, qe, v8, hi.1, hi.2, hB, e0, hw]
    dsimp only [Ty.T]
    have hl : 0 <= (List.length (α := Ty.T y27) l : Int) := by omega
    generalize (List.length (α := Ty.T y27) l : Int) = m at hl
    by_cases h1 : k = 1
    · subst h1; refine ⟨by simp, by simp, ?_⟩; rw [Bool.eq_iff_iff]; cases b <;> simp [cc, cf, *] <;> omega
    by_cases h2 : k = 2
    · subst h2; refine ⟨by simp, by simp, ?_⟩; rw [Bool.eq_iff_iff]; cases b <;> simp [cc, cf, *] <;> omega
    by_cases h3 : k = 3
    · subst h3; refine ⟨by simp, by simp, ?_⟩; rw [Bool.eq_iff_iff]; cases b <;> simp [cc, cf, *] <;> omega
    by_cases h4 : k = 4
    · subst h4; refine ⟨by simp, by simp, ?_⟩; rw [Bool.eq_iff_iff]; cases b <;> simp [cc, cf, *] <;> omega
    by_cases h5 : k = 5
    · subst h5; refine ⟨by simp, by simp, ?_⟩; rw [Bool.eq_iff_iff]; cases b <;> simp [cc, cf, *] <;> omega
    by_cases h6 : k = 6
    · subst h6; refine ⟨by simp, by simp, ?_⟩; rw [Bool.eq_iff_iff]; cases b <;> simp [cc, cf, *] <;> omega
    by_cases h7 : k = 7
    · subst h7; refine ⟨by simp, by simp, ?_⟩; rw [Bool.eq_iff_iff]; cases b <;> simp [cc, cf, *] <;> omega
    by_cases h8 : k = 8
    · subst h8; refine ⟨by simp, by simp, ?_⟩; rw [Bool.eq_iff_iff]; cases b <;> simp [cc, cf, *] <;> omega
    by_cases h9 : k = 9
    · subst h9; refine ⟨by simp, by simp, ?_⟩; rw [Bool.eq_iff_iff]; cases b <;> simp [cc, cf, *] <;> omega
    refine ⟨by simp [*], by simp [*], ?_⟩; rw [Bool.eq_iff_iff]; cases b <;> simp [cc, cf, *] <;> omega
  · simp only [d299, t299, d285, t285, Ao, uz, Dw, tu, Eo, tw, Cd, vl, DR, ua, CQ, uB, Er, s6, C1, uh, CN, tt, wG, pG, B1, vk, wZ, nb, yL, id, nfs, Mf, bx, cJ, nh, qe, v8, hi.1, hi.2, hB, e0, e1, hw]
    dsimp only [Ty.T]
    have hl : 0 <= (List.length (α := Ty.T y27) l : Int) := by omega
    generalize (List.length (α := Ty.T y27) l : Int) = m at hl
    by_cases h1 : k = 1
    · subst h1; refine ⟨by simp, by simp, ?_⟩; rw [Bool.eq_iff_iff]; cases b <;> simp [cc, cf, *] <;> omega
    by_cases h2 : k = 2
    · subst h2; refine ⟨by simp, by simp, ?_⟩; rw [Bool.eq_iff_iff]; cases b <;> simp [cc, cf, *] <;> omega
    by_cases h3 : k = 3
    · subst h3; refine ⟨by simp, by simp, ?_⟩; rw [Bool.eq_iff_iff]; cases b <;> simp [cc, cf, *] <;> omega
    by_cases h4 : k = 4
    · subst h4; refine ⟨by simp, by simp, ?_⟩; rw [Bool.eq_iff_iff]; cases b <;> simp [cc, cf, *] <;> omega
    by_cases h5 : k = 5
    · subst h5; refine ⟨by simp, by simp, ?_⟩; rw [Bool.eq_iff_iff]; cases b <;> simp [cc, cf, *] <;> omega
    by_cases h6 : k = 6
    · subst h6; refine ⟨by simp, by simp, ?_⟩; rw [Bool.eq_iff_iff]; cases b <;> simp [cc, cf, *] <;> omega
    by_cases h7 : k = 7
    · subst h7; refine ⟨by simp, by simp, ?_⟩; rw [Bool.eq_iff_iff]; cases b <;> simp [cc, cf, *] <;> omega
    by_cases h8 : k = 8
    · subst h8; refine ⟨by simp, by simp, ?_⟩; rw [Bool.eq_iff_iff]; cases b <;> simp [cc, cf, *] <;> omega
    by_cases h9 : k = 9
    · subst h9; refine ⟨by simp, by simp, ?_⟩; rw [Bool.eq_iff_iff]; cases b <;> simp [cc, cf, *] <;> omega
    refine ⟨by simp [*], by simp [*], ?_⟩; rw [Bool.eq_iff_iff]; cases b <;> simp [cc, cf, *] <;> omega
theorem UA (a : Ty.T bp) (hb : a.2.2.2.2.2.2.length <= 1048576) : d299 a = true /\ d285 a = true /\ uz a = Ao a := by
  obtain ⟨k, n, p, s, z, b, l⟩ := a
  exact X7 k n p s z b l hb
theorem LY (i1 i2 i3 i4 : Int) (p : Ty.T bS) (g : Ty.T a9) (a : Ty.T bp) (u l : Int) (hb : a.2.2.2.2.2.2.length <= 1048576) : d242 ((i1, i2, i3, i4, p, g, a, u, l) : Ty.T aa) = true /\ d227 ((i1, i2, i3, i4, p, g, a, u, l) : Ty.T aa) = true /\ Ah ((i1, i2, i3, i4, p, g, a, u, l) : Ty.T aa) = ek ((i1, i2, i3, i4, p, g, a, u, l) : Ty.T aa) := by
  have ha := UA a hb
  simp only [d242, t242, d227, t227, ek, Ah, bx, cJ, nh, qe, UO, La, KC, ha.1, ha.2.1, ha.2.2, nfs]
  generalize wa p = b1
  generalize yU g = b2
  generalize ml a p.1 = b3
  generalize Ao a = b4
  generalize (a.1 == (2 : Int)) = b5
  dsimp only [Ty.T]
  have cc : ∀ (p q r : Bool), cond p q r = true ↔ (p = true /\ q = true) ∨ (p = false /\ r = true) := by decide
  have cf : ∀ (p q r : Bool), cond p q r = false ↔ (p = true /\ q = false) ∨ (p = false /\ r = false) := by decide
  cases b5
  · cases b1 <;> cases b2 <;> cases b3 <;> cases b4 <;> (refine ⟨by simp, by simp, ?_⟩; rw [Bool.eq_iff_iff]; simp [cc, cf] <;> omega)
  · cases b1 <;> cases b2 <;> cases b3 <;> cases b4 <;> (refine ⟨by simp, by simp, ?_⟩; rw [Bool.eq_iff_iff]; simp [cc, cf] <;> omega)
theorem gb (e : Ty.T aa) (hb : e.2.2.2.2.2.2.1.2.2.2.2.2.2.length <= 1048576) : d242 e = true /\ d227 e = true /\ Ah e = ek e := by
  obtain ⟨i1, i2, i3, i4, p, g, a, u, l⟩ := e
  exact LY i1 i2 i3 i4 p g a u l hb
theorem yI {V W : Type} {s1 : V -> Option (Nat × V)} {s2 : W -> Option (Nat × W)} {mk1 : Int -> V} {mk2 : Int -> W} {fin1 : Nat -> V} {fin2 : Nat -> W} {N : Nat}
    (h : ∀ i : Nat, i < N -> (s1 (mk1 (i : Int)) = some (0, mk1 ((i + 1 : Nat) : Int)) /\ s2 (mk2 (i : Int)) = some (0, mk2 ((i + 1 : Nat) : Int))) ∨ (s1 (mk1 (i : Int)) = some (1, fin1 i) /\ s2 (mk2 (i : Int)) = some (1, fin2 i)))
    (e1 : s1 (mk1 (N : Int)) = some (2, mk1 (N : Int))) (e2 : s2 (mk2 (N : Int)) = some (2, mk2 (N : Int))) : ∀ (k i n m : Nat), i + k = N -> k < n -> k < m ->
    (∃ j, iter s1 n (mk1 (i : Int)) = some (0, fin1 j) /\ iter s2 m (mk2 (i : Int)) = some (0, fin2 j)) ∨ (iter s1 n (mk1 (i : Int)) = some (1, mk1 (N : Int)) /\ iter s2 m (mk2 (i : Int)) = some (1, mk2 (N : Int)))
  | 0, i, n, m, hk, hn, hm => by
    obtain ⟨n, rfl⟩ : ∃ x, n = x + 1 := ⟨n - 1, by omega⟩
    obtain ⟨m, rfl⟩ : ∃ x, m = x + 1 := ⟨m - 1, by omega⟩
    have : i = N := by omega
    subst this
    exact .inr ⟨by rw [iter, e1]; rfl, by rw [iter, e2]; rfl⟩
  | k + 1, i, n, m, hk, hn, hm => by
    obtain ⟨n, rfl⟩ : ∃ x, n = x + 1 := ⟨n - 1, by omega⟩
    obtain ⟨m, rfl⟩ : ∃ x, m = x + 1 := ⟨m - 1, by omega⟩
    rcases h i (by omega) with ⟨a, b⟩ | ⟨a, b⟩
    · rw [iter, a, iter, b]
      exact yI h e1 e2 k (i + 1) n m (by omega) (by omega) (by omega)
    · exact .inl ⟨i, by rw [iter, a]; rfl, by rw [iter, b]; rfl⟩
theorem oM (j : Nat) (h : (j : Int) <= 9223372036854775806) : IntKind.wrap .i64 (((j + 1 : Nat) : Int) - 1) = (j : Int) := by rw [bT (by omega) (by omega)]; omega
theorem R9 (a : Int) (b : Int) (c : Int) (d : Int) (e : Int) (f : Int) (g : Int) (h : Int) (p : Int) (q : Int) (r : Int) (s : Bool) (t : Bool) : N8 ((a, b, c, d, e, f, g, h, p, q, r, s, t) : Ty.T y63) = Gd ((a, b, c, d, e, f, g, h, p, q, r, s, t) : Ty.T y63) := by
  simp only [N8, t170, Gd, t240, bx, cJ, nh, qe, v8, Mq, LX, uT]
  dsimp only [Ty.T]
  have cc : ∀ (p q r : Bool), cond p q r = true ↔ (p = true /\ q = true) ∨ (p = false /\ r = true) := by decide
  have cf : ∀ (p q r : Bool), cond p q r = false ↔ (p = true /\ q = false) ∨ (p = false /\ r = false) := by decide
  rw [Bool.eq_iff_iff]; cases s <;> cases t <;> simp [cc, cf, *] <;> omega
theorem D3 (e : Ty.T y63) : N8 e = Gd e := by
  obtain ⟨a, b, c, d, e, f, g, h, p, q, r, s, t⟩ := e
  exact R9 a b c d e f g h p q r s t
theorem Ni (p : Ty.T y63) (h : Gd p = true) : (0 : Int) <= p.2.1 /\ (0 : Int) <= p.2.2.1 := by
  simp only [Gd, t240, bx] at h
  have cc : ∀ (p q r : Bool), cond p q r = true ↔ (p = true /\ q = true) ∨ (p = false /\ r = true) := by decide
  have cf : ∀ (p q r : Bool), cond p q r = false ↔ (p = true /\ q = false) ∨ (p = false /\ r = false) := by decide
  simp [cc, cf] at h
  dsimp only [Ty.T] at h ⊢
  omega
theorem U6 (x m : Int) (hx : 0 <= x) (hm : 0 <= m) (hm2 : m <= 1048576) : cJ x 0 (IntKind.wrap .i64 (m - 1)) = !decide (x ≥ m) := by
  rw [bT (by omega) (by omega)]
  simp only [cJ]
  rw [Bool.eq_iff_iff]
  have cc : ∀ (p q r : Bool), cond p q r = true ↔ (p = true /\ q = true) ∨ (p = false /\ r = true) := by decide
  have cf : ∀ (p q r : Bool), cond p q r = false ↔ (p = true /\ q = false) ∨ (p = false /\ r = false) := by decide
  simp [cc, cf]
  omega
theorem SS (a : Ty.T y36) (hb : a.1.length <= 1048576) (hl : a.2.1.length <= 1048576) : (∃ j : Nat, iter ki (uy (false, 0, a, ())) (false, 0, a, ()) = some (0, (false, (j : Int), a, ())) /\ iter py (Be (false, a.1, ((a.1).length : Int), 0, a, ())) (false, a.1, ((a.1).length : Int), 0, a, ()) = some (0, (false, a.1, ((a.1).length : Int), (j : Int), a, ()))) ∨ (iter ki (uy (false, 0, a, ())) (false, 0, a, ()) = some (1, (false, (a.1.length : Int), a, ())) /\ iter py (Be (false, a.1, ((a.1).length : Int), 0, a, ())) (false, a.1, ((a.1).length : Int), 0, a, ()) = some (1, (false, a.1, ((a.1).length : Int), (a.1.length : Int), a, ()))) := by
  refine yI (s1 := ki) (s2 := py) (mk1 := fun i => (false, i, a, ())) (mk2 := fun i => (false, a.1, ((a.1).length : Int), i, a, ())) (fin1 := fun i => (false, (i : Int), a, ())) (fin2 := fun i => (false, a.1, ((a.1).length : Int), (i : Int), a, ())) (N := a.1.length) (fun i hi => ?_) (by simp [ki, mq]) (by simp [py, vA]) a.1.length 0 _ _ (by omega) (by simp only [uy]; omega) (by simp only [Be]; omega)
  have h1 : a.1[i]? = some a.1[i] := List.getElem?_eq_getElem hi
  have h3 : (i : Int) < (a.1.length : Int) := by omega
  generalize a.1[i] = p at h1
  cases hp : Gd p with
  | false =>
    refine .inr ⟨?_, ?_⟩
    · simp only [ki, mq, decide_eq_true h3, cond_true, if_pos (show (0 : Int) <= (i : Int) by omega), Int.toNat_natCast, h1, ay, hp, Bool.not_false]
    · simp only [py, vA, decide_eq_true h3, cond_true, if_pos (show (0 : Int) <= (i : Int) by omega), Int.toNat_natCast, h1, ay, D3, hp, Bool.not_false]
  | true =>
    have hlow := Ni p hp
    have hs1 := U6 p.2.1 (a.2.1.length : Int) hlow.1 (by omega) (by omega)
    have hs2 := U6 p.2.2.1 (a.2.1.length : Int) hlow.2 (by omega) (by omega)
    have hw := aT (n := i) (by omega)
    match i, hi, h1, h3, hw with
    | 0, hi, h1, h3, hw =>
      simp only [ki, mq, py, vA, pn, decide_eq_true h3, cond_true, if_pos (show (0 : Int) <= ((0 : Nat) : Int) by omega), Int.toNat_natCast, h1, ay, D3, hp, Bool.not_true, cond_false, hs1, hs2, Bool.not_not, decide_eq_false (show ¬ ((0 : Nat) : Int) > 0 by omega), hw]
      cases decide (p.2.1 ≥ (a.2.1.length : Int)) <;> cases decide (p.2.2.1 ≥ (a.2.1.length : Int)) <;> cases decide (p.2.2.2.2.1 > a.2.2.2) <;> first | exact .inl ⟨rfl, rfl⟩ | exact .inr ⟨rfl, rfl⟩
    | j + 1, hi, h1, h3, hw =>
      have h2 : a.1[j]? = some a.1[j] := List.getElem?_eq_getElem (by omega)
      generalize a.1[j] = q at h2
      simp only [ki, mq, py, vA, pn, decide_eq_true h3, cond_true, if_pos (show (0 : Int) <= ((j + 1 : Nat) : Int) by omega), Int.toNat_natCast, h1, h2, ay, D3, hp, Bool.not_true, cond_false, hs1, hs2, Bool.not_not, decide_eq_true (show ((j + 1 : Nat) : Int) > 0 by omega), oM j (by omega), if_pos (show (0 : Int) <= (j : Int) by omega), hw]
      cases decide (q.1 ≥ p.1) <;> cases decide (p.2.1 ≥ (a.2.1.length : Int)) <;> cases decide (p.2.2.1 ≥ (a.2.1.length : Int)) <;> cases decide (p.2.2.2.2.1 > a.2.2.2) <;> first | exact .inl ⟨rfl, rfl⟩ | exact .inr ⟨rfl, rfl⟩
theorem S6 (x y : Int) (t : Bool) : MH ((x, y, t) : Ty.T cy) = !lH ((x, y, t) : Ty.T cy) := by
  simp only [MH, lH, bx, cJ, fD, uT]
  try dsimp only [Ty.T]
  have cc : ∀ (p q r : Bool), cond p q r = true ↔ (p = true /\ q = true) ∨ (p = false /\ r = true) := by decide
  have cf : ∀ (p q r : Bool), cond p q r = false ↔ (p = true /\ q = false) ∨ (p = false /\ r = false) := by decide
  rw [Bool.eq_iff_iff]
  simp [cc, cf]
  omega
theorem WY (s : Ty.T cy) : MH s = !lH s := S6 s.1 s.2.1 s.2.2
theorem MS (a : Ty.T y36) (hb : a.2.1.length <= 1048576) : (a.2.1.any (fun x => !lH x) = true /\ xf false 0 a 0 = true /\ ∃ j : Nat, Jl false 0 a = (false, (j : Int), a, ())) ∨ (a.2.1.any (fun x => !lH x) = false /\ xf false 0 a 0 = false /\ xf false 0 a 1 = true /\ Jl false 0 a = (false, (a.2.1.length : Int), a, ())) := by
  have h := dn (s := tG) (mk := fun i => (false, i, a, ())) (fin := fun i => (false, (i : Int), a, ())) (p := fun i => match a.2.1[i]? with | some x => !lH x | none => false) (N := a.2.1.length) (fun i hi => by
    have h1 := List.getElem?_eq_getElem hi
    simp only [h1]
    skip
    cases ht : (lH a.2.1[i] : Bool) <;> simp [tG, ur, ay, hi, h1, ht,  aT (n := i) (by omega)]) (by simp [tG, ur]) a.2.1.length 0 (xL (false, 0, a, ())) (by omega) (by simp only [xL]; omega)
  have hf := hY (p := fun x => !lH x) (xs := a.2.1) (q := fun i => match a.2.1[i]? with | some x => !lH x | none => false) (fun i x h1 => by simp only [h1])
  revert h hf
  generalize first _ 0 a.2.1.length = o
  intro h hf
  cases o with
  | none => exact .inr ⟨hf.symm, aX h 0, aX h 1, bo h⟩
  | some j => exact .inl ⟨hf.symm, aX h 0, j, bo h⟩
theorem Jk (l : List (Ty.T cy)) (hb : l.length <= 1048576) : (l.any (fun x => !lH x) = true /\ fj l 0 ((l).length : Int) 0 0 = true /\ ∃ j : Nat, rk l 0 ((l).length : Int) 0 = (l, (j : Int), ((l).length : Int), (j : Int), ())) ∨ (l.any (fun x => !lH x) = false /\ fj l 0 ((l).length : Int) 0 0 = false /\ fj l 0 ((l).length : Int) 0 1 = true /\ rk l 0 ((l).length : Int) 0 = (l, 0, ((l).length : Int), (l.length : Int), ())) := by
  have h := dn (s := kQ) (mk := fun i => (l, 0, ((l).length : Int), i, ())) (fin := fun i => (l, (i : Int), ((l).length : Int), (i : Int), ())) (p := fun i => match l[i]? with | some x => !lH x | none => false) (N := l.length) (fun i hi => by
    have h1 := List.getElem?_eq_getElem hi
    simp only [h1]
    skip
    cases ht : (lH l[i] : Bool) <;> simp [kQ, la, ay, hi, h1, ht, WY, aT (n := i) (by omega)]) (by simp [kQ, la]) l.length 0 (oA (l, 0, ((l).length : Int), 0, ())) (by omega) (by simp only [oA]; omega)
  have hf := hY (p := fun x => !lH x) (xs := l) (q := fun i => match l[i]? with | some x => !lH x | none => false) (fun i x h1 => by simp only [h1])
  revert h hf
  generalize first _ 0 l.length = o
  intro h hf
  cases o with
  | none => exact .inr ⟨hf.symm, aX h 0, aX h 1, bo h⟩
  | some j => exact .inl ⟨hf.symm, aX h 0, j, bo h⟩
theorem MC (l : List (Ty.T cy)) (hb : l.length <= 1048576) : yT l = true /\ xH l = l.any (fun x => !lH x) := by
  unfold yT xH tX wF
  rcases Jk l hb with ⟨hB, e0, j, hw⟩ | ⟨hB, e0, e1, hw⟩
  · rw [e0, hw, hB]
    exact ⟨rfl, decide_eq_true (show ((j : Int)) ≥ 0 by omega)⟩
  · rw [e0, e1, hB]
    exact ⟨rfl, rfl⟩
theorem T6 (a : Ty.T y36) (hb : a.1.length <= 1048576) (hl : a.2.1.length <= 1048576) : d155 a = true /\ d56 a = true /\ v56 a = Jd a := by
  have hi := MC a.2.1 hl
  unfold d155 d56 Jd v56 t155 t56
  try simp only [nfs]
  simp only [pn, Mq, cJ, bx]
  rcases SS a hb hl with ⟨j, x1, x2⟩ | ⟨x1, x2⟩
  · have e0 : wT false 0 a 0 = true := aX x1 0
    have f0 : EL false a.1 ((a.1).length : Int) 0 a 0 = true := aX x2 0
    have ew : lM false 0 a = _ := bo x1
    have fw : FP false a.1 ((a.1).length : Int) 0 a = _ := bo x2
    simp only [e0, f0, ew, fw]
    generalize decide ((a.1.length : Int) > (8 : Int)) = b1
    cases b1
    · refine ⟨?_, ?_, ?_⟩ <;> simp
    · exact ⟨rfl, rfl, rfl⟩
  · have e0 : wT false 0 a 0 = false := aX x1 0
    have e1 : wT false 0 a 1 = true := aX x1 1
    have f0 : EL false a.1 ((a.1).length : Int) 0 a 0 = false := aX x2 0
    have f1 : EL false a.1 ((a.1).length : Int) 0 a 1 = true := aX x2 1
    have ew : lM false 0 a = _ := bo x1
    have fw : FP false a.1 ((a.1).length : Int) 0 a = _ := bo x2
    simp only [e0, e1, f0, f1, ew, fw, hi.1, hi.2]
    rcases MS a hl with ⟨hB, y0, k, hw⟩ | ⟨hB, y0, y1, hw⟩
    · simp only [y0, hw, hB]
      generalize decide ((a.1.length : Int) > (8 : Int)) = b1
      cases b1
      · refine ⟨?_, ?_, ?_⟩ <;> simp
      · exact ⟨rfl, rfl, rfl⟩
    · simp only [y0, y1, hw, hB]
      generalize decide ((a.1.length : Int) > (8 : Int)) = b1
      cases b1
      · refine ⟨?_, ?_, ?_⟩ <;> simp
      · exact ⟨rfl, rfl, rfl⟩
theorem JW (l : List (Ty.T aa)) (hb : l.length <= 1048576) (hv : ∀ x ∈ l, x.2.2.2.2.2.2.1.2.2.2.2.2.2.length <= 1048576) : (∃ j : Nat, iter fu (tR (l, false, 0, ())) (l, false, 0, ()) = some (0, (l, false, (j : Int), ())) /\ iter lT (um (l, false, l, ((l).length : Int), 0, ())) (l, false, l, ((l).length : Int), 0, ()) = some (0, (l, false, l, ((l).length : Int), (j : Int), ()))) ∨ (iter fu (tR (l, false, 0, ())) (l, false, 0, ()) = some (1, (l, false, (l.length : Int), ())) /\ iter lT (um (l, false, l, ((l).length : Int), 0, ())) (l, false, l, ((l).length : Int), 0, ()) = some (1, (l, false, l, ((l).length : Int), (l.length : Int), ()))) := by
  refine yI (s1 := fu) (s2 := lT) (mk1 := fun i => (l, false, i, ())) (mk2 := fun i => (l, false, l, ((l).length : Int), i, ())) (fin1 := fun i => (l, false, (i : Int), ())) (fin2 := fun i => (l, false, l, ((l).length : Int), (i : Int), ())) (N := l.length) (fun i hi => ?_) (by simp [fu, lC]) (by simp [lT, qE]) l.length 0 _ _ (by omega) (by simp only [tR]; omega) (by simp only [um]; omega)
  have h1 : l[i]? = some l[i] := List.getElem?_eq_getElem hi
  have h3 : (i : Int) < (l.length : Int) := by omega
  have hq := gb l[i] (hv _ (List.getElem_mem hi))
  generalize l[i] = p at h1 hq
  have hw := aT (n := i) (by omega)
  match i, hi, h1, h3, hw with
  | 0, hi, h1, h3, hw =>
    simp only [fu, lC, lT, qE, decide_eq_true h3, cond_true, if_pos (show (0 : Int) <= ((0 : Nat) : Int) by omega), Int.toNat_natCast, h1, ay, hq.1, hq.2.1, hq.2.2, decide_eq_false (show ¬ ((0 : Nat) : Int) > 0 by omega), cond_false, hw]
    cases ek p <;> first | exact .inl ⟨rfl, rfl⟩ | exact .inr ⟨rfl, rfl⟩
  | j + 1, hi, h1, h3, hw =>
    have h2 : l[j]? = some l[j] := List.getElem?_eq_getElem (by omega)
    generalize l[j] = q at h2
    simp only [fu, lC, lT, qE, decide_eq_true h3, cond_true, if_pos (show (0 : Int) <= ((j + 1 : Nat) : Int) by omega), Int.toNat_natCast, h1, h2, ay, hq.1, hq.2.1, hq.2.2, decide_eq_true (show ((j + 1 : Nat) : Int) > 0 by omega), oM j (by omega), if_pos (show (0 : Int) <= (j : Int) by omega), hw]
    cases ek p <;> cases decide (q.1 ≥ p.1) <;> first | exact .inl ⟨rfl, rfl⟩ | exact .inr ⟨rfl, rfl⟩
theorem TV (l : List (Ty.T aa)) (hb : l.length <= 1048576) (hv : ∀ x ∈ l, x.2.2.2.2.2.2.1.2.2.2.2.2.2.length <= 1048576) : d156 l = true /\ d136 l = true /\ NY l = qL l := by
  unfold d156 d136 qL NY
  rcases JW l hb hv with ⟨j, x1, x2⟩ | ⟨x1, x2⟩
  · have e0 : fP l false 0 0 = true := aX x1 0
    have f0 : ly l false l ((l).length : Int) 0 0 = true := aX x2 0
    have ew : l5 l false 0 = _ := bo x1
    have fw : sX l false l ((l).length : Int) 0 = _ := bo x2
    simp only [e0, f0, ew, fw]
    first | exact ⟨rfl, rfl, rfl⟩ | simp
  · have e0 : fP l false 0 0 = false := aX x1 0
    have e1 : fP l false 0 1 = true := aX x1 1
    have f0 : ly l false l ((l).length : Int) 0 0 = false := aX x2 0
    have f1 : ly l false l ((l).length : Int) 0 1 = true := aX x2 1
    have ew : l5 l false 0 = _ := bo x1
    have fw : sX l false l ((l).length : Int) 0 = _ := bo x2
    simp only [e0, e1, f0, f1, ew, fw]
    first | exact ⟨rfl, rfl, rfl⟩ | simp
theorem ZW (u : List (Ty.T (.int .i64))) (n : Int) (hb : u.length <= 1048576) : d300 u n = true /\ FE u n = (u.any fun x => x == n) := by
  have h := dn (s := sT) (mk := fun i => (u, n, false, i, ())) (fin := fun i => (u, n, true, (i : Int), ())) (p := fun i => match u[i]? with | some x => (x == n) | none => false) (N := u.length) (fun i hi => by
    have h1 := List.getElem?_eq_getElem hi
    simp only [h1]
    skip
    cases ht : ((u[i] : Int) == n) <;> simp [sT, tJ, ay, hi, h1, ht,  aT (n := i) (by omega)]) (by simp [sT, tJ]) u.length 0 (wH (u, n, false, 0, ())) (by omega) (by simp [wH]; omega)
  have hf := hY (p := fun x => (x == n)) (xs := u) (q := fun i => match u[i]? with | some x => (x == n) | none => false) (fun i x h1 => by simp only [h1])
  unfold d300 FE
  revert h hf
  generalize first _ 0 u.length = o
  intro h hf
  cases o with
  | none =>
    have e0 : l7 u n false 0 0 = false := aX h 0
    have e1 : l7 u n false 0 1 = true := aX h 1
    rw [e0, e1, ← hf]
    exact ⟨rfl, rfl⟩
  | some j =>
    have e0 : l7 u n false 0 0 = true := aX h 0
    have hw : Ij u n false 0 = _ := bo h
    rw [e0, hw, ← hf]
    exact ⟨rfl, rfl⟩
theorem ad4 (u : List (Ty.T (.int .i64))) (n : Int) (hb : u.length <= 1048576) : d252 u n = true /\ Mc u n = (match first (fun i => match u[i]? with | some x => (n == x) | none => false) 0 u.length with | some j => (j : Int) | none => -1) := by
  have h := dn (s := tS) (mk := fun i => (u, n, 0, ((u).length : Int), i, ())) (fin := fun i => (u, n, (i : Int), ((u).length : Int), (i : Int), ())) (p := fun i => match u[i]? with | some x => (n == x) | none => false) (N := u.length) (fun i hi => by
    have h1 := List.getElem?_eq_getElem hi
    simp only [h1]
    skip
    cases ht : ((n == (u[i] : Int)) : Bool) <;> simp [tS, tH, ay, hi, h1, ht,  aT (n := i) (by omega)]) (by simp [tS, tH]) u.length 0 (zB (u, n, 0, ((u).length : Int), 0, ())) (by omega) (by simp [zB]; omega)
  unfold d252 Mc
  revert h
  generalize first _ 0 u.length = o
  intro h
  cases o with
  | none =>
    have e0 : ll u n 0 ((u).length : Int) 0 0 = false := aX h 0
    have e1 : ll u n 0 ((u).length : Int) 0 1 = true := aX h 1
    rw [e0, e1]
    exact ⟨rfl, rfl⟩
  | some j =>
    have e0 : ll u n 0 ((u).length : Int) 0 0 = true := aX h 0
    have hw : Ip u n 0 ((u).length : Int) 0 = _ := bo h
    rw [e0, hw]
    exact ⟨rfl, rfl⟩
theorem YJ (u : List (Ty.T (.int .i64))) (n : Int) (hb : u.length <= 1048576) : d75 u n = true /\ v75 u n = u.any fun x => x == n := by
  have h := ad4 u n hb
  have e : (first (fun i => match u[i]? with | some x => n == x | none => false) 0 u.length).isSome = u.any fun x => n == x := hY (fun i x h => by simp only [h])
  have e2 : (u.any fun x => n == x) = u.any fun x => x == n := by congr 1; funext x; exact Bool.beq_comm
  unfold d75 v75 d181 Nt
  rw [h.1, h.2, ← e2, ← e]
  cases first (fun i => match u[i]? with | some x => n == x | none => false) 0 u.length with
  | none => exact ⟨by simp, by simp⟩
  | some j => exact ⟨by simp, by simp⟩
theorem Nc (l : List (Ty.T y27)) (hb : l.length <= 1048576) : d177 l = true := decide_eq_true (show List.length l * _ <= _ by omega)
theorem K7 (l : List (Ty.T (.int .i64))) (hb : l.length <= 1048576) : d135 l = true := decide_eq_true (show List.length l * _ <= _ by omega)
theorem cpI (e : Ty.T aa) (hb : e.2.2.2.2.2.2.1.2.2.2.2.2.2.length <= 1048576) : d226 e = true /\ cr e = ((e.1, e.2.1, e.2.2.1, e.2.2.2.1, e.2.2.2.2.1, e.2.2.2.2.2.1, e.2.2.2.2.2.2.1.1, e.2.2.2.2.2.2.1.2.1, e.2.2.2.2.2.2.1.2.2.1, e.2.2.2.2.2.2.1.2.2.2.1, e.2.2.2.2.2.2.1.2.2.2.2.1, e.2.2.2.2.2.2.1.2.2.2.2.2.1), e.2.2.2.2.2.2.2, e.2.2.2.2.2.2.1.2.2.2.2.2.2) := by
  have h := Nc _ hb
  unfold d226 cr t226
  try simp only [nfs]
  rw [h]
  exact ⟨rfl, rfl⟩
theorem cpS (e : Ty.T aa) (hb : e.2.2.2.2.2.2.1.2.2.2.2.2.2.length <= 1048576) : d238 e = true /\ cN e = ((e.1, e.2.1, e.2.2.1, e.2.2.2.1, e.2.2.2.2.1, e.2.2.2.2.2.1, e.2.2.2.2.2.2.1.1, e.2.2.2.2.2.2.1.2.1, e.2.2.2.2.2.2.1.2.2.1, e.2.2.2.2.2.2.1.2.2.2.1, e.2.2.2.2.2.2.1.2.2.2.2.1, e.2.2.2.2.2.2.1.2.2.2.2.2.1), e.2.2.2.2.2.2.2, e.2.2.2.2.2.2.1.2.2.2.2.2.2) := by
  have h : d296 e.2.2.2.2.2.2.1 = true := by
    unfold d296
    simp only [List.nil_append, Bool.and_true]
    exact decide_eq_true (by omega)
  unfold d238 cN t238
  try simp only [nfs]
  rw [h]
  exact ⟨rfl, rfl⟩
theorem ctI (l : List (Ty.T aa)) (hb : l.length <= 1048576) (hv : ∀ x ∈ l, x.2.2.2.2.2.2.1.2.2.2.2.2.2.length <= 1048576) : d134 l = true /\ nT l = l := by
  have h := dJ (s := vm) (f := fun i => ([], l, ((l).length : Int), (i : Int), l.take i, ())) (c := 0) (N := l.length) (v' := ([], l, ((l).length : Int), (l.length : Int), l.take l.length, ())) (fun i hi => by
    have h1 : l[i]? = some l[i] := List.getElem?_eq_getElem hi
    have hw := aT (n := i) (by omega)
    have hc := cpI l[i] (hv _ (List.getElem_mem hi))
    have hz : ∀ x : Ty.T aa, (l.take i ++ [x]).length * 192 <= 140737488351232 := fun x => by simp only [List.length_append, List.length_cons, List.length_nil, List.length_take]; omega
    rw [dU h1]
    simp only [vm, tP, decide_eq_true (show (i : Int) < (l.length : Int) by omega), cond_true, if_pos (show (0 : Int) <= (i : Int) by omega), Int.toNat_natCast, h1, ay, hw, hc.1, hc.2, if_pos (hz _)] <;> rfl) (by simp [vm, tP]) l.length 0 (xp ([], l, ((l).length : Int), 0, [], ())) (by omega) (by simp only [xp]; omega)
  have hk : Eh [] l ((l).length : Int) 0 [] 0 = true := aX h 0
  have hw : Kp [] l ((l).length : Int) 0 [] = _ := bo h
  unfold d134 nT
  rw [hk, hw]
  exact ⟨rfl, by simp⟩
theorem ctS (l : List (Ty.T aa)) (hb : l.length <= 1048576) (hv : ∀ x ∈ l, x.2.2.2.2.2.2.1.2.2.2.2.2.2.length <= 1048576) : d154 l = true /\ kT l = l := by
  have h := dJ (s := sU) (f := fun i => (l, [], (i : Int), l.take i, ())) (c := 0) (N := l.length) (v' := (l, [], (l.length : Int), l.take l.length, ())) (fun i hi => by
    have h1 : l[i]? = some l[i] := List.getElem?_eq_getElem hi
    have hw := aT (n := i) (by omega)
    have hc := cpS l[i] (hv _ (List.getElem_mem hi))
    have hz : ∀ x : Ty.T aa, (l.take i ++ [x]).length * 192 <= 140737488351232 := fun x => by simp only [List.length_append, List.length_cons, List.length_nil, List.length_take]; omega
    rw [dU h1]
    simp only [sU, uD, decide_eq_true (show (i : Int) < (l.length : Int) by omega), cond_true, if_pos (show (0 : Int) <= (i : Int) by omega), Int.toNat_natCast, h1, ay, hw, hc.1, hc.2, if_pos (hz _)] <;> rfl) (by simp [sU, uD]) l.length 0 (xW (l, [], 0, [], ())) (by omega) (by simp only [xW]; omega)
  have hk : CR l [] 0 [] 0 = true := aX h 0
  have hw : Js l [] 0 [] = _ := bo h
  unfold d154 kT
  rw [hk, hw]
  exact ⟨rfl, by simp⟩
theorem cuI (l : List (Ty.T y66)) (hb : l.length <= 1048576) (hv : ∀ x ∈ l, x.2.2.2.2.2.1.length <= 1048576) : d141 l = true /\ Ph l = l := by
  have h := dJ (s := tl) (f := fun i => ([], l, ((l).length : Int), (i : Int), l.take i, ())) (c := 0) (N := l.length) (v' := ([], l, ((l).length : Int), (l.length : Int), l.take l.length, ())) (fun i hi => by
    have h1 : l[i]? = some l[i] := List.getElem?_eq_getElem hi
    have hw := aT (n := i) (by omega)
    have hc := Nc _ (hv _ (List.getElem_mem hi))
    have hz : ∀ x : Ty.T y66, (l.take i ++ [x]).length * 128 <= 140737488351232 := fun x => by simp only [List.length_append, List.length_cons, List.length_nil, List.length_take]; omega
    rw [dU h1]
    simp only [tl, tV, decide_eq_true (show (i : Int) < (l.length : Int) by omega), cond_true, if_pos (show (0 : Int) <= (i : Int) by omega), Int.toNat_natCast, h1, ay, hw, hc, wD, if_pos (hz _)] <;> rfl) (by simp [tl, tV]) l.length 0 (yz ([], l, ((l).length : Int), 0, [], ())) (by omega) (by simp only [yz]; omega)
  have hk : DL [] l ((l).length : Int) 0 [] 0 = true := aX h 0
  have hw : IE [] l ((l).length : Int) 0 [] = _ := bo h
  unfold d141 Ph
  rw [hk, hw]
  exact ⟨rfl, by simp⟩
theorem pa (s : Ty.T y36) (id : Int) (hb : s.1.length <= 1048576) : d279 s id = true /\ lX s id = (match first (fun i => match s.1[i]? with | some x => (x.1 == id) | none => false) 0 s.1.length with | some j => (j : Int) | none => -1) := by
  have h := dn (s := sW) (mk := fun i => (id, 0, i, s, ())) (fin := fun i => (id, (i : Int), (i : Int), s, ())) (p := fun i => match s.1[i]? with | some x => (x.1 == id) | none => false) (N := s.1.length) (fun i hi => by
    have h1 := List.getElem?_eq_getElem hi
    simp only [h1]
    skip
    cases ht : (((s.1[i]).1 == id) : Bool) <;> simp [sW, vg, ay, hi, h1, ht,  aT (n := i) (by omega)]) (by simp [sW, vg]) s.1.length 0 (yn (id, 0, 0, s, ())) (by omega) (by simp [yn]; omega)
  unfold d279 lX
  revert h
  generalize first _ 0 s.1.length = o
  intro h
  cases o with
  | none =>
    have e0 : lx id 0 0 s 0 = false := aX h 0
    have e1 : lx id 0 0 s 1 = true := aX h 1
    rw [e0, e1]
    exact ⟨rfl, rfl⟩
  | some j =>
    have e0 : lx id 0 0 s 0 = true := aX h 0
    have hw : HZ id 0 0 s = _ := bo h
    rw [e0, hw]
    exact ⟨rfl, rfl⟩
theorem ia (s : List (Ty.T y63)) (id : Int) (hb : s.length <= 1048576) : pZ s id = true /\ uL s id = (match first (fun i => match s[i]? with | some x => (x.1 == id) | none => false) 0 s.length with | some j => (j : Int) | none => -1) := by
  have h := dn (s := kC) (mk := fun i => (s, id, 0, ((s).length : Int), i, ())) (fin := fun i => (s, id, (i : Int), ((s).length : Int), (i : Int), ())) (p := fun i => match s[i]? with | some x => (x.1 == id) | none => false) (N := s.length) (fun i hi => by
    have h1 := List.getElem?_eq_getElem hi
    simp only [h1]
    skip
    cases ht : (((s[i]).1 == id) : Bool) <;> simp [kC, lk, ay, hi, h1, ht, D5, aT (n := i) (by omega)]) (by simp [kC, lk]) s.length 0 (nf (s, id, 0, ((s).length : Int), 0, ())) (by omega) (by simp [nf]; omega)
  unfold pZ uL
  revert h
  generalize first _ 0 s.length = o
  intro h
  cases o with
  | none =>
    have e0 : eZ s id 0 ((s).length : Int) 0 0 = false := aX h 0
    have e1 : eZ s id 0 ((s).length : Int) 0 1 = true := aX h 1
    rw [e0, e1]
    exact ⟨rfl, rfl⟩
  | some j =>
    have e0 : eZ s id 0 ((s).length : Int) 0 0 = true := aX h 0
    have hw : Ae s id 0 ((s).length : Int) 0 = _ := bo h
    rw [e0, hw]
    exact ⟨rfl, rfl⟩
theorem pi (s : Ty.T y36) (id : Int) (hb : s.1.length <= 1048576) : d326 s id = true /\ qu s id = lX s id := by
  have h1 := pa s id hb
  have h2 := ia s.1 id hb
  unfold d326 qu
  rw [h2.1, h2.2, h1.2]
  exact ⟨rfl, rfl⟩
theorem paR (s : Ty.T y36) (id : Int) (hb : s.1.length <= 1048576) : lX s id < 0 ∨ (0 <= lX s id /\ ∃ p, s.1[(lX s id).toNat]? = some p /\ p.1 = id) := by
  rw [(pa s id hb).2]
  cases h : first (fun i => match s.1[i]? with | some x => (x.1 == id) | none => false) 0 s.1.length with
  | none => exact .inl (by decide)
  | some j =>
    obtain ⟨_, hj, hp⟩ := fO h
    have e : s.1[j]? = some s.1[j] := List.getElem?_eq_getElem (by omega)
    refine .inr ⟨by show (0 : Int) <= (j : Int); omega, s.1[j], by show s.1[((j : Nat) : Int).toNat]? = _; rw [Int.toNat_natCast]; exact e, ?_⟩
    simp only [e] at hp
    exact eq_of_beq hp
theorem src (s : Ty.T y36) (e : Ty.T y27) (hb : s.1.length <= 1048576) : d315 s e = true /\ d329 s e = true /\ Kh s e = IB s e := by
  have h1 := pa s e.2.1 hb
  have h2 := pi s e.2.1 hb
  have key : d315 s e = true := by
    unfold d315 Gm
    try simp only [nfs]
    rw [h1.1]
    rcases paR s e.2.1 hb with h | ⟨h, p, hp, _⟩
    · cases (e.1 != (1 : Int)) <;> simp [h]
    · cases (e.1 != (1 : Int)) <;> simp [hp, pq, h]
  refine ⟨key, ?_, ?_⟩
  · rw [← key]
    unfold d315 d329 Gm Ib
    try simp only [nfs]
    rw [h1.1, h2.1, h2.2]
  · unfold IB Kh Gm Ib
    try simp only [nfs]
    rw [h1.1, h2.1, h2.2]
theorem Sf (s : Ty.T y36) (x : Int) : pn s x = bx x 0 (IntKind.wrap .i64 (((s.2.1).length : Int) - (1 : Int))) := by
  simp only [pn, bx, cJ]
theorem tgt (s : Ty.T y36) (e : Ty.T y27) (hb : s.1.length <= 1048576) : d270 s e = true /\ d292 s e = true /\ tg s e = sB s e := by
  have h1 := pa s e.2.2.1 hb
  have h2 := pi s e.2.2.1 hb
  unfold d270 d292 sB tg
  rw [h1.1, h2.1, h2.2, Sf]
  cases (e.2.2.1 == (0 : Int))
  · rcases paR s e.2.2.1 hb with h | ⟨h, p, hp, _⟩
    · simp [h]
    · simp [hp, pq, h]
  · cases bx e.2.2.2.1 0 (IntKind.wrap .i64 (((s.2.1).length : Int) - (1 : Int))) <;> exact ⟨rfl, rfl, rfl⟩
theorem agD (s : Ty.T y36) (x : Int) (p : Ty.T bS) (e : Ty.T y27) (hb : s.1.length <= 1048576) : d333 s x p e = true /\ d304 s x p e = true /\ LI s x p e = MB s x p e := by
  have h := tgt s e hb
  unfold d333 d304 MB LI Iz t304
  try simp only [nfs]
  rw [h.1, h.2.1, h.2.2]
  refine ⟨?_, ?_, rfl⟩ <;> simp
theorem aeE (s : Ty.T y36) (p : Ty.T bS) (e : Ty.T y27) (hb : s.1.length <= 1048576) : d334 s p e = true /\ d305 s p e = true /\ Ie s p e = Jg s p e := by
  have h := src s e hb
  unfold d334 d305 Jg Ie
  rw [h.1, h.2.1, h.2.2]
  refine ⟨?_, ?_, rfl⟩ <;> simp
theorem ait (s : Ty.T y36) (x : Int) (p : Ty.T bS) (e : Ty.T y27) (hb : s.1.length <= 1048576) : d312 s x p e = true /\ d256 s x p e = true /\ MM s x p e = MG s x p e := by
  have h1 := agD s x p e hb
  have h2 := aeE s p e hb
  unfold d312 d256 MG MM
  rw [h1.1, h1.2.1, h1.2.2, h2.1, h2.2.1, h2.2.2, UO, Ot]
  refine ⟨?_, ?_, rfl⟩ <;> simp
theorem gone (e : Ty.T y27) : v54 e = rJ e := rfl
theorem abV (e : Ty.T aa) (t : Int) : LS e t = Fi e t := rfl
theorem adk (e : Ty.T aa) (v : Ty.T y27) : Mo e v = M7 e v := rfl
theorem Sw (s : Ty.T y36) (e : Ty.T y27) (hb : s.1.length <= 1048576) : d213 s e = true /\ d230 s e = true /\ NV s e = Di s e := by
  have h := tgt s e hb
  unfold d213 d230 Di NV
  rw [h.1, h.2.1, h.2.2]
  cases hc : (sB s e == (-1 : Int)) <;> simp [bne, hc]
def Fj (side : Int) (k : Int) (x : Ty.T y63) : Int := cond (x.2.2.2.1 == (2 : Int)) (cond (x.2.2.1 == side) (IntKind.wrap .i64 (k + 1)) k) k
def BV (side : Int) (k : Int) (x : Ty.T y63) : Int := cond (x.2.2.2.1 == (2 : Int)) (cond (x.2.2.1 == side) (cond x.2.2.2.2.2.2.2.2.2.2.2.2 (IntKind.wrap .i64 (k + 1)) k) k) k
theorem acw (s : Ty.T y36) (side : Int) (hb : s.1.length <= 1048576) : d331 s side = true /\ OK s side = s.1.foldl (Fj side) 0 := by
  have h := fold_iter (s := uJ) (mk := fun (k : Int) i => (side, 0, k, i, s, ())) (xs := s.1) (f := (Fj side)) (Inv := fun _ _ => True) (fun i x k hx hI => by
    obtain ⟨hi, rfl⟩ := List.getElem?_eq_some_iff.1 hx
    refine ⟨?_, trivial⟩
    skip
    cases c1 : ((s.1[i]).2.2.2.1 == (2 : Int)) <;> cases c2 : ((s.1[i]).2.2.1 == side) <;> cases c3 : (s.1[i]).2.2.2.2.2.2.2.2.2.2.2.2 <;> simp [uJ, vf, ay, hi, Fj, c1, c2, c3, aT (n := i) (by omega)]) (fun k => by simp [uJ, vf]) s.1.length 0 0 (zC (side, 0, 0, 0, s, ())) (by omega) (by simp [zC]; omega) trivial
  have hk : DA side 0 0 0 s 0 = true := aX h 0
  have hw : I8 side 0 0 0 s = _ := bo h
  unfold d331 OK
  rw [hk, hw]
  exact ⟨rfl, rfl⟩
theorem YQ (s : Ty.T y36) (side : Int) (hb : s.1.length <= 1048576) : d332 s side = true /\ RU s side = s.1.foldl (BV side) 0 := by
  have h := fold_iter (s := uO) (mk := fun (k : Int) i => (side, 0, k, i, s, ())) (xs := s.1) (f := (BV side)) (Inv := fun _ _ => True) (fun i x k hx hI => by
    obtain ⟨hi, rfl⟩ := List.getElem?_eq_some_iff.1 hx
    refine ⟨?_, trivial⟩
    skip
    cases c1 : ((s.1[i]).2.2.2.1 == (2 : Int)) <;> cases c2 : ((s.1[i]).2.2.1 == side) <;> cases c3 : (s.1[i]).2.2.2.2.2.2.2.2.2.2.2.2 <;> simp [uO, uN, ay, hi, BV, c1, c2, c3, aT (n := i) (by omega)]) (fun k => by simp [uO, uN]) s.1.length 0 0 (zj (side, 0, 0, 0, s, ())) (by omega) (by simp [zj]; omega) trivial
  have hk : D8 side 0 0 0 s 0 = true := aX h 0
  have hw : Jy side 0 0 0 s = _ := bo h
  unfold d332 RU
  rw [hk, hw]
  exact ⟨rfl, rfl⟩
theorem acU (s : Ty.T y36) (side : Int) (hb : s.1.length <= 1048576) : d303 s side = true /\ MN s side = s.1.foldl (BV side) 0 := by
  have h := fold_iter (s := vn) (mk := fun (k : Int) i => (side, 0, k, s.1, ((s.1).length : Int), i, ())) (xs := s.1) (f := (BV side)) (Inv := fun _ _ => True) (fun i x k hx hI => by
    obtain ⟨hi, rfl⟩ := List.getElem?_eq_some_iff.1 hx
    refine ⟨?_, trivial⟩
    skip
    cases c1 : ((s.1[i]).2.2.2.1 == (2 : Int)) <;> cases c2 : ((s.1[i]).2.2.1 == side) <;> cases c3 : (s.1[i]).2.2.2.2.2.2.2.2.2.2.2.2 <;> simp [vn, tq, ay, hi, BV, c1, c2, c3, aT (n := i) (by omega)]) (fun k => by simp [vn, tq]) s.1.length 0 0 (yl (side, 0, 0, s.1, ((s.1).length : Int), 0, ())) (by omega) (by simp [yl]; omega) trivial
  have hk : DU side 0 0 s.1 ((s.1).length : Int) 0 0 = true := aX h 0
  have hw : Jw side 0 0 s.1 ((s.1).length : Int) 0 = _ := bo h
  unfold d303 MN
  rw [hk, hw]
  exact ⟨rfl, rfl⟩
theorem LP (side : Int) (l : List (Ty.T y63)) : ∀ k : Int, 0 <= k -> k + l.length <= 9223372036854775807 -> l.foldl (Fj side) k = k + (((l.filter fun x => (x.2.2.2.1 == (2 : Int)) && (x.2.2.1 == side)).length : Nat) : Int) := by
  induction l with
  | nil => intro k _ _; simp
  | cons x l ih =>
    intro k h0 hk
    simp only [List.length_cons] at hk
    have e : IntKind.wrap .i64 (k + 1) = k + 1 := bT (by omega) (by omega)
    simp only [List.foldl_cons, Fj, List.filter_cons, e]
    cases c1 : (x.2.2.2.1 == (2 : Int)) <;> cases c2 : (x.2.2.1 == side) <;> simp only [cond_true, cond_false, Bool.and_true, Bool.and_false, if_true, Bool.false_eq_true, if_false, List.length_cons]
    · exact ih k h0 (by omega)
    · exact ih k h0 (by omega)
    · exact ih k h0 (by omega)
    · rw [ih (k + 1) (by omega) (by omega)]; omega
theorem onF (s : Ty.T y36) (side : Int) (hs : ¬ side = -1) (hb : s.1.length <= 1048576) : d302 s side = true /\ M0 s side = (s.1.filter fun x => (x.2.2.2.1 == (2 : Int)) && (x.2.2.1 == side)).map (·.1) := by
  have h := dJ (s := vp) (f := fun i => (side, [], s.1, ((s.1).length : Int), (i : Int), ((s.1.take i).filter fun x => (x.2.2.2.1 == (2 : Int)) && (x.2.2.1 == side)).map (·.1), ())) (c := 0) (N := s.1.length) (v' := (side, [], s.1, ((s.1).length : Int), (s.1.length : Int), ((s.1.take s.1.length).filter fun x => (x.2.2.2.1 == (2 : Int)) && (x.2.2.1 == side)).map (·.1), ())) (fun i hi => by
    have h1 : s.1[i]? = some s.1[i] := List.getElem?_eq_getElem hi
    have hw := aT (n := i) (by omega)
    have hn : (side == (-1 : Int)) = false := by simpa using hs
    have hz : ∀ x : Int, (@HAppend.hAppend (List Int) (List Int) (List Int) _ (((s.1.take i).filter fun x => (x.2.2.2.1 == (2 : Int)) && (x.2.2.1 == side)).map (·.1)) [x]).length * 8 <= 140737488351232 := fun x => by
      have := List.length_filter_le (fun x : Ty.T y63 => (x.2.2.2.1 == (2 : Int)) && (x.2.2.1 == side)) (s.1.take i)
      simp only [List.length_append, List.length_cons, List.length_nil, List.length_map, List.length_take] at this ⊢
      omega
    rw [dL h1]
    cases c1 : ((s.1[i]).2.2.2.1 == (2 : Int)) <;> cases c2 : ((s.1[i]).2.2.1 == side) <;> simp only [vp, uM, decide_eq_true (show (i : Int) < (s.1.length : Int) by omega), cond_true, cond_false, if_pos (show (0 : Int) <= (i : Int) by omega), Int.toNat_natCast, h1, ay, hw, hn, c1, c2, Bool.and_true, Bool.and_false, if_pos (hz _), List.append_nil, List.map_append, List.map_cons, List.map_nil] <;> rfl) (by simp [vp, uM]) s.1.length 0 (wV (side, [], s.1, ((s.1).length : Int), 0, [], ())) (by omega) (by simp only [wV]; omega)
  have hk : Dz side [] s.1 ((s.1).length : Int) 0 [] 0 = true := aX h 0
  have hw : Io side [] s.1 ((s.1).length : Int) 0 [] = _ := bo h
  unfold d302 M0
  rw [hk, hw]
  exact ⟨rfl, by simp⟩
theorem holds (s : Ty.T y36) (x : Int) (g : Ty.T a9) (hb : s.1.length <= 1048576) (hl : s.2.1.length <= 1048576) : d311 s x g = true /\ d255 s x g = true /\ Il s x g = M5 s x g := by
  have h1 := acw s x hb
  have h2 := YQ s x hb
  have h3 := acU s x hb
  unfold d311 d255 M5 Il t311
  try simp only [nfs]
  rw [La, Sf, h1.1, h1.2, h2.1, h2.2, h3.1, h3.2]
  cases yU g
  · exact ⟨rfl, rfl, rfl⟩
  · cases hS : bx x 0 (IntKind.wrap .i64 (((s.2.1).length : Int) - (1 : Int)))
    · exact ⟨rfl, rfl, rfl⟩
    · rw [bT (by omega) (by omega)] at hS
      simp only [bx] at hS
      have cc : ∀ (p q r : Bool), cond p q r = true ↔ (p = true /\ q = true) ∨ (p = false /\ r = true) := by decide
      have cf : ∀ (p q r : Bool), cond p q r = false ↔ (p = true /\ q = false) ∨ (p = false /\ r = false) := by decide
      simp [cc, cf] at hS
      have h0 : 0 <= x := hS.1
      have hx : ∃ y, s.2.1[x.toNat]? = some y := ⟨s.2.1[x.toNat]'(by omega), List.getElem?_eq_getElem _⟩
      obtain ⟨y, hy⟩ := hx
      have h4 := onF s x (by omega) hb
      have h5 := LP x s.1 0 (by omega) (by omega)
      rw [h4.1, h4.2, hy, h5]
      simp only [pq, rR, h0, decide_true, Bool.true_and, Bool.not_true, cond_false, cond_true, List.length_map, Int.zero_add]
      refine ⟨?_, ?_, rfl⟩ <;> simp
theorem bound (a : Int) : fD a = fF a := by
  unfold fD fF
  by_cases h1 : (2147483647 : Int) < a <;> by_cases h2 : a < (-2147483647 : Int) <;> simp only [h1, h2, gt_iff_lt, decide_true, decide_false, if_true, if_false, cond_true, cond_false] <;> (try split) <;> omega
theorem jm (a b : Int) : kP a b = ey a b := by
  unfold kP ey
  by_cases h1 : b < a <;> simp only [h1, gt_iff_lt, decide_true, decide_false, if_true, if_false, cond_true, cond_false]
  · by_cases h2 : b < 0 <;> simp only [h2, decide_true, decide_false, cond_true, cond_false] <;> split <;> omega
  · by_cases h2 : a < 0 <;> simp only [h2, decide_true, decide_false, cond_true, cond_false] <;> split <;> omega
theorem plus (a b : Int) : Mz a b = Md a b := by unfold Mz Md; simp only [bound]
theorem less (a b : Int) : QD a b = Am a b := by unfold QD Am; simp only [bound]
theorem acj (a : Int) : Mn a = Ma a := by unfold Mn Ma; simp only [bound]
theorem half (a : Int) : Mb a = LU a := by unfold Mb LU; simp only [bound]
theorem pt (e : Ty.T y27) (n : Int) : HQ e n = DJ e n := by unfold HQ DJ; rw [jm]
theorem ke (a : Ty.T bp) (n : Int) : Jq a n = Ju a n := by unfold Jq Ju; simp only [jm, plus, acj, half]
noncomputable def pE (e x : Ty.T y27) : Ty.T y27 := cond (x.2.2.2.2.1 == (-1 : Int)) (x.1, x.2.1, x.2.2.1, x.2.2.2.1, ey e.2.2.2.2.1 2147483647, x.2.2.2.2.2) x
theorem QW (a : Ty.T bp) (h : ¬ a.1 = 9) (e : Ty.T y27) : d273 a e = true /\ Ei a e = [] := by
  have hb : (a.1 == (9 : Int)) = false := by simpa using h
  have h : iter l8 (lB ([], 0, a, e, [], ())) ([], 0, a, e, [], ()) = some (0, ([], 0, a, e, [], ())) := by
    rw [show lB ([], 0, a, e, [], ()) = (lB ([], 0, a, e, [], ()) - 1) + 1 by simp only [lB]; omega]
    have : l8 ([], 0, a, e, [], ()) = some (1, ([], 0, a, e, [], ())) := by
      simp only [l8, pP, hb, cond_false]
      cases decide ((0 : Int) < (a.2.2.2.2.2.2.length : Int)) <;> rfl
    rw [iter, this]
    rfl
  have hk : w6 [] 0 a e [] 0 = true := aX h 0
  have hw : Ec [] 0 a e [] = _ := bo h
  unfold d273 Ei
  rw [hk, hw]
  exact ⟨rfl, rfl⟩
theorem Va (a : Ty.T bp) (h9 : a.1 = 9) (e : Ty.T y27) (hb : a.2.2.2.2.2.2.length <= 1048576) : d273 a e = true /\ Ei a e = a.2.2.2.2.2.2.map (pE e) := by
  have h := dJ (s := l8) (f := fun i => ([], (i : Int), a, e, (a.2.2.2.2.2.2.take i).map (pE e), ())) (c := 0) (N := a.2.2.2.2.2.2.length) (v' := ([], (a.2.2.2.2.2.2.length : Int), a, e, (a.2.2.2.2.2.2.take a.2.2.2.2.2.2.length).map (pE e), ())) (fun i hi => by
    have h1 : a.2.2.2.2.2.2[i]? = some a.2.2.2.2.2.2[i] := List.getElem?_eq_getElem hi
    have hw := aT (n := i) (by omega)
    have hz : ∀ x : Ty.T y27, (@HAppend.hAppend (List (Ty.T y27)) (List (Ty.T y27)) (List (Ty.T y27)) _ ((a.2.2.2.2.2.2.take i).map (pE e)) [x]).length * 56 <= 140737488351232 := fun x => by
      simp only [List.length_append, List.length_cons, List.length_nil, List.length_map, List.length_take]
      omega
    rw [dU h1, List.map_append, List.map_cons, List.map_nil]
    cases c1 : ((a.2.2.2.2.2.2[i]).2.2.2.2.1 == (-1 : Int)) <;> simp only [l8, pP, decide_eq_true (show (i : Int) < (a.2.2.2.2.2.2.length : Int) by omega), cond_true, cond_false, if_pos (show (0 : Int) <= (i : Int) by omega), Int.toNat_natCast, h1, ay, hw, c1, h9, beq_self_eq_true, if_pos (hz _), pE] <;> rfl) (by simp [l8, pP]) a.2.2.2.2.2.2.length 0 (lB ([], 0, a, e, [], ())) (by omega) (by simp only [lB]; omega)
  have hk : w6 [] 0 a e [] 0 = true := aX h 0
  have hw : Ec [] 0 a e [] = _ := bo h
  unfold d273 Ei
  rw [hk, hw]
  exact ⟨rfl, by simp⟩
theorem Yk (a : Ty.T bp) (h : ¬ a.1 = 9) (e : Ty.T y27) : d325 a e = true /\ Al a e = [] := by
  have hb : (a.1 != (9 : Int)) = true := by simpa using h
  unfold d325 Al
  rw [hb]
  exact ⟨rfl, rfl⟩
theorem abl (a : Ty.T bp) (h9 : a.1 = 9) (e : Ty.T y27) (hb : a.2.2.2.2.2.2.length <= 1048576) : d325 a e = true /\ Al a e = a.2.2.2.2.2.2.map (pE e) := by
  have hb9 : (a.1 != (9 : Int)) = false := by rw [h9]; rfl
  have h := dJ (s := ta) (f := fun i => ([], a.2.2.2.2.2.2, ((a.2.2.2.2.2.2).length : Int), (i : Int), e, (a.2.2.2.2.2.2.take i).map (pE e), ())) (c := 0) (N := a.2.2.2.2.2.2.length) (v' := ([], a.2.2.2.2.2.2, ((a.2.2.2.2.2.2).length : Int), (a.2.2.2.2.2.2.length : Int), e, (a.2.2.2.2.2.2.take a.2.2.2.2.2.2.length).map (pE e), ())) (fun i hi => by
    have h1 : a.2.2.2.2.2.2[i]? = some a.2.2.2.2.2.2[i] := List.getElem?_eq_getElem hi
    have hw := aT (n := i) (by omega)
    have hz : ∀ x : Ty.T y27, (@HAppend.hAppend (List (Ty.T y27)) (List (Ty.T y27)) (List (Ty.T y27)) _ ((a.2.2.2.2.2.2.take i).map (pE e)) [x]).length * 56 <= 140737488351232 := fun x => by
      simp only [List.length_append, List.length_cons, List.length_nil, List.length_map, List.length_take]
      omega
    rw [dU h1, List.map_append, List.map_cons, List.map_nil]
    cases c1 : ((a.2.2.2.2.2.2[i]).2.2.2.2.1 == (-1 : Int)) <;> simp only [ta, tZ, decide_eq_true (show (i : Int) < (a.2.2.2.2.2.2.length : Int) by omega), cond_true, cond_false, if_pos (show (0 : Int) <= (i : Int) by omega), Int.toNat_natCast, h1, ay, hw, c1, jm, if_pos (hz _), pE] <;> rfl) (by simp [ta, tZ]) a.2.2.2.2.2.2.length 0 (xQ ([], a.2.2.2.2.2.2, ((a.2.2.2.2.2.2).length : Int), 0, e, [], ())) (by omega) (by simp only [xQ]; omega)
  have hk : DT [] a.2.2.2.2.2.2 ((a.2.2.2.2.2.2).length : Int) 0 e [] 0 = true := aX h 0
  have hw : IM [] a.2.2.2.2.2.2 ((a.2.2.2.2.2.2).length : Int) 0 e [] = _ := bo h
  unfold d325 Al
  rw [hk, hw]
  rw [hb9]
  exact ⟨rfl, by simp⟩
theorem parts (a : Ty.T bp) (e : Ty.T y27) (hb : a.2.2.2.2.2.2.length <= 1048576) : d273 a e = true /\ d325 a e = true /\ Al a e = Ei a e := by
  by_cases h : a.1 = 9
  · have h1 := Va a h e hb
    have h2 := abl a h e hb
    exact ⟨h1.1, h2.1, by rw [h1.2, h2.2]⟩
  · have h1 := QW a h e
    have h2 := Yk a h e
    exact ⟨h1.1, h2.1, by rw [h1.2, h2.2]⟩
theorem GY (a : Ty.T bp) (e : Ty.T y27) (hb : a.2.2.2.2.2.2.length <= 1048576) : (Ei a e).length <= a.2.2.2.2.2.2.length := by
  by_cases h : a.1 = 9
  · rw [(Va a h e hb).2]; simp
  · rw [(QW a h e).2]; simp
theorem fits (s : Ty.T y36) (x : Ty.T aa) (e : Ty.T y27) (hb : s.1.length <= 1048576) (hl : s.2.1.length <= 1048576) (hv : x.2.2.2.2.2.2.1.2.2.2.2.2.2.length <= 1048576) : d269 s x e = true /\ d182 s x e = true /\ Oc s x e = gU s x e := by
  have h1 := gb x hv
  have h2 := holds s x.2.1 x.2.2.2.2.2.1 hb hl
  have h3 := ait s x.2.1 x.2.2.2.2.1 e hb
  unfold d269 d182 gU Oc
  rw [h1.1, h1.2.1, h1.2.2, abV, adk, h2.1, h2.2.1, h2.2.2, h3.1, h3.2.1, h3.2.2]
  refine ⟨?_, ?_, rfl⟩ <;> simp
theorem Ci (s : Ty.T y36) (x : Ty.T aa) (e : Ty.T y27) (hv : x.2.2.2.2.2.2.1.2.2.2.2.2.2.length <= 1048576) (h : gU s x e = true) : ek x = true := by
  unfold gU at h
  rw [(gb x hv).1] at h
  cases hc : ek x with
  | true => rfl
  | false => rw [hc] at h; cases h
theorem K6 (x : Ty.T aa) (h : ek x = true) : @LE.le Int _ 0 x.2.2.2.1 /\ @LE.le Int _ x.2.2.2.1 4 := by
  cases hc : bx x.2.2.2.1 0 4 with
  | true =>
    simp only [bx] at hc
    have cc : ∀ (p q r : Bool), cond p q r = true ↔ (p = true /\ q = true) ∨ (p = false /\ r = true) := by decide
    have cf : ∀ (p q r : Bool), cond p q r = false ↔ (p = true /\ q = false) ∨ (p = false /\ r = false) := by decide
    simpa [cc, cf] using hc
  | false =>
    exfalso
    simp only [ek, t242, hc, nfs] at h
    cases h1 : bx x.1 1 99 <;> cases h2 : bx x.2.1 0 2 <;> cases h3 : bx x.2.2.1 0 99 <;> simp [h1, h2, h3] at h
theorem ea (l : List (Ty.T aa)) (id : Int) (hb : l.length <= 1048576) : d246 l id = true /\ mj l id = (match first (fun i => match l[i]? with | some x => (x.1 == id) | none => false) 0 l.length with | some j => (j : Int) | none => -1) := by
  have h := dn (s := tW) (mk := fun i => (l, id, 0, i, ())) (fin := fun i => (l, id, (i : Int), (i : Int), ())) (p := fun i => match l[i]? with | some x => (x.1 == id) | none => false) (N := l.length) (fun i hi => by
    have h1 := List.getElem?_eq_getElem hi
    simp only [h1]
    skip
    cases ht : (((l[i]).1 == id) : Bool) <;> simp [tW, tL, ay, hi, h1, ht,  aT (n := i) (by omega)]) (by simp [tW, tL]) l.length 0 (xP (l, id, 0, 0, ())) (by omega) (by simp [xP]; omega)
  unfold d246 mj
  revert h
  generalize first _ 0 l.length = o
  intro h
  cases o with
  | none =>
    have e0 : lA l id 0 0 0 = false := aX h 0
    have e1 : lA l id 0 0 1 = true := aX h 1
    rw [e0, e1]
    exact ⟨rfl, rfl⟩
  | some j =>
    have e0 : lA l id 0 0 0 = true := aX h 0
    have hw : J4 l id 0 0 = _ := bo h
    rw [e0, hw]
    exact ⟨rfl, rfl⟩
theorem eia (l : List (Ty.T aa)) (id : Int) (hb : l.length <= 1048576) : qg l id = true /\ sP l id = (match first (fun i => match l[i]? with | some x => (x.1 == id) | none => false) 0 l.length with | some j => (j : Int) | none => -1) := by
  have h := dn (s := lj) (mk := fun i => (l, id, 0, ((l).length : Int), i, ())) (fin := fun i => (l, id, (i : Int), ((l).length : Int), (i : Int), ())) (p := fun i => match l[i]? with | some x => (x.1 == id) | none => false) (N := l.length) (fun i hi => by
    have h1 := List.getElem?_eq_getElem hi
    simp only [h1]
    skip
    cases ht : (((l[i]).1 == id) : Bool) <;> simp [lj, kW, ay, hi, h1, ht, Dj, aT (n := i) (by omega)]) (by simp [lj, kW]) l.length 0 (mn (l, id, 0, ((l).length : Int), 0, ())) (by omega) (by simp [mn]; omega)
  unfold qg sP
  revert h
  generalize first _ 0 l.length = o
  intro h
  cases o with
  | none =>
    have e0 : e8 l id 0 ((l).length : Int) 0 0 = false := aX h 0
    have e1 : e8 l id 0 ((l).length : Int) 0 1 = true := aX h 1
    rw [e0, e1]
    exact ⟨rfl, rfl⟩
  | some j =>
    have e0 : e8 l id 0 ((l).length : Int) 0 0 = true := aX h 0
    have hw : yu l id 0 ((l).length : Int) 0 = _ := bo h
    rw [e0, hw]
    exact ⟨rfl, rfl⟩
theorem ei (l : List (Ty.T aa)) (id : Int) (hb : l.length <= 1048576) : d229 l id = true /\ Ag l id = mj l id := by
  have h1 := ea l id hb
  have h2 := eia l id hb
  unfold d229 Ag
  rw [h2.1, h2.2, h1.2]
  exact ⟨rfl, rfl⟩
theorem op5 {c : Int} (h : c <= 4) : ¬ c > 5 /\ c < 5 := by omega
theorem ahn {c b : Int} (h1 : c <= 4) (h2 : b = 5) (h4 : ¬ c < b) : False := by omega
theorem agb {c b : Int} (h : c > b) : (c == b) = false := by simp; omega
theorem aaR {c b : Int} (h1 : ¬ c > b) (h2 : ¬ c < b) : (c == b) = true := by simp; omega
noncomputable def gO (s : Ty.T y36) (e : Ty.T y27) (u : List (Ty.T (.int .i64))) (p : Int × List (Ty.T (.int .i64))) (x : Ty.T aa) : Int × List (Ty.T (.int .i64)) :=
  cond (u.any fun y => y == x.1) p (cond (!gU s x e) p (cond (decide (x.2.2.2.1 > p.1)) p (cond (decide (x.2.2.2.1 < p.1)) (x.2.2.2.1, [x.1]) (p.1, p.2 ++ [x.1]))))
structure OptI (l : List (Ty.T aa)) (u : List (Ty.T (.int .i64))) (n : Nat) (p : Int × List (Ty.T (.int .i64))) : Prop where
  len : p.2.length <= n
  top : (p.2 = [] /\ p.1 = 5) ∨ (p.2.length ≠ 0 /\ p.1 <= 4)
  mem : ∀ y ∈ p.2, (∃ x ∈ l, x.1 = y) /\ (u.any fun z => z == y) = false
theorem Tq {s : Ty.T y36} {e : Ty.T y27} {l : List (Ty.T aa)} {u : List (Ty.T (.int .i64))} {n : Nat} {p : Int × List (Ty.T (.int .i64))} {x : Ty.T aa} (hx : x ∈ l) (hv : x.2.2.2.2.2.2.1.2.2.2.2.2.2.length <= 1048576) (h : OptI l u n p) : OptI l u (n + 1) (gO s e u p x) := by
  unfold gO
  cases h1 : u.any fun y => y == x.1
  · cases h2 : gU s x e
    · exact ⟨Nat.le_succ_of_le h.len, h.top, h.mem⟩
    · have hc := K6 x (Ci s x e hv h2)
      by_cases h3 : x.2.2.2.1 > p.1
      · simp only [h3, decide_true, Bool.not_true, cond_false, cond_true]
        exact ⟨Nat.le_succ_of_le h.len, h.top, h.mem⟩
      · by_cases h4 : x.2.2.2.1 < p.1
        · simp only [h3, h4, decide_true, decide_false, Bool.not_true, cond_false, cond_true]
          refine ⟨by simp, .inr ⟨by simp, by simpa using hc.2⟩, fun y hy => ?_⟩
          rw [List.mem_singleton] at hy
          subst hy
          exact ⟨⟨x, hx, rfl⟩, h1⟩
        · simp only [h3, h4, decide_false, Bool.not_true, cond_false]
          refine ⟨by simp only [List.length_append, List.length_cons, List.length_nil]; have := h.len; omega, .inr ⟨by simp, ?_⟩, fun y hy => ?_⟩
          · show p.1 <= 4
            rcases h.top with h5 | h5
            · exact (ahn hc.2 h5.2 h4).elim
            · exact h5.2
          · rcases List.mem_append.1 hy with hy | hy
            · exact h.mem y hy
            · rw [List.mem_singleton] at hy
              subst hy
              exact ⟨⟨x, hx, rfl⟩, h1⟩
  · exact ⟨Nat.le_succ_of_le h.len, h.top, h.mem⟩
theorem Eu (s : Ty.T y36) (e : Ty.T y27) (l : List (Ty.T aa)) (u : List (Ty.T (.int .i64))) (hv : ∀ x ∈ l, x.2.2.2.2.2.2.1.2.2.2.2.2.2.length <= 1048576) : ∀ n, n <= l.length -> OptI l u n ((l.take n).foldl (gO s e u) (5, []))
  | 0, _ => ⟨by simp, .inl ⟨rfl, rfl⟩, fun y hy => by cases hy⟩
  | n + 1, h => by
    rw [pV (List.getElem?_eq_getElem (l := l) (i := n) (by omega))]
    exact Tq (List.getElem_mem _) (hv _ (List.getElem_mem _)) (Eu s e l u hv n (by omega))
theorem Tg (s : Ty.T y36) (l : List (Ty.T aa)) (e : Ty.T y27) (u : List (Ty.T (.int .i64))) (hb : s.1.length <= 1048576) (hs : s.2.1.length <= 1048576) (hn : l.length <= 1048576) (hu : u.length <= 1048576) (hv : ∀ x ∈ l, x.2.2.2.2.2.2.1.2.2.2.2.2.2.length <= 1048576) : d243 s l e u = true /\ dS s l e u = (l.foldl (gO s e u) (5, [])).2 := by
  have h := dJ (s := vd) (f := fun i => (l, u, [], ((l.take i).foldl (gO s e u) (5, [])).1, (i : Int), s, e, ((l.take i).foldl (gO s e u) (5, [])).2, ())) (c := 0) (N := l.length) (v' := (l, u, [], ((l.take l.length).foldl (gO s e u) (5, [])).1, (l.length : Int), s, e, ((l.take l.length).foldl (gO s e u) (5, [])).2, ())) (fun i hi => by
    have h1 : l[i]? = some l[i] := List.getElem?_eq_getElem hi
    have hw := aT (n := i) (by omega)
    have hf := fits s l[i] e hb hs (hv _ (List.getElem_mem hi))
    have hh := ZW u (l[i]).1 hu
    have hI := Eu s e l u hv i (by omega)
    rw [pV h1]
    revert hI
    generalize (l.take i).foldl (gO s e u) (5, []) = p
    obtain ⟨b, o⟩ := p
    intro hI
    have hz : ∀ x : Int, (@HAppend.hAppend (List Int) (List Int) (List Int) _ o [x]).length * 8 <= 140737488351232 := fun x => by
      have : o.length <= i := hI.len
      simp only [List.length_append, List.length_cons, List.length_nil]
      omega
    have hz2 : (o.length + 1) * 8 <= 140737488351232 := by
      have : o.length <= i := hI.len
      omega
    cases c1 : u.any fun y => y == (l[i]).1 <;> cases c2 : gU s l[i] e <;> by_cases c3 : (l[i]).2.2.2.1 > b <;> by_cases c4 : (l[i]).2.2.2.1 < b <;> simp [vd, uv, hi, h1, ay, hw, hh.1, hh.2, hf.1, hf.2.1, hf.2.2, c1, c2, c3, c4, gO, hz2]) (by simp [vd, uv]) l.length 0 (wU (l, u, [], 5, 0, s, e, [], ())) (by omega) (by simp only [wU]; omega)
  have hk : D2 l u [] 5 0 s e [] 0 = true := aX h 0
  have hw : IQ l u [] 5 0 s e [] = _ := bo h
  unfold d243 dS
  rw [hk, hw]
  exact ⟨rfl, by simp⟩
def SI (p : Int × List (Ty.T (.int .i64))) : Int := match p.2 with | [] => 0 | _ :: _ => p.1
theorem agC (s : Ty.T y36) (l : List (Ty.T aa)) (e : Ty.T y27) (u : List (Ty.T (.int .i64))) (hb : s.1.length <= 1048576) (hs : s.2.1.length <= 1048576) (hn : l.length <= 1048576) (hu : u.length <= 1048576) (hv : ∀ x ∈ l, x.2.2.2.2.2.2.1.2.2.2.2.2.2.length <= 1048576) : d76 s l e u = true /\ v76 s l e u = (l.foldl (gO s e u) (5, [])).2 := by
  have h := dJ (s := xm) (f := fun i => (u, [], (SI ((l.take i).foldl (gO s e u) (5, []))), l, ((l).length : Int), (i : Int), s, e, ((l.take i).foldl (gO s e u) (5, [])).2, ())) (c := 0) (N := l.length) (v' := (u, [], (SI ((l.take l.length).foldl (gO s e u) (5, []))), l, ((l).length : Int), (l.length : Int), s, e, ((l.take l.length).foldl (gO s e u) (5, [])).2, ())) (fun i hi => by
    have h1 : l[i]? = some l[i] := List.getElem?_eq_getElem hi
    have hw := aT (n := i) (by omega)
    have hf := fits s l[i] e hb hs (hv _ (List.getElem_mem hi))
    have hh := YJ u (l[i]).1 hu
    have hI := Eu s e l u hv i (by omega)
    rw [pV h1]
    revert hI
    generalize (l.take i).foldl (gO s e u) (5, []) = p
    obtain ⟨b, o⟩ := p
    intro hI
    have hz : ∀ x : Int, (@HAppend.hAppend (List Int) (List Int) (List Int) _ o [x]).length * 8 <= 140737488351232 := fun x => by
      have : o.length <= i := hI.len
      simp only [List.length_append, List.length_cons, List.length_nil]
      omega
    have hz2 : (o.length + 1) * 8 <= 140737488351232 := by
      have : o.length <= i := hI.len
      omega
    have hcl : gU s l[i] e = true -> (l[i]).2.2.2.1 <= 4 := fun h => (K6 _ (Ci s _ e (hv _ (List.getElem_mem hi)) h)).2
    cases o with
    | nil =>
      have h5 : b = 5 := by
        rcases hI.top with h | h
        · exact h.2
        · exact absurd rfl h.1
      subst h5
      cases c1 : u.any fun y => y == (l[i]).1 <;> cases c2 : gU s l[i] e <;> try (have c3 := hcl c2)
      all_goals simp [xm, yS, hi, h1, ay, hw, hh.1, hh.2, hf.1, hf.2.1, hf.2.2, c1, c2, gO, SI]
      all_goals simp [(op5 (hcl c2)).1, (op5 (hcl c2)).2]
    | cons y o =>
      have hl : ((((y :: o).length : Nat) : Int) == (0 : Int)) = false := by simp; omega
      have hl2 : (((o.length : Nat) : Int) + 1 == (0 : Int)) = false := by simp; omega
      cases c1 : u.any fun y => y == (l[i]).1 <;> cases c2 : gU s l[i] e <;> by_cases c3 : (l[i]).2.2.2.1 > b <;> by_cases c4 : (l[i]).2.2.2.1 < b <;> try exact (Int.lt_asymm c3 c4).elim
      all_goals (try (have c5 := agb c3))
      all_goals (try (have c5 := aaR c3 c4))
      all_goals simp [xm, yS, hi, h1, ay, hw, hh.1, hh.2, hf.1, hf.2.1, hf.2.2, c1, c2, c3, c4, gO, SI, hl, hl2]
      all_goals try simp [hl2, c5]
      all_goals try (simp only [List.length_cons] at hz2; simp [hz2])
      all_goals try omega) (by simp [xm, yS]) l.length 0 (FH (u, [], 0, l, ((l).length : Int), 0, s, e, [], ())) (by omega) (by simp only [FH]; omega)
  have hk : K9 u [] 0 l ((l).length : Int) 0 s e [] 0 = true := aX h 0
  have hw : Oh u [] 0 l ((l).length : Int) 0 s e [] = _ := bo h
  unfold d76 v76
  rw [hk, hw]
  exact ⟨rfl, by simp⟩
theorem options (s : Ty.T y36) (l : List (Ty.T aa)) (e : Ty.T y27) (u : List (Ty.T (.int .i64))) (hb : s.1.length <= 1048576) (hs : s.2.1.length <= 1048576) (hn : l.length <= 1048576) (hu : u.length <= 1048576) (hv : ∀ x ∈ l, x.2.2.2.2.2.2.1.2.2.2.2.2.2.length <= 1048576) : d243 s l e u = true /\ d76 s l e u = true /\ v76 s l e u = dS s l e u /\ (dS s l e u).length <= l.length /\ (∀ y ∈ dS s l e u, (∃ x ∈ l, x.1 = y) /\ (u.any fun z => z == y) = false) := by
  have h1 := Tg s l e u hb hs hn hu hv
  have h2 := agC s l e u hb hs hn hu hv
  have h3 := Eu s e l u hv l.length (Nat.le_refl _)
  rw [List.take_length] at h3
  rw [h1.2, h2.2]
  exact ⟨h1.1, h2.1, rfl, h3.len, h3.mem⟩
theorem dix (l : List (Ty.T y27)) (hb : l.length <= 1048576) : zy l = true /\ bz l = (match first (fun i => match l[i]? with | some x => (gH x) | none => false) 0 l.length with | some j => (j : Int) | none => -1) := by
  have h := dn (s := kM) (mk := fun i => (l, 0, ((l).length : Int), i, ())) (fin := fun i => (l, (i : Int), ((l).length : Int), (i : Int), ())) (p := fun i => match l[i]? with | some x => (gH x) | none => false) (N := l.length) (fun i hi => by
    have h1 := List.getElem?_eq_getElem hi
    simp only [h1]
    skip
    cases ht : ((gH l[i]) : Bool) <;> simp [kM, kI, ay, hi, h1, ht,  aT (n := i) (by omega)]) (by simp [kM, kI]) l.length 0 (od (l, 0, ((l).length : Int), 0, ())) (by omega) (by simp [od]; omega)
  unfold zy bz
  revert h
  generalize first _ 0 l.length = o
  intro h
  cases o with
  | none =>
    have e0 : fp l 0 ((l).length : Int) 0 0 = false := aX h 0
    have e1 : fp l 0 ((l).length : Int) 0 1 = true := aX h 1
    rw [e0, e1]
    exact ⟨rfl, rfl⟩
  | some j =>
    have e0 : fp l 0 ((l).length : Int) 0 0 = true := aX h 0
    have hw : xh l 0 ((l).length : Int) 0 = _ := bo h
    rw [e0, hw]
    exact ⟨rfl, rfl⟩
theorem ah1 (l : List (Ty.T y27)) (hb : l.length <= 1048576) : ya l = true /\ xU l = l.filter fun x => !gH x := by
  have h0 := dix l hb
  cases hf : first (fun i => match l[i]? with | some x => (gH x) | none => false) 0 l.length with
  | none =>
    rw [hf] at h0
    have hk := oP (p := gH) (xs := l) (j := l.length) (fun t x ht hx => by have := jG hf t (by omega) (by omega); simpa only [hx] using this) (Nat.le_refl _)
    rw [List.take_length] at hk
    unfold ya xU qI
    try simp only [nfs]
    rw [h0.1, h0.2, ← hk]
    exact ⟨rfl, rfl⟩
  | some j =>
    rw [hf] at h0
    obtain ⟨_, hj, hp⟩ := fO hf
    have hk := oP (p := gH) (xs := l) (j := j) (fun t x ht hx => by have := vq hf t (by omega) (by omega); simpa only [hx] using this) (by omega)
    have hx : l[j]? = some l[j] := List.getElem?_eq_getElem (by omega)
    simp only [hx] at hp
    have hw1 := aT (n := j) (by omega)
    have h := ri (s := iY) (mk := fun k : List (Ty.T y27) × Nat × Nat => ([], (k.2.1 : Int), (k.2.2 : Int), k.1, ()))
      (Inv := fun t k => k.2.2 = t /\ k.2.1 < t /\ k.1.length = l.length /\ k.1.take k.2.1 = (l.take t).filter (fun x => !gH x) /\ ∀ r, t <= r -> k.1[r]? = l[r]?)
      (Q := fun v => ∃ (i : Nat) (m : List (Ty.T y27)), v = ([], (i : Int), (l.length : Int), m, ()) /\ i <= m.length /\ m.take i = l.filter fun x => !gH x)
      (c := 0) (N := l.length) (fun t k ht hI => by
        obtain ⟨m, i, r⟩ := k
        obtain ⟨hr, hi, hl, htk, hd⟩ := hI
        dsimp only at hr hi hl htk hd
        subst hr
        have hx : l[r]? = some l[r] := List.getElem?_eq_getElem ht
        have hm : m[r]? = some l[r] := by rw [hd r (Nat.le_refl _), hx]
        obtain ⟨y, hy⟩ : ∃ y, m[i]? = some y := ⟨m[i]'(by omega), List.getElem?_eq_getElem _⟩
        have g1 : (r : Int) < (m.length : Int) := by omega
        have g2 : (i : Int) < (m.length : Int) := by omega
        have g3 := aT (n := r) (by omega)
        have g4 := aT (n := i) (by omega)
        have g5 : (0 : Int) <= (r : Int) := by omega
        have g6 : (0 : Int) <= (i : Int) := by omega
        cases hq : gH l[r] with
        | false =>
          have h := BP (q := fun x => !gH x) hx hi hl htk hd (by rw [hq]; rfl)
          refine ⟨(m.set i l[r], i + 1, r + 1), ?_, rfl, h⟩
          simp only [iY, jn, decide_eq_true g1, cond_true, if_pos g5, if_pos g1, Int.toNat_natCast, hm, ay, hq, Bool.not_false, if_pos g6, if_pos g2, hy, g3, g4]
        | true =>
          have h := BQ (q := fun x => !gH x) hx hi htk hd (by rw [hq]; rfl)
          refine ⟨(m, i, r + 1), ?_, rfl, h.1, hl, h.2⟩
          simp only [iY, jn, decide_eq_true g1, cond_true, if_pos g5, if_pos g1, Int.toNat_natCast, hm, ay, hq, Bool.not_true, cond_false, g3])
      (fun k hI => by
        obtain ⟨m, i, r⟩ := k
        obtain ⟨hr, hi, hl, htk, hd⟩ := hI
        dsimp only at hr hi hl htk hd
        subst hr
        refine ⟨_, ?_, i, m, rfl, by omega, by rw [htk, List.take_length]⟩
        have g1 : ¬ ((l.length : Int) < (m.length : Int)) := by omega
        simp only [iY, jn, decide_eq_false g1, cond_false])
      (l.length - (j + 1)) (j + 1) (nE ([], (j : Int), ((j + 1 : Nat) : Int), l, ())) (l, j, j + 1) (by omega) (by simp only [nE]; omega) ⟨rfl, Nat.lt_succ_self j, rfl, by rw [dL hx, ← hk]; simp [hp], fun _ _ => rfl⟩
    obtain ⟨v', hv, i, m, rfl, hi, hm⟩ := h
    have hkk : Gr [] (j : Int) ((j + 1 : Nat) : Int) l 0 = true := aX hv 0
    have hww : cg [] (j : Int) ((j + 1 : Nat) : Int) l = _ := bo hv
    have e1 : (((j : Nat) : Int) == (-1 : Int)) = false := by simp
    have e2 : ∀ R D : List (Ty.T y27), ((m.take i ++ R ++ D).take i) = m.take i := fun R D => by rw [List.append_assoc, List.take_append_of_le_length (by simp; omega), List.take_take, Nat.min_self]
    have g0 : (0 : Int) <= (i : Int) := by omega
    have g1 : (i : Int) <= (m.length : Int) := by omega
    have g2 : ∀ R D : List (Ty.T y27), (i : Int) <= ((m.take i ++ R ++ D).length : Int) := fun R D => by simp only [List.length_append, List.length_take]; omega
    unfold ya xU qI
    try simp only [nfs]
    rw [h0.1, h0.2]
    simp only [e1, hw1, hkk, hww, cond_true, cond_false, if_pos g0, if_pos g1, if_pos (g2 _ _), decide_eq_true g0, decide_eq_true g1, decide_eq_true (g2 _ _), Bool.and_true, Int.toNat_natCast, e2]
    rw [hm]
    exact ⟨trivial, rfl⟩
theorem Vp (e : Ty.T aa) (n : Int) (hb : e.2.2.2.2.2.2.1.2.2.2.2.2.2.length <= 1048576) : d275 e n = true /\ d289 e n = true /\ M6 e n = rU e n := by
  have h1 := cpS e hb
  have h2 := cpI e hb
  unfold d275 d289 rU M6 t275 t289
  try simp only [nfs]
  rw [h1.1, h1.2, h2.1, h2.2]
  simp only [cond_true, jm, less]
  cases (e.2.2.2.2.2.2.1.1 == (2 : Int)) <;> cases decide (e.2.2.2.2.2.2.2.2 > (0 : Int)) <;> simp
theorem aaG (i1 i2 i3 i4 : Int) (p : Ty.T bS) (g : Ty.T a9) (k n po t z : Int) (b : Bool) (l : List (Ty.T y27)) (u lf : Int) (v : Ty.T y27) (e : Ty.T aa) (he : e = (i1, i2, i3, i4, p, g, (k, n, po, t, z, b, l), u, lf)) (hb : l.length <= 1048576) : fB ([], 0, 0, e.2.2.2.2.2.2.1.1, (e.2.2.2.2.2.2.1.1 == (1 : Int)), e, v, (0, 0, 0, 0, (0, 0, 0, 0, 0, 0, 0), (0, 0), (0, 0, 0, 0, 0, false, []), 0, 0), [], ()) = true /\ d287 e v = true /\ eY e v = bZ ([], 0, 0, e.2.2.2.2.2.2.1.1, (e.2.2.2.2.2.2.1.1 == (1 : Int)), e, v, (0, 0, 0, 0, (0, 0, 0, 0, 0, 0, 0), (0, 0), (0, 0, 0, 0, 0, false, []), 0, 0), [], ()) := by
  have hp := parts (k, n, po, t, z, b, l) v hb
  subst he
  by_cases k1 : k = 1
  · subst k1
    simp [fB, bZ, dO, eY, t287, d287, th, t274, jm, pt, ke, hp.1, hp.2.1, hp.2.2, ej, nfs]
    try (cases (v.1 == (1 : Int)) <;> simp)
  by_cases k2 : k = 2
  · subst k2
    simp [fB, bZ, dO, eY, t287, d287, th, t274, jm, pt, ke, hp.1, hp.2.1, hp.2.2, ej, nfs]
    try (skip)
  by_cases k3 : k = 3
  · subst k3
    simp [fB, bZ, dO, eY, t287, d287, th, t274, jm, pt, ke, hp.1, hp.2.1, hp.2.2, ej, nfs]
    try (skip)
  by_cases k4 : k = 4
  · subst k4
    simp [fB, bZ, dO, eY, t287, d287, th, t274, jm, pt, ke, hp.1, hp.2.1, hp.2.2, ej, nfs]
    try (skip)
  by_cases k5 : k = 5
  · subst k5
    simp [fB, bZ, dO, eY, t287, d287, th, t274, jm, pt, ke, hp.1, hp.2.1, hp.2.2, ej, nfs]
    try (skip)
  by_cases k6 : k = 6
  · subst k6
    simp [fB, bZ, dO, eY, t287, d287, th, t274, jm, pt, ke, hp.1, hp.2.1, hp.2.2, ej, nfs]
    try (skip)
  by_cases k7 : k = 7
  · subst k7
    simp [fB, bZ, dO, eY, t287, d287, th, t274, jm, pt, ke, hp.1, hp.2.1, hp.2.2, ej, nfs]
    try (cases (z != (2 : Int)) <;> simp)
  by_cases k8 : k = 8
  · subst k8
    simp [fB, bZ, dO, eY, t287, d287, th, t274, jm, pt, ke, hp.1, hp.2.1, hp.2.2, ej, nfs]
    try (cases (v.2.2.2.2.2.1 == (2 : Int)) <;> cases v.2.2.2.2.2.2 <;> simp)
  by_cases k9 : k = 9
  · subst k9
    simp [fB, bZ, dO, eY, t287, d287, th, t274, jm, pt, ke, hp.1, hp.2.1, hp.2.2, ej, nfs]
    try (skip)
  have j1 : (k == (1 : Int)) = false := by simpa using k1
  have j2 : (k == (2 : Int)) = false := by simpa using k2
  have j3 : (k == (3 : Int)) = false := by simpa using k3
  have j4 : (k == (4 : Int)) = false := by simpa using k4
  have j5 : (k == (5 : Int)) = false := by simpa using k5
  have j6 : (k == (6 : Int)) = false := by simpa using k6
  have j7 : (k == (7 : Int)) = false := by simpa using k7
  have j8 : (k == (8 : Int)) = false := by simpa using k8
  have j9 : (k == (9 : Int)) = false := by simpa using k9
  simp [fB, bZ, dO, eY, t287, d287, th, t274, jm, pt, ke, hp.1, hp.2.1, hp.2.2, ej, j1, j2, j3, j4, j5, j6, j7, j8, j9, nfs]
theorem Zj (e : Ty.T aa) (v : Ty.T y27) (hb : e.2.2.2.2.2.2.1.2.2.2.2.2.2.length <= 1048576) : fB ([], 0, 0, e.2.2.2.2.2.2.1.1, (e.2.2.2.2.2.2.1.1 == (1 : Int)), e, v, (0, 0, 0, 0, (0, 0, 0, 0, 0, 0, 0), (0, 0), (0, 0, 0, 0, 0, false, []), 0, 0), [], ()) = true /\ d287 e v = true /\ eY e v = bZ ([], 0, 0, e.2.2.2.2.2.2.1.1, (e.2.2.2.2.2.2.1.1 == (1 : Int)), e, v, (0, 0, 0, 0, (0, 0, 0, 0, 0, 0, 0), (0, 0), (0, 0, 0, 0, 0, false, []), 0, 0), [], ()) := by
  obtain ⟨i1, i2, i3, i4, p, g, ⟨k, n, po, t, z, b, l⟩, u, lf⟩ := e
  exact aaG i1 i2 i3 i4 p g k n po t z b l u lf v _ rfl hb
theorem CM (e : Ty.T aa) (v : Ty.T y27) (hb : e.2.2.2.2.2.2.1.2.2.2.2.2.2.length <= 1048576) : (bZ ([], 0, 0, e.2.2.2.2.2.2.1.1, (e.2.2.2.2.2.2.1.1 == (1 : Int)), e, v, (0, 0, 0, 0, (0, 0, 0, 0, 0, 0, 0), (0, 0), (0, 0, 0, 0, 0, false, []), 0, 0), [], ())).2.length <= 1048576 := by
  have hp := parts e.2.2.2.2.2.2.1 v hb
  have hl := GY e.2.2.2.2.2.2.1 v hb
  simp only [bZ, dO, hp.1]
  cases h1 : (e.2.2.2.2.2.2.1.1 == (1 : Int)) <;> cases h2 : (v.1 == (1 : Int)) <;> cases h3 : (e.2.2.2.2.2.2.1.1 == (2 : Int)) <;> cases h4 : (e.2.2.2.2.2.2.1.1 == (9 : Int)) <;> simp <;> omega
theorem L6 (n po t z : Int) (b : Bool) (l : List (Ty.T y27)) (h : uz ((9, n, po, t, z, b, l) : Ty.T bp) = true) : l.length <= 3 := by
  rcases Nat.lt_or_ge 3 l.length with hl | hl
  · exfalso
    have hf : cJ (l.length : Int) 1 3 = false := by simp [cJ]; omega
    simp [uz, t285, wG, pG, wZ, nb, yL, hf, nfs] at h
  · exact hl
theorem Um (e : Ty.T aa) (hb : e.2.2.2.2.2.2.1.2.2.2.2.2.2.length <= 1048576) (h : ek e = true) (h9 : e.2.2.2.2.2.2.1.1 = 9) : e.2.2.2.2.2.2.1.2.2.2.2.2.2.length <= 3 := by
  rw [← (gb e hb).2.2] at h
  have ha : uz e.2.2.2.2.2.2.1 = true := by
    cases hc : uz e.2.2.2.2.2.2.1 with
    | true => rfl
    | false =>
      exfalso
      have hd := (UA e.2.2.2.2.2.2.1 hb).2.1
      simp [Ah, t227, hc, hd, nfs] at h
  obtain ⟨i1, i2, i3, i4, p, g, ⟨k, n, po, t, z, b, l⟩, u, lf⟩ := e
  dsimp only at h9 ha ⊢
  subst h9
  exact L6 n po t z b l ha
theorem TH (e : Ty.T aa) (v : Ty.T y27) (hb : e.2.2.2.2.2.2.1.2.2.2.2.2.2.length <= 1048576) (h : ek e = true) : (bZ ([], 0, 0, e.2.2.2.2.2.2.1.1, (e.2.2.2.2.2.2.1.1 == (1 : Int)), e, v, (0, 0, 0, 0, (0, 0, 0, 0, 0, 0, 0), (0, 0), (0, 0, 0, 0, 0, false, []), 0, 0), [], ())).2.length <= 3 := by
  have hp := parts e.2.2.2.2.2.2.1 v hb
  have hl := GY e.2.2.2.2.2.2.1 v hb
  by_cases h9 : e.2.2.2.2.2.2.1.1 = 9
  · have h3 := Um e hb h h9
    simp only [bZ, dO, hp.1, h9]
    simp
    omega
  · have h4 : (e.2.2.2.2.2.2.1.1 == (9 : Int)) = false := by simpa using h9
    simp only [bZ, dO, hp.1, h4]
    cases h1 : (e.2.2.2.2.2.2.1.1 == (1 : Int)) <;> cases h2 : (v.1 == (1 : Int)) <;> cases h3 : (e.2.2.2.2.2.2.1.1 == (2 : Int)) <;> simp
theorem ab4 (x : Ty.T y27) : (!gH x) = cond (dX x) (!rJ x) false := by
  unfold gH
  rw [Ot, gone]
  cases dX x <;> rfl
theorem Ll (e : Ty.T aa) (r : Int) (l : List (Ty.T y27)) (hb : l.length <= 1048576) : iter pQ (yc ([], 0, r, 0, e, (0, 0, 0, 0, (0, 0, 0, 0, 0, 0, 0), (0, 0), (0, 0, 0, 0, 0, false, []), 0, 0), l, [], ())) ([], 0, r, 0, e, (0, 0, 0, 0, (0, 0, 0, 0, 0, 0, 0), (0, 0), (0, 0, 0, 0, 0, false, []), 0, 0), l, [], ()) = some (0, ([], 0, r, (l.length : Int), e, (0, 0, 0, 0, (0, 0, 0, 0, 0, 0, 0), (0, 0), (0, 0, 0, 0, 0, false, []), 0, 0), l, (l.filter fun x => !gH x), ())) := by
  refine dJ (s := pQ) (f := fun i => ([], 0, r, (i : Int), e, (0, 0, 0, 0, (0, 0, 0, 0, 0, 0, 0), (0, 0), (0, 0, 0, 0, 0, false, []), 0, 0), l, ((l.take i).filter fun x => !gH x), ())) (c := 0) (N := l.length) (fun i hi => ?_) ?_ l.length 0 _ (by omega) (by simp only [yc]; omega)
  · have h1 : l[i]? = some l[i] := List.getElem?_eq_getElem hi
    have hw := aT (n := i) (by omega)
    have hz : ∀ x : Ty.T y27, ((l.take i).filter (fun x => !gH x) ++ [x]).length * 56 <= 140737488351232 := fun x => by
      have := List.length_filter_le (fun x => !gH x) (l.take i)
      simp only [List.length_append, List.length_cons, List.length_nil, List.length_take] at this ⊢
      omega
    have g5 : (0 : Int) <= (i : Int) := by omega
    have g6 : (i : Int) < (l.length : Int) := by omega
    have hk := ab4 l[i]
    rw [dL h1, hk]
    cases c1 : dX l[i] <;> cases c2 : rJ l[i] <;> simp only [pQ, sS, JZ, pW, lE, JJ, Ic, IG, tj, decide_eq_true g6, cond_true, cond_false, if_pos g5, if_pos g6, Int.toNat_natCast, h1, ay, c1, c2, hw, Bool.not_true, Bool.not_false, if_pos (hz _), decide_eq_true (hz _), decide_eq_true g5, Bool.and_true, List.append_nil, Option.getD_some, Option.isSome_some]
  · simp [pQ, sS]
theorem Vg (e : Ty.T aa) (v : Ty.T y27) (hb : e.2.2.2.2.2.2.1.2.2.2.2.2.2.length <= 1048576) : d214 e v = true /\ d228 e v = true /\ dr e v = cw e v /\ (cw e v).2.2.2.1.length <= 3 /\ (cw e v).2.2.2.2 = e.2.2.2.2.2.2.1.2.2.2.2.2.2 /\ (cw e v).2.1 = (((e.1, e.2.1, e.2.2.1, e.2.2.2.1, e.2.2.2.2.1, e.2.2.2.2.2.1, e.2.2.2.2.2.2.1.1, e.2.2.2.2.2.2.1.2.1, e.2.2.2.2.2.2.1.2.2.1, e.2.2.2.2.2.2.1.2.2.2.1, e.2.2.2.2.2.2.1.2.2.2.2.1, e.2.2.2.2.2.2.1.2.2.2.2.2.1), e.2.2.2.2.2.2.2, e.2.2.2.2.2.2.1.2.2.2.2.2.2)).1 := by
  have h1 := gb e hb
  have h2 := Zj e v hb
  have h3 := Ll e (bZ ([], 0, 0, e.2.2.2.2.2.2.1.1, (e.2.2.2.2.2.2.1.1 == (1 : Int)), e, v, (0, 0, 0, 0, (0, 0, 0, 0, 0, 0, 0), (0, 0), (0, 0, 0, 0, 0, false, []), 0, 0), [], ())).1 (bZ ([], 0, 0, e.2.2.2.2.2.2.1.1, (e.2.2.2.2.2.2.1.1 == (1 : Int)), e, v, (0, 0, 0, 0, (0, 0, 0, 0, 0, 0, 0), (0, 0), (0, 0, 0, 0, 0, false, []), 0, 0), [], ())).2 (CM e v hb)
  have h4 := cpS e hb
  have h5 := cpI e hb
  have h6 := Vp e (bZ ([], 0, 0, e.2.2.2.2.2.2.1.1, (e.2.2.2.2.2.2.1.1 == (1 : Int)), e, v, (0, 0, 0, 0, (0, 0, 0, 0, 0, 0, 0), (0, 0), (0, 0, 0, 0, 0, false, []), 0, 0), [], ())).1 hb
  have h7 := ah1 (bZ ([], 0, 0, e.2.2.2.2.2.2.1.1, (e.2.2.2.2.2.2.1.1 == (1 : Int)), e, v, (0, 0, 0, 0, (0, 0, 0, 0, 0, 0, 0), (0, 0), (0, 0, 0, 0, 0, false, []), 0, 0), [], ())).2 (CM e v hb)
  have h8 := CM e v hb
  have hk : It [] 0 (bZ ([], 0, 0, e.2.2.2.2.2.2.1.1, (e.2.2.2.2.2.2.1.1 == (1 : Int)), e, v, (0, 0, 0, 0, (0, 0, 0, 0, 0, 0, 0), (0, 0), (0, 0, 0, 0, 0, false, []), 0, 0), [], ())).1 0 e (0, 0, 0, 0, (0, 0, 0, 0, 0, 0, 0), (0, 0), (0, 0, 0, 0, 0, false, []), 0, 0) (bZ ([], 0, 0, e.2.2.2.2.2.2.1.1, (e.2.2.2.2.2.2.1.1 == (1 : Int)), e, v, (0, 0, 0, 0, (0, 0, 0, 0, 0, 0, 0), (0, 0), (0, 0, 0, 0, 0, false, []), 0, 0), [], ())).2 [] 0 = true := aX h3 0
  have hw : J8 [] 0 (bZ ([], 0, 0, e.2.2.2.2.2.2.1.1, (e.2.2.2.2.2.2.1.1 == (1 : Int)), e, v, (0, 0, 0, 0, (0, 0, 0, 0, 0, 0, 0), (0, 0), (0, 0, 0, 0, 0, false, []), 0, 0), [], ())).1 0 e (0, 0, 0, 0, (0, 0, 0, 0, 0, 0, 0), (0, 0), (0, 0, 0, 0, 0, false, []), 0, 0) (bZ ([], 0, 0, e.2.2.2.2.2.2.1.1, (e.2.2.2.2.2.2.1.1 == (1 : Int)), e, v, (0, 0, 0, 0, (0, 0, 0, 0, 0, 0, 0), (0, 0), (0, 0, 0, 0, 0, false, []), 0, 0), [], ())).2 [] = _ := bo h3
  have hs : (rU e (bZ ([], 0, 0, e.2.2.2.2.2.2.1.1, (e.2.2.2.2.2.2.1.1 == (1 : Int)), e, v, (0, 0, 0, 0, (0, 0, 0, 0, 0, 0, 0), (0, 0), (0, 0, 0, 0, 0, false, []), 0, 0), [], ())).1).2.2 = e.2.2.2.2.2.2.1.2.2.2.2.2.2 /\ (rU e (bZ ([], 0, 0, e.2.2.2.2.2.2.1.1, (e.2.2.2.2.2.2.1.1 == (1 : Int)), e, v, (0, 0, 0, 0, (0, 0, 0, 0, 0, 0, 0), (0, 0), (0, 0, 0, 0, 0, false, []), 0, 0), [], ())).1).1 = (((e.1, e.2.1, e.2.2.1, e.2.2.2.1, e.2.2.2.2.1, e.2.2.2.2.2.1, e.2.2.2.2.2.2.1.1, e.2.2.2.2.2.2.1.2.1, e.2.2.2.2.2.2.1.2.2.1, e.2.2.2.2.2.2.1.2.2.2.1, e.2.2.2.2.2.2.1.2.2.2.2.1, e.2.2.2.2.2.2.1.2.2.2.2.2.1), e.2.2.2.2.2.2.2, e.2.2.2.2.2.2.1.2.2.2.2.2.2)).1 := by
    unfold rU t275
    try simp only [nfs]
    rw [h4.1, h4.2]
    simp only [cond_true]
    cases (e.2.2.2.2.2.2.1.1 == (2 : Int)) <;> cases decide (e.2.2.2.2.2.2.2.2 > (0 : Int)) <;> exact ⟨rfl, rfl⟩
  have hg : ve ([], 0, e, v, (0, 0, 0, 0, (0, 0, 0, 0, 0, 0, 0), (0, 0), (0, 0, 0, 0, 0, false, []), 0, 0), ()) = true /\ tI ([], 0, e, v, (0, 0, 0, 0, (0, 0, 0, 0, 0, 0, 0), (0, 0), (0, 0, 0, 0, 0, false, []), 0, 0), ()) = cond (!ek e) true (cond (!dX v) true (!ml e.2.2.2.2.2.2.1 v.1)) := by
    simp only [ve, tI, pL, h1.1, cond_true]
    cases ek e <;> cases dX v <;> exact ⟨rfl, rfl⟩
  unfold d214 d228 cw dr t214 t228
  try simp only [nfs]
  rw [hg.1, hg.2, h1.2.1, h1.2.2, Ot, KC]
  cases c1 : ek e
  · rw [h4.1, h4.2, h5.1, h5.2]
    simp
  cases c2 : dX v
  · rw [h4.1, h4.2, h5.1, h5.2]
    simp
  cases c3 : ml e.2.2.2.2.2.2.1 v.1
  · rw [h4.1, h4.2, h5.1, h5.2]
    simp
  have h9 : ((bZ ([], 0, 0, e.2.2.2.2.2.2.1.1, (e.2.2.2.2.2.2.1.1 == (1 : Int)), e, v, (0, 0, 0, 0, (0, 0, 0, 0, 0, 0, 0), (0, 0), (0, 0, 0, 0, 0, false, []), 0, 0), [], ())).2.filter fun x => !gH x).length <= 3 := Nat.le_trans (List.length_filter_le _ _) (TH e v hb c1)
  simp only [vc, gB]
  rw [h2.1, h2.2.1, h2.2.2, hk, hw]
  simp only [h7.1, h7.2, h6.1, h6.2.1, h6.2.2, hs.1, hs.2, h9, cond_true, cond_false, Bool.not_true, Option.getD_some, Option.isSome_some, and_true, true_and]
theorem eaR (l : List (Ty.T aa)) (id : Int) (hb : l.length <= 1048576) : (mj l id < 0 /\ ∀ x ∈ l, ¬ x.1 = id) ∨ (∃ (j : Nat) (p : Ty.T aa), mj l id = (j : Int) /\ j < l.length /\ l[j]? = some p /\ p.1 = id) := by
  rw [(ea l id hb).2]
  cases h : first (fun i => match l[i]? with | some x => (x.1 == id) | none => false) 0 l.length with
  | none =>
    refine .inl ⟨by decide, fun x hx => ?_⟩
    obtain ⟨i, hi, rfl⟩ := List.mem_iff_getElem.1 hx
    have := jG h i (by omega) (by omega)
    simp only [List.getElem?_eq_getElem hi] at this
    simpa using this
  | some j =>
    obtain ⟨_, hj, hp⟩ := fO h
    have e : l[j]? = some l[j] := List.getElem?_eq_getElem (by omega)
    simp only [e] at hp
    exact .inr ⟨j, l[j], rfl, by omega, e, eq_of_beq hp⟩
theorem update (T : List (Ty.T aa)) (n : Ty.T aa) (hb : T.length <= 1048576) (hv : ∀ x ∈ T, x.2.2.2.2.2.2.1.2.2.2.2.2.2.length <= 1048576) (hn : n.2.2.2.2.2.2.1.2.2.2.2.2.2.length <= 1048576) : d247 T n = true /\ d231 T n = true /\ TR T n = Ap T n /\ (Ap T n).map (·.1) = T.map (·.1) /\ ∀ x ∈ Ap T n, x.2.2.2.2.2.2.1.2.2.2.2.2.2.length <= 1048576 := by
  have h1 := ctS T hb hv
  have h2 := ctI T hb hv
  have h3 := cpS n hn
  have h4 := cpI n hn
  have h5 := ei T n.1 hb
  have h6 := ea T n.1 hb
  unfold d247 d231 Ap TR t247 t231
  try simp only [nfs]
  rw [h1.1, h1.2, h2.1, h2.2, h3.1, h3.2, h4.1, h4.2, h5.1, h5.2, h6.1]
  rcases eaR T n.1 hb with ⟨h, _⟩ | ⟨j, p, hj, hl, hp, hi⟩
  · have e : ¬ mj T n.1 ≥ 0 := by omega
    rw [decide_eq_false e]
    exact ⟨rfl, rfl, rfl, rfl, hv⟩
  · have g0 : (0 : Int) <= (j : Int) := by omega
    have g1 : (j : Int) < (T.length : Int) := by omega
    have g2 : (j : Int) ≥ 0 := g0
    rw [hj]
    simp only [decide_eq_true g2, decide_eq_true g0, decide_eq_true g1, cond_true, if_pos g0, if_pos g1, Int.toNat_natCast, hp, ay, pq, rR, Option.getD_some, Option.isSome_some, Bool.and_true, true_and, and_true]
    refine ⟨?_, fun x hx => ?_⟩
    · rw [List.map_set]
      apply List.ext_getElem?
      intro i
      by_cases hij : j = i
      · subst hij
        simp [hl, hp, hi]
        rw [(List.getElem?_eq_some_iff.1 hp).2]
        exact hi.symm
      · rw [List.getElem?_set_ne hij]
    · rcases List.mem_or_eq_of_mem_set hx with h | rfl
      · exact hv x h
      · exact hn
theorem aaN (h0 : List (Ty.T (.int .i64))) (h1 : List (Ty.T (.int .i64))) (h4 : Int) (h5 : List (Ty.T (.int .i64))) (h6 : Int) (h7 : Bool) (h8 : List (Ty.T (.int .i64))) (h9 : Int) (h10 : Int) (h11 : Int) (h12 : Bool) (h13 : Int) (i : Nat) (l : List (Ty.T (.int .i64))) (x : Ty.T (.int .i64)) (hx : h0[i]? = some x) (hb : l.length <= 2097152) : ∃ p : Nat, p <= l.length /\ iter mz (uc (h0, h1, (i : Int), (l.length : Int), h4, h5, h6, h7, h8, h9, h10, h11, h12, h13, l, ())) (h0, h1, (i : Int), (l.length : Int), h4, h5, h6, h7, h8, h9, h10, h11, h12, h13, l, ()) = some (0, (h0, h1, (i : Int), (p : Int), h4, h5, h6, h7, h8, h9, h10, h11, h12, h13, l, ())) := by
  obtain ⟨v', h1, p, hp, rfl⟩ := sb (s := mz) (Q := fun v => ∃ p : Nat, p <= l.length /\ v = (h0, h1, (i : Int), (p : Int), h4, h5, h6, h7, h8, h9, h10, h11, h12, h13, l, ())) (fun k v => k <= l.length /\ v = (h0, h1, (i : Int), (k : Int), h4, h5, h6, h7, h8, h9, h10, h11, h12, h13, l, ())) (fun k v hI => by
    obtain ⟨hk, rfl⟩ := hI
    cases k with
    | zero =>
      refine .inl ⟨_, ?_, 0, Nat.zero_le _, rfl⟩
      simp [mz, qD, xr, wC, lp]
    | succ k =>
      have hw : IntKind.wrap .i64 (((k + 1 : Nat) : Int) - 1) = (k : Int) := oM k (by omega)
      obtain ⟨y, hy⟩ : ∃ y, l[k]? = some y := ⟨l[k]'(by omega), List.getElem?_eq_getElem _⟩
      have g0 : ((k + 1 : Nat) : Int) > 0 := by omega
      have g1 : (0 : Int) <= (k : Int) := by omega
      have g2 : (k : Int) < (l.length : Int) := by omega
      have g3 : (0 : Int) <= (i : Int) := by omega
      by_cases hc : y > x
      · exact .inr ⟨k, _, rfl, by simp only [mz, qD, xr, wC, lp, decide_eq_true g0, cond_true, hw, if_pos g1, if_pos g2, decide_eq_true g1, decide_eq_true g2, Int.toNat_natCast, hy, ay, if_pos g3, decide_eq_true g3, hx, pq, rR, Option.isSome_some, Option.getD_some, Bool.and_true, decide_eq_true hc], by omega, rfl⟩
      · exact .inl ⟨_, by simp only [mz, qD, xr, wC, lp, decide_eq_true g0, cond_true, hw, if_pos g1, if_pos g2, decide_eq_true g1, decide_eq_true g2, Int.toNat_natCast, hy, ay, if_pos g3, decide_eq_true g3, hx, pq, rR, Option.isSome_some, Option.getD_some, Bool.and_true, decide_eq_false hc, cond_false], k + 1, hk, rfl⟩) l.length (h0, h1, (i : Int), (l.length : Int), h4, h5, h6, h7, h8, h9, h10, h11, h12, h13, l, ()) (uc (h0, h1, (i : Int), (l.length : Int), h4, h5, h6, h7, h8, h9, h10, h11, h12, h13, l, ())) ⟨Nat.le_refl _, rfl⟩ (by simp only [uc]; omega)
  exact ⟨p, hp, h1⟩
theorem VG (h0 : List (Ty.T (.int .i64))) (h1 : List (Ty.T (.int .i64))) (h4 : Int) (h5 : List (Ty.T (.int .i64))) (h6 : Int) (h7 : Bool) (h8 : List (Ty.T (.int .i64))) (h9 : Int) (h10 : Int) (h11 : Int) (h12 : Bool) (h13 : Int) (i : Nat) (l : List (Ty.T (.int .i64))) (x : Ty.T (.int .i64)) (hx : h0[i]? = some x) (hb : l.length <= 2097152) : ∃ p : Nat, p <= l.length /\ RD h0 h1 (i : Int) (l.length : Int) h4 h5 h6 h7 h8 h9 h10 h11 h12 h13 l 0 = true /\ PE h0 h1 (i : Int) (l.length : Int) h4 h5 h6 h7 h8 h9 h10 h11 h12 h13 l = (h0, h1, (i : Int), (p : Int), h4, h5, h6, h7, h8, h9, h10, h11, h12, h13, l, ()) := by
  obtain ⟨p, h1, h2⟩ := aaN h0 h1 h4 h5 h6 h7 h8 h9 h10 h11 h12 h13 i l x hx hb
  exact ⟨p, h1, aX h2 0, bo h2⟩
theorem Jz {xs : List (Ty.T (.int .i64))} (hn : xs.Nodup) {t : Nat} (ht : t < xs.length) : (xs.take t).any (fun y => y == xs[t]) = false := by
  rw [List.any_eq_false]
  intro y hy he
  obtain ⟨j, hj, rfl⟩ := List.mem_iff_getElem.1 hy
  rw [List.length_take] at hj
  have := List.pairwise_iff_getElem.1 hn j t (by omega) ht (by omega)
  rw [List.getElem_take] at he
  exact this (eq_of_beq he)
theorem setOf (xs : List (Ty.T (.int .i64))) (hn : xs.Nodup) (hb : xs.length <= 1048577) : d301 xs = true /\ (PN xs).Perm xs := by
  have h := ri (s := uK) (mk := fun k : Nat × List (Ty.T (.int .i64)) => (xs, [], (k.1 : Int), k.2, ())) (Inv := fun t k => k.1 = t /\ k.2.Perm (xs.take t)) (Q := fun v => ∃ l : List (Ty.T (.int .i64)), v = (xs, [], (xs.length : Int), l, ()) /\ l.Perm xs) (c := 0) (N := xs.length) (fun t k ht hI => by
    obtain ⟨r, l⟩ := k
    obtain ⟨hr, hp⟩ := hI
    dsimp only at hr hp
    subst hr
    have hx : xs[r]? = some xs[r] := List.getElem?_eq_getElem ht
    have hlen : l.length = r := by rw [hp.length_eq, List.length_take]; omega
    have hh := ZW l xs[r] (by omega)
    have hany : (l.any fun y => y == xs[r]) = false := by
      rw [List.any_eq_false]
      intro y hy
      have := List.any_eq_false.1 (Jz hn ht) y (hp.mem_iff.1 hy)
      exact this
    have g5 : (0 : Int) <= (r : Int) := by omega
    have g6 : (r : Int) < (xs.length : Int) := by omega
    have hw1 := aT (n := r) (by omega)
    obtain ⟨p, hpl, hk, hw⟩ := VG xs [] (r : Int) xs (xs.length : Int) true xs (r : Int) xs[r] xs[r] false (l.length : Int) r l xs[r] hx (by omega)
    have g7 : (0 : Int) <= (p : Int) := by omega
    have g8 : (p : Int) <= (l.length : Int) := by omega
    have z1 : ([] ++ ((l.drop 0).take p) : List (Ty.T (.int .i64))).length * 8 <= 140737488351232 := by simp only [List.nil_append, List.length_take, List.length_drop]; omega
    have z2 : (([] ++ ((l.drop 0).take p)) ++ [xs[r]] : List (Ty.T (.int .i64))).length * 8 <= 140737488351232 := by simp only [List.nil_append, List.length_append, List.length_cons, List.length_nil, List.length_take, List.length_drop]; omega
    have z3 : ((([] ++ ((l.drop 0).take p)) ++ [xs[r]]) ++ ((l.drop p).take (l.length - p)) : List (Ty.T (.int .i64))).length * 8 <= 140737488351232 := by simp only [List.nil_append, List.length_append, List.length_cons, List.length_nil, List.length_take, List.length_drop]; omega
    refine ⟨(r + 1, (([] ++ ((l.drop 0).take p)) ++ [xs[r]]) ++ ((l.drop p).take (l.length - p))), ?_, rfl, ?_⟩
    · simp only [uK, sO, cn, decide_eq_true g6, cond_true, if_pos g5, Int.toNat_natCast, hx, ay, hh.1, hh.2, hany, cond_false, hk, hw]
      simp only [IC, JE, pX, if_pos g5, if_pos g7, if_pos g8, decide_eq_true g5, decide_eq_true g7, decide_eq_true g8, Int.toNat_natCast, hx, ay, pq, rR, if_pos z1, if_pos z2, if_pos z3, decide_eq_true z1, decide_eq_true z2, decide_eq_true z3, Bool.and_true, Option.isSome_some, Option.getD_some, cond_true, hw1]
    · show List.Perm _ (xs.take (r + 1))
      rw [dU hx]
      have e : (([] ++ ((l.drop 0).take p)) ++ [xs[r]]) ++ ((l.drop p).take (l.length - p)) = l.take p ++ xs[r] :: l.drop p := by
        rw [List.take_of_length_le (l := l.drop p) (by rw [List.length_drop]; omega)]
        simp
      rw [e]
      have h3 : (l.take p ++ xs[r] :: l.drop p).Perm (xs[r] :: (l.take p ++ l.drop p)) := List.perm_middle
      rw [List.take_append_drop] at h3
      exact h3.trans ((List.Perm.cons _ hp).trans (List.perm_append_singleton _ _).symm))
    (fun k hI => by
      obtain ⟨r, l⟩ := k
      obtain ⟨hr, hp⟩ := hI
      dsimp only at hr hp
      subst hr
      rw [List.take_length] at hp
      refine ⟨_, ?_, l, rfl, hp⟩
      simp [uK, sO])
    xs.length 0 (zK (xs, [], ((0 : Nat) : Int), [], ())) (0, []) (by omega) (by simp only [zK]; omega) ⟨rfl, by simp⟩
  obtain ⟨v', h1, l, rfl, hp⟩ := h
  have hk : OS xs [] 0 [] 0 = true := aX h1 0
  have hw : OP xs [] 0 [] = _ := bo h1
  unfold d301 PN t301
  try simp only [nfs]
  rw [hk, hw]
  exact ⟨rfl, hp⟩
theorem Vj (u : List (Ty.T (.int .i64))) (n : Int) (hn : u.Nodup) (hu : (u.any fun y => y == n) = false) (hb : u.length <= 1048576) : d248 u n = true /\ (xM u n).Perm (u ++ [n]) := by
  have hd : (u ++ [n]).Nodup := by
    rw [List.nodup_append]
    refine ⟨hn, by simp, fun a ha b hb2 e => ?_⟩
    rw [List.mem_singleton] at hb2
    subst e hb2
    have := List.any_eq_false.1 hu _ ha
    simp at this
  have h := setOf (u ++ [n]) hd (by simp only [List.length_append, List.length_cons, List.length_nil]; omega)
  unfold d248 xM
  simp only [List.nil_append]
  rw [h.1]
  refine ⟨?_, h.2⟩
  have z1 : (u : List (Ty.T (.int .i64))).length * 8 <= 140737488351232 := by omega
  have z2 : (u ++ [n] : List (Ty.T (.int .i64))).length * 8 <= 140737488351232 := by simp only [List.length_append, List.length_cons, List.length_nil]; omega
  rw [decide_eq_true z1, decide_eq_true z2]
  rfl
theorem Tb (s : Ty.T y36) (l : List (Ty.T aa)) (e : Ty.T y27) (u w : List (Ty.T (.int .i64))) (hb : s.1.length <= 1048576) (hs : s.2.1.length <= 1048576) (hn : l.length <= 1048576) (hu : u.length <= 1048576) (hv : ∀ x ∈ l, x.2.2.2.2.2.2.1.2.2.2.2.2.2.length <= 1048576) (hp : u.Perm w) : dS s l e u = dS s l e w := by
  rw [(Tg s l e u hb hs hn hu hv).2, (Tg s l e w hb hs hn (by rw [← hp.length_eq]; exact hu) hv).2]
  have : gO s e u = gO s e w := by
    funext p x
    unfold gO
    rw [hp.any_eq]
  rw [this]
theorem pick (cs : List (Ty.T (.int .i64))) (n : Nat) (h1 : 0 < n) (hn : n <= 1048576) (hc : cs.length <= 1048576) : d245 cs (n : Int) = true /\ d138 cs (n : Int) = true /\ Fp cs (n : Int) = gT cs (n : Int) /\ @LE.le Int _ 0 (gT cs (n : Int)).1 /\ @LT.lt Int _ (gT cs (n : Int)).1 (n : Int) /\ (gT cs (n : Int)).2 = (if n < 2 then cs else cs.tail) /\ (cs = [] -> (gT cs (n : Int)).1 = (0 : Int)) /\ (n < 2 -> (gT cs (n : Int)).1 = (0 : Int)) := by
  have hcl := K7 cs (by omega)
  have z1 : cs.length * 8 <= 140737488351232 := by omega
  by_cases h2 : n < 2
  · have b1 : decide ((n : Int) < 2) = true := decide_eq_true (by omega)
    simp only [d245, t245, gT, d138, t138, Fp, b1, cond_true, List.nil_append, if_pos z1, hcl, fM, if_pos h2, Option.isSome_some, Option.getD_some, nfs]
    refine ⟨trivial, trivial, trivial, ?_, ?_, trivial, fun _ => trivial, fun _ => trivial⟩ <;> omega
  · have b1 : decide ((n : Int) < 2) = false := decide_eq_false (by omega)
    cases cs with
    | nil =>
      have b2 : (((([] : List (Ty.T (.int .i64))).length : Nat) : Int) == (0 : Int)) = true := rfl
      simp only [d245, t245, gT, d138, t138, Fp, b1, b2, cond_true, cond_false, List.nil_append, if_pos z1, hcl, fM, if_neg h2, Option.isSome_some, Option.getD_some, List.tail_nil, nfs]
      refine ⟨trivial, trivial, trivial, ?_, ?_, trivial, fun _ => trivial, fun _ => trivial⟩ <;> omega
    | cons x cs =>
      have b2 : ((((x :: cs : List (Ty.T (.int .i64))).length : Nat) : Int) == (0 : Int)) = false := by simp; omega
      have b3 : ¬ (n : Int) = 0 := by omega
      have b4 : (1 : Int) <= ((x :: cs : List (Ty.T (.int .i64))).length : Int) := by simp only [List.length_cons]; omega
      have e1 : ((x :: cs : List (Ty.T (.int .i64))).take (x :: cs : List (Ty.T (.int .i64))).length).drop 1 = cs := by rw [List.take_length]; rfl
      have hl : cs.length <= 1048576 := by simp only [List.length_cons] at hc; omega
      have z2 : cs.length * 8 <= 140737488351232 := by omega
      have hcl2 := K7 cs (by omega)
      have m1 : Int.tmod x (n : Int) < (n : Int) := Int.tmod_lt_of_pos x (by omega)
      have m2 : -(n : Int) < Int.tmod x (n : Int) := Int.lt_tmod_of_pos x (by omega)
      have h0 : ((x :: cs : List (Ty.T (.int .i64)))[0]?) = some x := rfl
      by_cases h3 : Int.tmod x (n : Int) < 0
      · have hw : IntKind.wrap .i64 (Int.tmod x (n : Int) + (n : Int)) = Int.tmod x (n : Int) + (n : Int) := bT (by omega) (by omega)
        simp only [d245, t245, gT, d138, t138, Fp, b1, b2, cond_true, cond_false, h0, ay, if_neg b3, decide_eq_true h3, if_pos b4, e1, List.nil_append, if_pos z2, hcl2, fM, if_neg h2, Option.isSome_some, Option.getD_some, hw, List.tail_cons, nfs]
        refine ⟨trivial, trivial, trivial, ?_, ?_, trivial, (fun h => by cases h), (fun h => absurd h (by omega))⟩ <;> omega
      · simp only [d245, t245, gT, d138, t138, Fp, b1, b2, cond_true, cond_false, h0, ay, if_neg b3, decide_eq_false h3, if_pos b4, e1, List.nil_append, if_pos z2, hcl2, fM, if_neg h2, Option.isSome_some, Option.getD_some, List.tail_cons, nfs]
        refine ⟨trivial, trivial, trivial, ?_, ?_, trivial, (fun h => by cases h), (fun h => absurd h (by omega))⟩ <;> omega
def lh (f : Ty.T y27 -> List (Ty.T aa) -> List (Ty.T (.int .i64)) -> List (Ty.T aa) × List (Ty.T y27) × List (Ty.T (.int .i64)) × List (Ty.T y66)) : List (Ty.T y27) -> List (Ty.T aa) -> List (Ty.T (.int .i64)) -> List (Ty.T aa) × List (Ty.T y27) × List (Ty.T (.int .i64)) × List (Ty.T y66)
  | [], T, cs => (T, [], cs, [])
  | y :: L, T, cs => ((lh f L (f y T cs).1 (f y T cs).2.2.1).1, (f y T cs).2.1 ++ (lh f L (f y T cs).1 (f y T cs).2.2.1).2.1, (lh f L (f y T cs).1 (f y T cs).2.2.1).2.2.1, (f y T cs).2.2.2 ++ (lh f L (f y T cs).1 (f y T cs).2.2.1).2.2.2)
noncomputable def sq (r : (Int) × (Ty.T q1) × (Ty.T a9) × (List (Ty.T y27)) × (List (Ty.T y27))) : Ty.T aa := (r.2.1.1, r.2.1.2.1, r.2.1.2.2.1, r.2.1.2.2.2.1, r.2.1.2.2.2.2.1, r.2.1.2.2.2.2.2.1, (r.2.1.2.2.2.2.2.2.1, r.2.1.2.2.2.2.2.2.2.1, r.2.1.2.2.2.2.2.2.2.2.1, r.2.1.2.2.2.2.2.2.2.2.2.1, r.2.1.2.2.2.2.2.2.2.2.2.2.1, r.2.1.2.2.2.2.2.2.2.2.2.2.2, r.2.2.2.2), r.2.2.1)
noncomputable def xn (s : Ty.T y36) (p : Ty.T aa) (x : Ty.T y27) (k : Int) (n : Nat) (u : List (Ty.T (.int .i64))) : Ty.T y66 := (p.1, Di s x, k, (n : Int), x, (cw p x).2.2.2.1, (cw p x).1, (u.length : Int))
noncomputable def atW (T : List (Ty.T aa)) (id : Int) : Ty.T aa := (T[(mj T id).toNat]?).getD (Ty.zero aa)
noncomputable def mwC (f : Ty.T y27 -> List (Ty.T (.int .i64)) -> List (Ty.T aa) -> List (Ty.T (.int .i64)) -> List (Ty.T aa) × List (Ty.T y27) × List (Ty.T (.int .i64)) × List (Ty.T y66)) (s : Ty.T y36) (x : Ty.T y27) (u : List (Ty.T (.int .i64))) (T : List (Ty.T aa)) (cs : List (Ty.T (.int .i64))) (oo : List (Ty.T (.int .i64))) : List (Ty.T aa) × List (Ty.T y27) × List (Ty.T (.int .i64)) × List (Ty.T y66) :=
  let k1 := gT cs (oo.length : Int)
  let p := atW T (oo.getD k1.1.toNat 0)
  let z := lh (fun y => f y (u ++ [p.1])) (cw p x).2.2.2.1 (Ap T (sq (cw p x))) k1.2
  (z.1, z.2.1, z.2.2.1, xn s p x k1.1 oo.length u :: z.2.2.2)
noncomputable def mw (s : Ty.T y36) : Nat -> Ty.T y27 -> List (Ty.T (.int .i64)) -> List (Ty.T aa) -> List (Ty.T (.int .i64)) -> List (Ty.T aa) × List (Ty.T y27) × List (Ty.T (.int .i64)) × List (Ty.T y66)
  | 0, _, _, T, cs => (T, [], cs, [])
  | k + 1, x, u, T, cs =>
    match dS s T x u with
    | [] => (T, cond (rJ x) [] [x], cs, [])
    | o :: os => mwC (mw s k) s x u T cs (o :: os)
structure FZ (c : Nat) (ids : List (Ty.T (.int .i64))) (T : List (Ty.T aa)) (out : List (Ty.T y27)) (cs : List (Ty.T (.int .i64))) (made : List (Ty.T y66)) : Prop where
  tb : T.length <= 1048576
  tv : ∀ x ∈ T, x.2.2.2.2.2.2.1.2.2.2.2.2.2.length <= 1048576
  ti : T.map (·.1) = ids
  ob : out.length + c <= 1048576
  mb : made.length + c <= 1048576
  cb : cs.length <= 1048576
  mv : ∀ t ∈ made, t.2.2.2.2.2.1.length <= 1048576
theorem FZ.WJ {c c' : Nat} {ids : List (Ty.T (.int .i64))} {T : List (Ty.T aa)} {out : List (Ty.T y27)} {cs : List (Ty.T (.int .i64))} {made : List (Ty.T y66)} (h : FZ c ids T out cs made) (hc : c' <= c) : FZ c' ids T out cs made :=
  ⟨h.tb, h.tv, h.ti, by have := h.ob; omega, by have := h.mb; omega, h.cb, h.mv⟩
def Ls (w : Nat) (RS : a8) (RI : bG) (M : Ty.T y27 -> List (Ty.T aa) -> List (Ty.T (.int .i64)) -> List (Ty.T aa) × List (Ty.T y27) × List (Ty.T (.int .i64)) × List (Ty.T y66)) (uS uI : List (Ty.T (.int .i64))) (s : Ty.T y36) (ids : List (Ty.T (.int .i64))) : Prop :=
  ∀ x T out cs made c, FZ (c + w) ids T out cs made -> RS x uS s T cs out made = (true, (s, (M x T cs).1, (M x T cs).2.2.1, out ++ (M x T cs).2.1, made ++ (M x T cs).2.2.2)) /\ RI x uI s out T cs made = (true, (true, s, out ++ (M x T cs).2.1, (M x T cs).1, (M x T cs).2.2.1, made ++ (M x T cs).2.2.2)) /\ FZ c ids (M x T cs).1 (out ++ (M x T cs).2.1) (M x T cs).2.2.1 (made ++ (M x T cs).2.2.2)
theorem UM {w : Nat} {RS : a8} {RI : bG} {M : Ty.T y27 -> List (Ty.T aa) -> List (Ty.T (.int .i64)) -> List (Ty.T aa) × List (Ty.T y27) × List (Ty.T (.int .i64)) × List (Ty.T y66)} {uS uI : List (Ty.T (.int .i64))} {s : Ty.T y36} {ids : List (Ty.T (.int .i64))} (hG : Ls w RS RI M uS uI s ids) (L : List (Ty.T y27)) (hL : L.length <= 1048576) :
    ∀ (rem i n1 n2 c : Nat) (T : List (Ty.T aa)) (out : List (Ty.T y27)) (cs : List (Ty.T (.int .i64))) (made : List (Ty.T y66)) (z : List (Ty.T aa) × List (Ty.T y27) × List (Ty.T (.int .i64)) × List (Ty.T y66)), lh M (L.drop i) T cs = z -> i + rem = L.length -> rem < n1 -> rem < n2 -> FZ (c + rem * w) ids T out cs made ->
      iter (gA RS) n1 (uS, (i : Int), s, L, T, cs, out, made, ()) = some (0, (uS, (L.length : Int), s, L, z.1, z.2.2.1, out ++ z.2.1, made ++ z.2.2.2, ())) /\
        iter (gy RI) n2 (uI, false, L, (L.length : Int), (i : Int), s, T, out, cs, made, ()) = some (1, (uI, false, L, (L.length : Int), (L.length : Int), s, z.1, out ++ z.2.1, z.2.2.1, made ++ z.2.2.2, ())) /\ FZ c ids z.1 (out ++ z.2.1) z.2.2.1 (made ++ z.2.2.2)
  | 0, i, n1, n2, c, T, out, cs, made, z, hz, hi, hn1, hn2, hT => by
    obtain ⟨n1, rfl⟩ : ∃ n', n1 = n' + 1 := ⟨n1 - 1, by omega⟩
    obtain ⟨n2, rfl⟩ : ∃ n', n2 = n' + 1 := ⟨n2 - 1, by omega⟩
    have : i = L.length := by omega
    subst this
    rw [List.drop_length] at hz
    subst hz
    have e1 : gA RS (uS, (L.length : Int), s, L, T, cs, out, made, ()) = some (1, (uS, (L.length : Int), s, L, T, cs, out, made, ())) := by simp [gA, kx]
    have e2 : gy RI (uI, false, L, (L.length : Int), (L.length : Int), s, T, out, cs, made, ()) = some (2, (uI, false, L, (L.length : Int), (L.length : Int), s, T, out, cs, made, ())) := by simp [gy, kt]
    simp only [lh, List.append_nil]
    refine ⟨?_, ?_, hT.WJ (by omega)⟩
    · rw [iter, e1]; rfl
    · rw [iter, e2]; rfl
  | rem + 1, i, n1, n2, c, T, out, cs, made, z, hz, hi, hn1, hn2, hT => by
    obtain ⟨n1, rfl⟩ : ∃ n', n1 = n' + 1 := ⟨n1 - 1, by omega⟩
    obtain ⟨n2, rfl⟩ : ∃ n', n2 = n' + 1 := ⟨n2 - 1, by omega⟩
    have h1 : L[i]? = some (L[i]'(by omega)) := List.getElem?_eq_getElem (by omega)
    have g5 : (0 : Int) <= (i : Int) := by omega
    have g6 : (i : Int) < (L.length : Int) := by omega
    have hw := aT (n := i) (by omega)
    rw [List.drop_eq_getElem_cons (by omega)] at hz
    generalize L[i]'(by omega) = y at h1 hz
    obtain ⟨hS, hI, hT1⟩ := hG y T out cs made (c + rem * w) (hT.WJ (by rw [Nat.succ_mul]; omega))
    obtain ⟨⟨T1, o1, c1, t1⟩, hm⟩ : ∃ q, M y T cs = q := ⟨_, rfl⟩
    simp only [lh, hm] at hz
    rw [hm] at hS hI hT1
    dsimp only at hS hI hT1
    obtain ⟨⟨T2, o2, c2, t2⟩, hf⟩ : ∃ q, lh M (L.drop (i + 1)) T1 c1 = q := ⟨_, rfl⟩
    rw [hf] at hz
    subst hz
    have e1 : gA RS (uS, (i : Int), s, L, T, cs, out, made, ()) = some (0, (uS, ((i + 1 : Nat) : Int), s, L, T1, c1, out ++ o1, made ++ t1, ())) := by
      simp only [gA, kx, decide_eq_true g6, cond_true, if_pos g5, if_pos g6, Int.toNat_natCast, h1, ay, hS, hw]
    have e2 : gy RI (uI, false, L, (L.length : Int), (i : Int), s, T, out, cs, made, ()) = some (0, (uI, false, L, (L.length : Int), ((i + 1 : Nat) : Int), s, T1, out ++ o1, c1, made ++ t1, ())) := by
      simp only [gy, kt, decide_eq_true g6, cond_true, if_pos g5, Int.toNat_natCast, h1, ay, hI, Bool.not_true, cond_false, hw]
    obtain ⟨h3, h4, h5⟩ := UM hG L hL rem (i + 1) n1 n2 c T1 (out ++ o1) c1 (made ++ t1) _ hf (by omega) (by omega) (by omega) hT1
    simp only [← List.append_assoc]
    refine ⟨?_, ?_, h5⟩
    · rw [iter, e1]; exact h3
    · rw [iter, e2]; exact h4
theorem XJ {RS : a8} {x : Ty.T y27} {u : List (Ty.T (.int .i64))} {s : Ty.T y36} {T : List (Ty.T aa)} {cs : List (Ty.T (.int .i64))} {out : List (Ty.T y27)} {made : List (Ty.T y66)} {r} (h : kf RS x u s T cs out made some = some r) : (rF RS x u s T cs out made, rB RS x u s T cs out made) = (true, r) := by
  unfold rF rB
  rw [h]
  rfl
theorem Yx {RI : bG} {x : Ty.T y27} {u : List (Ty.T (.int .i64))} {s : Ty.T y36} {T : List (Ty.T aa)} {out : List (Ty.T y27)} {cs : List (Ty.T (.int .i64))} {made : List (Ty.T y66)} {r} (h : kh RI x u s out T cs made some = some r) : (rh RI x u s out T cs made, rL RI x u s out T cs made) = (true, r) := by
  unfold rh rL
  rw [h]
  rfl
theorem Ve {w k : Nat} {RS : a8} {RI : bG} {uS uI : List (Ty.T (.int .i64))} {s : Ty.T y36} {ids : List (Ty.T (.int .i64))} (hb : s.1.length <= 1048576) (hs : s.2.1.length <= 1048576) (hp : uS.Perm uI) (hn : uS.Nodup) (hu : uS.length <= 1048576)
    (hG : ∀ y, y ∈ ids -> (uS.any fun z => z == y) = false -> Ls w RS RI (fun x => mw s k x (uI ++ [y])) (xM uS y) (uI ++ [y]) s ids) :
    Ls (1 + 3 * w) (fun a0 a1 a2 a3 a4 a5 a6 => (rF RS a0 a1 a2 a3 a4 a5 a6, rB RS a0 a1 a2 a3 a4 a5 a6)) (fun a0 a1 a2 a3 a4 a5 a6 => (rh RI a0 a1 a2 a3 a4 a5 a6, rL RI a0 a1 a2 a3 a4 a5 a6)) (fun x => mw s (k + 1) x uI) uS uI s ids := by
  intro x T out cs made c hT
  have hul : uI.length = uS.length := hp.length_eq.symm
  have ho := options s T x uS hb hs hT.tb hu hT.tv
  have hi := options s T x uI hb hs hT.tb (by omega) hT.tv
  have he := Tb s T x uS uI hb hs hT.tb hu hT.tv hp
  obtain ⟨hd, -, -, hlen, hmem⟩ := ho
  obtain ⟨-, hdI, hvI, -, -⟩ := hi
  have hvM := he.symm
  rw [← he] at hvI
  clear he
  obtain ⟨o, hoe⟩ : ∃ o, dS s T x uS = o := ⟨_, rfl⟩
  rw [hoe] at hlen hmem hvI hvM
  have hob := hT.ob
  have hmb := hT.mb
  cases o with
  | nil =>
    have hmw : mw s (k + 1) x uI T cs = (T, cond (rJ x) [] [x], cs, []) := by
      rw [mw, hvM]
    dsimp only
    rw [hmw]
    have z1 : (out ++ [x] : List (Ty.T y27)).length * 56 <= 140737488351232 := by simp only [List.length_append, List.length_cons, List.length_nil]; omega
    have z2 : (out.length + 1) * 56 <= 140737488351232 := by omega
    cases hgn : rJ x
    · simp only [cond_false, List.append_nil]
      refine ⟨XJ ?_, Yx ?_, ⟨hT.tb, hT.tv, hT.ti, by simp only [List.length_append, List.length_cons, List.length_nil]; omega, by omega, hT.cb, hT.mv⟩⟩
      · simp [kf, hd, hoe, hgn, sC, sh, jA, ru, jj, z2]
      · simp [kh, hdI, hvI, gone, hgn, rb, rG, jf, sL, iw, z2]
    · simp only [cond_true, List.append_nil]
      refine ⟨XJ ?_, Yx ?_, hT.WJ (by omega)⟩
      · simp [kf, hd, hoe, hgn, sC, sh, jA, ru, jj]
      · simp [kh, hdI, hvI, gone, hgn, rb, rG, jf, sL, iw]
  | cons y0 o =>
    have hne : ((((y0 :: o).length : Nat) : Int) == (0 : Int)) = false := by simp; omega
    have hmw : mw s (k + 1) x uI T cs = mwC (mw s k) s x uI T cs (y0 :: o) := by rw [mw, hvM]
    obtain ⟨oo, hoo⟩ : ∃ oo, oo = y0 :: o := ⟨_, rfl⟩
    rw [← hoo] at hoe hvI hne hmem hlen hmw
    have hol : oo.length <= 1048576 := Nat.le_trans hlen hT.tb
    have hpos : 0 < oo.length := by rw [hoo]; simp
    obtain ⟨pd, pdI, pvI, pk0, pkn, pcs, -, -⟩ := pick cs oo.length hpos hol hT.cb
    obtain ⟨⟨kk, cs1⟩, hpk⟩ : ∃ q, gT cs (oo.length : Int) = q := ⟨_, rfl⟩
    rw [hpk] at pvI pk0 pkn pcs
    dsimp only at pk0 pkn pcs
    have hcb1 : cs1.length <= 1048576 := by
      rw [pcs]
      have := hT.cb
      split
      · exact this
      · rw [List.length_tail]; omega
    obtain ⟨ch, hch⟩ : ∃ ch : Nat, @Eq Int kk (ch : Int) := ⟨Int.toNat kk, (Int.toNat_of_nonneg pk0).symm⟩
    have hcl : ch < oo.length := by have := pkn; rw [hch] at this; omega
    have hy : oo[ch]? = some (oo[ch]'hcl) := List.getElem?_eq_getElem hcl
    obtain ⟨⟨p0, hp0, hid0⟩, hun⟩ := hmem (oo[ch]'hcl) (List.getElem_mem _)
    obtain ⟨y, hyy⟩ : ∃ y, oo[ch]'hcl = y := ⟨_, rfl⟩
    rw [hyy] at hy hid0 hun
    rcases eaR T y hT.tb with ⟨_, h⟩ | ⟨j, p, hj, hjl, hpj, hpid⟩
    · exact absurd hid0 (h p0 hp0)
    subst hpid
    have hpm : p ∈ T := List.mem_of_getElem? hpj
    have hat : atW T p.1 = p := by
      unfold atW
      rw [hj, Int.toNat_natCast, hpj]
      rfl
    obtain ⟨hda1, hda2, hda3, hda4, hda5, hda6⟩ := Vg p x (hT.tv p hpm)
    have hei := ei T p.1 hT.tb
    have hea := (ea T p.1 hT.tb).1
    have hcs := Sw s x hb
    have hgd : oo.getD ch 0 = p.1 := by rw [List.getD_eq_getElem?_getD, hy]; rfl
    unfold mwC at hmw
    simp only [hpk, hch, Int.toNat_natCast, hgd, hat] at hmw
    have htn' : ∃ tn : Ty.T y66, xn s p x (ch : Int) oo.length uI = tn := ⟨_, rfl⟩
    obtain ⟨tn, htn⟩ := htn'
    rw [htn] at hmw
    unfold xn at htn
    unfold sq at hmw
    obtain ⟨⟨rn, q, gd, L, pl⟩, hdo⟩ : ∃ z, cw p x = z := ⟨_, rfl⟩
    rw [hdo] at hda3 hda4 hda5 hda6 htn hmw
    dsimp only at hda4 hda5 hda6 htn hmw
    have b3 : (0 : Int) <= (made.length : Int) := by omega
    have g0 : (0 : Int) <= (ch : Int) := by omega
    have g1 : (ch : Int) < (oo.length : Int) := by omega
    have j0 : (0 : Int) <= (j : Int) := by omega
    have j1 : (j : Int) < (T.length : Int) := by omega
    have z4 : L.length * 56 <= 140737488351232 := by omega
    have hulS : (uS.length : Int) = (uI.length : Int) := by omega
    have hw := Vj uS p.1 hn hun hu
    obtain ⟨hu1, hu2, hu3, hu4, hu5⟩ := update T ((q.1, q.2.1, q.2.2.1, q.2.2.2.1, q.2.2.2.2.1, q.2.2.2.2.2.1, (q.2.2.2.2.2.2.1, q.2.2.2.2.2.2.2.1, q.2.2.2.2.2.2.2.2.1, q.2.2.2.2.2.2.2.2.2.1, q.2.2.2.2.2.2.2.2.2.2.1, q.2.2.2.2.2.2.2.2.2.2.2, pl), gd) : Ty.T aa) hT.tb hT.tv (show pl.length <= 1048576 by rw [hda5]; exact hT.tv p hpm)
    have hG1 := hG p.1 (by rw [← hT.ti]; exact List.mem_map.2 ⟨p, hpm, rfl⟩) hun
    obtain ⟨T1, hT1⟩ : ∃ T1, Ap T ((q.1, q.2.1, q.2.2.1, q.2.2.2.1, q.2.2.2.2.1, q.2.2.2.2.2.1, (q.2.2.2.2.2.2.1, q.2.2.2.2.2.2.2.1, q.2.2.2.2.2.2.2.2.1, q.2.2.2.2.2.2.2.2.2.1, q.2.2.2.2.2.2.2.2.2.2.1, q.2.2.2.2.2.2.2.2.2.2.2, pl), gd) : Ty.T aa) = T1 := ⟨_, rfl⟩
    rw [hT1] at hu3 hu4 hu5 hmw
    have hlw : L.length * w <= 3 * w := Nat.mul_le_mul_right w hda4
    have hTab : FZ (c + L.length * w) ids T1 out cs1 (made ++ [tn]) := by
      refine ⟨?_, hu5, by rw [hu4]; exact hT.ti, by omega, ?_, hcb1, fun t ht => ?_⟩
      · have := congrArg List.length hu4
        rw [List.length_map, List.length_map] at this
        have := hT.tb
        omega
      · simp only [List.length_append, List.length_cons, List.length_nil]; omega
      · rcases List.mem_append.1 ht with h | h
        · exact hT.mv t h
        · rw [List.mem_singleton] at h
          subst h
          rw [← htn]
          show L.length <= 1048576
          omega
    obtain ⟨⟨T2, o2, c2, t2⟩, hf⟩ : ∃ q, lh (fun x => mw s k x (uI ++ [p.1])) L T1 cs1 = q := ⟨_, rfl⟩
    rw [hf] at hmw
    dsimp only at hmw
    obtain ⟨hl1, hl2, hT2⟩ := UM hG1 L (by omega) L.length 0 (mF (xM uS p.1, ((0 : Nat) : Int), s, L, T1, cs1, out, made ++ [tn], ())) (nr (uI ++ [p.1], false, L, (L.length : Int), ((0 : Nat) : Int), s, T1, out, cs1, made ++ [tn], ())) c T1 out cs1 (made ++ [tn]) (T2, o2, c2, t2) (by rw [List.drop_zero, hf]) (by omega) (by simp only [mF]; omega) (by simp only [nr]; omega) hTab
    dsimp only at hl1 hl2 hT2
    have hkS : Gf RS (xM uS p.1) 0 s L T1 cs1 out (made ++ [tn]) 0 = true := aX hl1 0
    have hwS : He RS (xM uS p.1) 0 s L T1 cs1 out (made ++ [tn]) = _ := bo hl1
    have hk0 : sf RI (uI ++ [p.1]) false L (L.length : Int) 0 s T1 out cs1 (made ++ [tn]) 0 = false := aX hl2 0
    have hk1 : sf RI (uI ++ [p.1]) false L (L.length : Int) 0 s T1 out cs1 (made ++ [tn]) 1 = true := aX hl2 1
    have hwI : Fq RI (uI ++ [p.1]) false L (L.length : Int) 0 s T1 out cs1 (made ++ [tn]) = _ := bo hl2
    have z5 : (made ++ [tn] : List (Ty.T y66)).length * 128 <= 140737488351232 := by simp only [List.length_append, List.length_cons, List.length_nil]; omega
    have z6 : (uI ++ [p.1] : List (Ty.T (.int .i64))).length * 8 <= 140737488351232 := by simp only [List.length_append, List.length_cons, List.length_nil]; omega
    have hcl2 : d135 uI = true /\ fM uI = uI := ⟨K7 uI (by omega), rfl⟩
    have hpk1 : DG (oo.length : Int) s out T cs made = true /\ bJ (oo.length : Int) s out T cs made = ((ch : Int), true, s, out, T, cs1, made) := by
      simp only [DG, uU, bJ, pdI, pvI, hch, cond_true, Option.isSome_some, Option.getD_some, nfs]
      exact ⟨trivial, trivial⟩
    dsimp only
    rw [hmw]
    have hap : made ++ tn :: t2 = made ++ [tn] ++ t2 := by rw [List.append_assoc]; rfl
    dsimp only
    rw [hap]
    refine ⟨XJ ?_, Yx ?_, hT2⟩
    · simp only [kf, hd, hoe, hne, cond_false, cond_true, pd, hpk, hch, if_pos g0, if_pos g1, Int.toNat_natCast, hy, ay, hea, hj, if_pos j0, if_pos j1, hpj, hda1, hdo, hu1, xR, jh, hcs.1, List.nil_append, if_pos z4, Option.isSome_some, hulS, htn, if_pos z5, hw.1, rN, kX, hT1, hkS, hwS]
    · simp only [kh, hdI, hvI, hne, cond_true, cond_false, hpk1.1, hpk1.2, Bool.not_true, if_pos g0, if_pos g1, Int.toNat_natCast, hy, ay, kF, sd, m4, dQ, hei.1, hei.2, hj, if_pos j0, if_pos j1, hpj, hda2, hda3, hcs.2.1, hcs.2.2, Sn, hu2, hu3, hT1, xE, kG, htn, if_pos z5, Option.isSome_some, hcl2.1, hcl2.2, if_pos z6, hk0, hk1, hwI]
def WR : Nat -> Nat
  | 0 => 1
  | m + 1 => 1 + 3 * WR m
theorem We {α : Type} {p q : α -> Bool} (h : ∀ x, p x = true -> q x = true) {y : α} (hq : q y = true) (hp : p y = false) : ∀ l : List α, y ∈ l -> l.countP p + 1 <= l.countP q
  | [], hy => by cases hy
  | a :: l, hy => by
    have hm : l.countP p <= l.countP q := List.countP_mono_left fun x _ => h x
    rw [List.countP_cons, List.countP_cons]
    rcases List.mem_cons.1 hy with rfl | hy
    · simp only [hq, hp, if_true, Bool.false_eq_true, if_false]; omega
    · have := We h hq hp l hy
      cases hpa : p a with
      | true => simp only [h a hpa, if_true]; omega
      | false => simp only [Bool.false_eq_true, if_false]; omega
def unused (u ids : List (Ty.T (.int .i64))) : Nat := ids.countP fun y => !(u.any fun z => z == y)
theorem Nk (l : List (Ty.T aa)) (hb : l.length <= 1048576) (hv : ∀ x ∈ l, x.2.2.2.2.2.2.1.2.2.2.2.2.2.length <= 1048576) (h : qL l = true) : l.length <= 5 := by
  unfold qL at h
  rcases JW l hb hv with ⟨j, x1, x2⟩ | ⟨x1, x2⟩
  · have e0 : fP l false 0 0 = true := aX x1 0
    have ew : l5 l false 0 = _ := bo x1
    simp only [e0, ew, cond_true] at h
    cases h
  · have e0 : fP l false 0 0 = false := aX x1 0
    have e1 : fP l false 0 1 = true := aX x1 1
    have ew : l5 l false 0 = _ := bo x1
    simp only [e0, e1, ew, cond_true, cond_false] at h
    have := of_decide_eq_true h
    omega
theorem aa2 {s : Ty.T y36} {ids : List (Ty.T (.int .i64))} (hb : s.1.length <= 1048576) (hs : s.2.1.length <= 1048576) :
    ∀ (m k k1 k2 : Nat) (uS uI : List (Ty.T (.int .i64))), m + 1 <= k -> m + 2 <= k1 -> m + 2 <= k2 -> uS.Perm uI -> uS.Nodup -> uS.length + m <= 1048576 -> unused uS ids <= m -> Ls (WR m) (qj k1) (n9 k2) (fun x => mw s k x uI) uS uI s ids
  | 0, k, k1, k2, uS, uI, h0, h1, h2, hp, hn, hu, hc => by
    obtain ⟨k, rfl⟩ : ∃ k', k = k' + 1 := ⟨k - 1, by omega⟩
    obtain ⟨k1, rfl⟩ : ∃ k, k1 = k + 2 := ⟨k1 - 2, by omega⟩
    obtain ⟨k2, rfl⟩ : ∃ k, k2 = k + 2 := ⟨k2 - 2, by omega⟩
    refine Ve (w := 0) hb hs hp hn (by omega) fun y hy hf => ?_
    have : 0 < unused uS ids := List.countP_pos_iff.2 ⟨y, hy, by rw [hf]; rfl⟩
    omega
  | m + 1, k, k1, k2, uS, uI, h0, h1, h2, hp, hn, hu, hc => by
    obtain ⟨k, rfl⟩ : ∃ k', k = k' + 1 := ⟨k - 1, by omega⟩
    obtain ⟨k1, rfl⟩ : ∃ k, k1 = k + 2 := ⟨k1 - 2, by omega⟩
    obtain ⟨k2, rfl⟩ : ∃ k, k2 = k + 2 := ⟨k2 - 2, by omega⟩
    refine Ve (w := WR m) hb hs hp hn (by omega) fun y hy hf => ?_
    have hw := (Vj uS y hn hf (by omega)).2
    have hd : (uS ++ [y]).Nodup := by
      rw [List.nodup_append]
      refine ⟨hn, by simp, fun a ha b hb => ?_⟩
      rw [List.mem_singleton] at hb
      subst hb
      intro he
      subst he
      have := List.any_eq_false.1 hf a ha
      simp at this
    refine aa2 hb hs m k (k1 + 1) (k2 + 1) _ _ (by omega) (by omega) (by omega) (hw.trans (hp.append_right [y])) (hw.nodup_iff.2 hd) (by rw [hw.length_eq, List.length_append]; simp only [List.length_cons, List.length_nil]; omega) ?_
    have h3 : unused (xM uS y) ids = unused (uS ++ [y]) ids := by
      unfold unused
      congr 1
      funext x
      rw [hw.any_eq]
    have h4 : unused (uS ++ [y]) ids + 1 <= unused uS ids := We (fun x hx => by simp only [List.any_append, Bool.not_or, Bool.and_eq_true] at hx; exact hx.1) (by rw [hf]; rfl) (by simp) ids hy
    omega
theorem ahe (x : Ty.T y27) (u : List (Ty.T (.int .i64))) (s : Ty.T y36) (T : List (Ty.T aa)) (cs : List (Ty.T (.int .i64))) (out : List (Ty.T y27)) (made : List (Ty.T y66)) : (CZ x u s out T cs made, ov x u s out T cs made) = n9 40 x u s out T cs made := by rfl
/-- What rewriting answers. -/
noncomputable def rwM (s : Ty.T y36) (l : List (Ty.T aa)) (e : Ty.T y27) (cs : List (Ty.T (.int .i64))) : List (Ty.T y27) × List (Ty.T aa) × List (Ty.T (.int .i64)) × List (Ty.T y66) :=
  cond (Jd s && qL l && dX e) ((mw s 6 e [] l cs).2.1, (mw s 6 e [] l cs).1, (mw s 6 e [] l cs).2.2.1, (mw s 6 e [] l cs).2.2.2) ([], l, cs, [])
theorem rewrite (s : Ty.T y36) (l : List (Ty.T aa)) (e : Ty.T y27) (cs : List (Ty.T (.int .i64))) (hb : s.1.length <= 1048576) (hs : s.2.1.length <= 1048576) (hl : l.length <= 1048576) (hv : ∀ x ∈ l, x.2.2.2.2.2.2.1.2.2.2.2.2.2.length <= 1048576) (hc : cs.length <= 1048576) :
    d52 s l e cs = true /\ d42 s l e cs = true /\ v52 s l e cs = rwM s l e cs /\ v42 s l e cs = rwM s l e cs /\ (rwM s l e cs).1.length <= 1048576 /\ (rwM s l e cs).2.1.length = l.length /\ (∀ x ∈ (rwM s l e cs).2.1, x.2.2.2.2.2.2.1.2.2.2.2.2.2.length <= 1048576) /\ (rwM s l e cs).2.2.1.length <= 1048576 /\ (rwM s l e cs).2.2.2.length <= 1048576 /\ ∀ t ∈ (rwM s l e cs).2.2.2, t.2.2.2.2.2.1.length <= 1048576 := by
  have c1 := ctS l hl hv
  have c2 := ctI l hl hv
  have q1 := T6 s hb hs
  have q2 := TV l hl hv
  have q3 := Ot e
  have z1 : cs.length * 8 <= 140737488351232 := by omega
  have hcl := K7 cs (by omega)
  have key : ∃ (out : List (Ty.T y27)) (T : List (Ty.T aa)) (cs' : List (Ty.T (.int .i64))) (made : List (Ty.T y66)), t52 s l e cs some = some (out, T, cs', made) /\ t42 s l e cs some = some (out, T, cs', made) /\ rwM s l e cs = (out, T, cs', made) /\ out.length <= 1048576 /\ T.length = l.length /\ (∀ x ∈ T, x.2.2.2.2.2.2.1.2.2.2.2.2.2.length <= 1048576) /\ cs'.length <= 1048576 /\ made.length <= 1048576 /\ ∀ t ∈ made, t.2.2.2.2.2.1.length <= 1048576 := by
    cases h1 : Jd s with
    | false =>
      refine ⟨[], l, cs, [], ?_, ?_, by simp [rwM, h1], by simp, rfl, hv, hc, by simp, fun t h => by cases h⟩
      · simp [t52, A9, pF, Bx, pA, sD, AD, sA, sJ, c1.1, c1.2, q1.1, h1, z1]
      · simp [t42, c2.1, c2.2, q1.2.1, q1.2.2, h1, hcl, fM]
    | true =>
    cases h2 : qL l with
    | false =>
      refine ⟨[], l, cs, [], ?_, ?_, by simp [rwM, h2], by simp, rfl, hv, hc, by simp, fun t h => by cases h⟩
      · simp [t52, A9, pF, Bx, pA, sD, AD, sA, sJ, c1.1, c1.2, q1.1, h1, q2.1, h2, z1]
      · cases h3 : dX e <;> simp [t42, c2.1, c2.2, q1.2.1, q1.2.2, h1, q2.2.1, q2.2.2, h2, q3, h3, hcl, fM]
    | true =>
    cases h3 : dX e with
    | false =>
      refine ⟨[], l, cs, [], ?_, ?_, by simp [rwM, h3], by simp, rfl, hv, hc, by simp, fun t h => by cases h⟩
      · simp [t52, A9, pF, Bx, pA, sD, AD, sA, sJ, c1.1, c1.2, q1.1, h1, q2.1, h2, h3, z1]
      · simp [t42, c2.1, c2.2, q1.2.1, q1.2.2, h1, q2.2.1, q2.2.2, h2, q3, h3, hcl, fM]
    | true =>
      have h5 := Nk l hl hv h2
      have hun : unused [] (l.map (·.1)) <= 5 := Nat.le_trans List.countP_le_length (by rw [List.length_map]; exact h5)
      obtain ⟨x1, x2, x3⟩ := aa2 (s := s) (ids := l.map (·.1)) hb hs 5 6 40 40 [] [] (by omega) (by omega) (by omega) (List.Perm.refl _) List.nodup_nil (by simp) hun e l [] cs [] 0
        ⟨hl, hv, rfl, by simp [WR], by simp [WR], hc, fun t h => by cases h⟩
      have hM : rwM s l e cs = ((mw s 6 e [] l cs).2.1, (mw s 6 e [] l cs).1, (mw s 6 e [] l cs).2.2.1, (mw s 6 e [] l cs).2.2.2) := by simp [rwM, h1, h2, h3]
      obtain ⟨⟨T, out, cs', made⟩, hm⟩ : ∃ z, mw s 6 e [] l cs = z := ⟨_, rfl⟩
      rw [hm] at hM
      dsimp only at x1 x2 x3
      rw [hm] at x1 x2 x3
      dsimp only at x1 x2 x3 hM
      rw [List.nil_append, List.nil_append] at x1 x2 x3
      have y1 : JK e [] s l cs [] [] = true := congrArg Prod.fst x1
      have y2 : qd e [] s l cs [] [] = (s, T, cs', out, made) := congrArg Prod.snd x1
      rw [← ahe] at x2
      have y3 : CZ e [] s [] l cs [] = true := congrArg Prod.fst x2
      have y4 : ov e [] s [] l cs [] = (true, s, out, T, cs', made) := congrArg Prod.snd x2
      have mb : made.length <= 1048576 := by have := x3.mb; omega
      have c3 := cuI made mb x3.mv
      have hTl : T.length = l.length := by have := congrArg List.length x3.ti; rwa [List.length_map, List.length_map] at this
      refine ⟨out, T, cs', made, ?_, ?_, hM, by have := x3.ob; omega, hTl, x3.tv, x3.cb, mb, x3.mv⟩
      · simp [t52, A9, pF, Bx, pA, sD, AD, sA, sJ, c1.1, c1.2, q1.1, h1, q2.1, h2, h3, z1, y1, y2]
      · simp [t42, c2.1, c2.2, q1.2.1, q1.2.2, h1, q2.2.1, q2.2.2, h2, q3, h3, hcl, fM, y3, y4, c3.1, c3.2]
  obtain ⟨out, T, cs', made, k1, k2, hM, k3⟩ := key
  have w1 : v52 s l e cs = (out, T, cs', made) := by
    show (t52 s l e cs some).getD _ = _
    rw [k1]
    rfl
  have w2 : v42 s l e cs = (out, T, cs', made) := by
    show (t42 s l e cs some).getD _ = _
    rw [k2]
    rfl
  rw [w1, w2, hM]
  refine ⟨?_, ?_, rfl, rfl, k3⟩
  · show (t52 s l e cs some).isSome = true
    rw [k1]
    rfl
  · show (t42 s l e cs some).isSome = true
    rw [k2]
    rfl
theorem Xk {s : Ty.T y36} {e : Ty.T y27} {u : List (Ty.T (.int .i64))} {q : Int × List (Ty.T (.int .i64))} {x : Ty.T aa} {l : List (Ty.T aa)} (hx : x ∈ l) (h : ∀ y ∈ q.2, ∃ p ∈ l, p.1 = y /\ gU s p e = true) : ∀ y ∈ (gO s e u q x).2, ∃ p ∈ l, p.1 = y /\ gU s p e = true := by
  unfold gO
  cases h1 : u.any fun y => y == x.1
  · cases h2 : gU s x e
    · exact h
    · by_cases h3 : x.2.2.2.1 > q.1
      · simp only [h3, decide_true, Bool.not_true, cond_false, cond_true]
        exact h
      · by_cases h4 : x.2.2.2.1 < q.1
        · simp only [h3, h4, decide_true, decide_false, Bool.not_true, cond_false, cond_true]
          intro y hy
          rw [List.mem_singleton] at hy
          subst hy
          exact ⟨x, hx, rfl, h2⟩
        · simp only [h3, h4, decide_false, Bool.not_true, cond_false]
          intro y hy
          rcases List.mem_append.1 hy with hy | hy
          · exact h y hy
          · rw [List.mem_singleton] at hy
            subst hy
            exact ⟨x, hx, rfl, h2⟩
  · exact h
theorem Us (s : Ty.T y36) (T : List (Ty.T aa)) (e : Ty.T y27) (u : List (Ty.T (.int .i64))) (hb : s.1.length <= 1048576) (hs : s.2.1.length <= 1048576) (hn : T.length <= 1048576) (hu : u.length <= 1048576) (hv : ∀ x ∈ T, x.2.2.2.2.2.2.1.2.2.2.2.2.2.length <= 1048576) : ∀ y ∈ dS s T e u, ∃ p ∈ T, p.1 = y /\ gU s p e = true := by
  rw [(Tg s T e u hb hs hn hu hv).2]
  have : ∀ (l : List (Ty.T aa)) (q : Int × List (Ty.T (.int .i64))), (∀ x ∈ l, x ∈ T) -> (∀ y ∈ q.2, ∃ p ∈ T, p.1 = y /\ gU s p e = true) -> ∀ y ∈ (l.foldl (gO s e u) q).2, ∃ p ∈ T, p.1 = y /\ gU s p e = true := by
    intro l
    induction l with
    | nil => intro q _ h; exact h
    | cons x l ih => intro q hm h; exact ih _ (fun z hz => hm z (List.mem_cons_of_mem _ hz)) (Xk (hm x List.mem_cons_self) h)
  exact this T (5, []) (fun _ h => h) (fun y hy => by cases hy)
theorem S7 {T : List (Ty.T aa)} (hn : (T.map (·.1)).Nodup) {i j : Nat} {p q : Ty.T aa} (hi : T[i]? = some p) (hj : T[j]? = some q) (h : p.1 = q.1) : i = j := by
  obtain ⟨hi', hip⟩ := List.getElem?_eq_some_iff.1 hi
  obtain ⟨hj', hjp⟩ := List.getElem?_eq_some_iff.1 hj
  have key : ∀ {i j : Nat} (hi : i < T.length) (hj : j < T.length), i < j -> ¬ T[i].1 = T[j].1 := fun {i j} hi hj hij he => by
    have := List.pairwise_iff_getElem.1 hn i j (by rw [List.length_map]; exact hi) (by rw [List.length_map]; exact hj) hij
    rw [List.getElem_map, List.getElem_map] at this
    exact this he
  rcases Nat.lt_trichotomy i j with hij | hij | hij
  · exact absurd (by rw [hip, hjp]; exact h) (key hi' hj' hij)
  · exact hij
  · exact absurd (by rw [hip, hjp]; exact h.symm) (key hj' hi' hij)
theorem ac1 (T : List (Ty.T aa)) (n : Ty.T aa) (hb : T.length <= 1048576) (hv : ∀ x ∈ T, x.2.2.2.2.2.2.1.2.2.2.2.2.2.length <= 1048576) (hn : n.2.2.2.2.2.2.1.2.2.2.2.2.2.length <= 1048576) {j : Nat} {p : Ty.T aa} (hj : mj T n.1 = (j : Int)) (hp : T[j]? = some p) : Ap T n = T.set j n := by
  have h1 := ctS T hb hv
  have h3 := cpS n hn
  have h6 := ea T n.1 hb
  have hl := (List.getElem?_eq_some_iff.1 hp).1
  have g0 : (0 : Int) <= (j : Int) := by omega
  have g1 : (j : Int) < (T.length : Int) := by omega
  have g2 : (j : Int) ≥ 0 := g0
  show (t247 T n some).getD [] = _
  unfold t247
  rw [h1.1, h1.2, h3.1, h3.2, h6.1]
  rw [hj]
  simp only [decide_eq_true g2, cond_true, if_pos g0, if_pos g1, Int.toNat_natCast, hp, ay, Option.getD_some]
structure WfW (k : Nat) (u : List (Ty.T (.int .i64))) (T : List (Ty.T aa)) (cs : List (Ty.T (.int .i64))) : Prop where
  tb : T.length <= 1048576
  tv : ∀ x ∈ T, x.2.2.2.2.2.2.1.2.2.2.2.2.2.length <= 1048576
  tn : (T.map (·.1)).Nodup
  ub : u.length + k <= 1048576
  cb : cs.length <= 1048576
structure iD (T : List (Ty.T aa)) (cs : List (Ty.T (.int .i64))) (T' : List (Ty.T aa)) (cs' : List (Ty.T (.int .i64))) : Prop where
  ti : T'.map (·.1) = T.map (·.1)
  tv : ∀ x ∈ T', x.2.2.2.2.2.2.1.2.2.2.2.2.2.length <= 1048576
  cs : cs'.length <= cs.length
theorem iD.trans {T T' T'' : List (Ty.T aa)} {cs cs' cs'' : List (Ty.T (.int .i64))} (h : iD T cs T' cs') (k : iD T' cs' T'' cs'') : iD T cs T'' cs'' := ⟨k.ti.trans h.ti, k.tv, Nat.le_trans k.cs h.cs⟩
theorem iD.len {T T' : List (Ty.T aa)} {cs cs' : List (Ty.T (.int .i64))} (h : iD T cs T' cs') : T'.length = T.length := by have := congrArg List.length h.ti; rwa [List.length_map, List.length_map] at this
theorem iD.wf {k : Nat} {u : List (Ty.T (.int .i64))} {T T' : List (Ty.T aa)} {cs cs' : List (Ty.T (.int .i64))} (h : iD T cs T' cs') (w : WfW k u T cs) : WfW k u T' cs' := ⟨by rw [h.len]; exact w.tb, h.tv, by rw [h.ti]; exact w.tn, w.ub, Nat.le_trans h.cs w.cb⟩
inductive FoldP (P : Ty.T y27 -> List (Ty.T aa) -> List (Ty.T (.int .i64)) -> List (Ty.T aa) × List (Ty.T y27) × List (Ty.T (.int .i64)) × List (Ty.T y66) -> Prop) : List (Ty.T y27) -> List (Ty.T aa) -> List (Ty.T (.int .i64)) -> List (Ty.T aa) × List (Ty.T y27) × List (Ty.T (.int .i64)) × List (Ty.T y66) -> Prop
  | nil {T cs} : FoldP P [] T cs (T, [], cs, [])
  | cons {y L T cs a b} : P y T cs a -> FoldP P L a.1 a.2.2.1 b -> FoldP P (y :: L) T cs (b.1, a.2.1 ++ b.2.1, b.2.2.1, a.2.2.2 ++ b.2.2.2)
theorem zU {P : Ty.T y27 -> List (Ty.T aa) -> List (Ty.T (.int .i64)) -> List (Ty.T aa) × List (Ty.T y27) × List (Ty.T (.int .i64)) × List (Ty.T y66) -> Prop} {M : Ty.T y27 -> List (Ty.T aa) -> List (Ty.T (.int .i64)) -> List (Ty.T aa) × List (Ty.T y27) × List (Ty.T (.int .i64)) × List (Ty.T y66)} {k : Nat} {u : List (Ty.T (.int .i64))} (h : ∀ y T cs, WfW k u T cs -> P y T cs (M y T cs) /\ iD T cs (M y T cs).1 (M y T cs).2.2.1) : ∀ (L : List (Ty.T y27)) T cs, WfW k u T cs ->
    FoldP (fun y T cs a => WfW k u T cs /\ P y T cs a /\ iD T cs a.1 a.2.2.1) L T cs (lh M L T cs) /\ iD T cs (lh M L T cs).1 (lh M L T cs).2.2.1
  | [], T, cs, w => ⟨.nil, rfl, w.tv, Nat.le_refl _⟩
  | y :: L, T, cs, w => by
    obtain ⟨h1, h2⟩ := h y T cs w
    obtain ⟨h3, h4⟩ := zU h L _ _ (h2.wf w)
    exact ⟨.cons ⟨w, h1, h2⟩ h3, h2.trans h4⟩
theorem Pp {s : Ty.T y36} (hb : s.1.length <= 1048576) (hs : s.2.1.length <= 1048576) (P : Nat -> Ty.T y27 -> List (Ty.T (.int .i64)) -> List (Ty.T aa) -> List (Ty.T (.int .i64)) -> List (Ty.T aa) × List (Ty.T y27) × List (Ty.T (.int .i64)) × List (Ty.T y66) -> Prop)
    (h0 : ∀ x u T cs, WfW 0 u T cs -> P 0 x u T cs (T, [], cs, []))
    (h1 : ∀ k x u T cs, WfW (k + 1) u T cs -> dS s T x u = [] -> P (k + 1) x u T cs (T, cond (rJ x) [] [x], cs, []))
    (h2 : ∀ k x u T cs oo (ch : Nat) cs1 (j : Nat) p z, WfW (k + 1) u T cs -> dS s T x u = oo -> oo.length <= T.length -> oo[ch]? = some p.1 -> gT cs (oo.length : Int) = ((ch : Int), cs1) -> cs1 = (if oo.length < 2 then cs else cs.tail) -> T[j]? = some p -> (u.any fun y => y == p.1) = false -> gU s p x = true -> (sq (cw p x)).1 = p.1 -> (cw p x).2.2.2.1.length <= 3 ->
      FoldP (fun y T cs a => WfW k (u ++ [p.1]) T cs /\ P k y (u ++ [p.1]) T cs a /\ iD T cs a.1 a.2.2.1) (cw p x).2.2.2.1 (T.set j (sq (cw p x))) cs1 z ->
      P (k + 1) x u T cs (z.1, z.2.1, z.2.2.1, xn s p x (ch : Int) oo.length u :: z.2.2.2)) :
    ∀ k x u T cs, WfW k u T cs -> P k x u T cs (mw s k x u T cs) /\ iD T cs (mw s k x u T cs).1 (mw s k x u T cs).2.2.1
  | 0, x, u, T, cs, w => ⟨h0 x u T cs w, rfl, w.tv, Nat.le_refl _⟩
  | k + 1, x, u, T, cs, w => by
    have hu : u.length <= 1048576 := by have := w.ub; omega
    obtain ⟨-, -, -, hlen, hmem⟩ := options s T x u hb hs w.tb hu w.tv
    have hfit := Us s T x u hb hs w.tb hu w.tv
    obtain ⟨o, hoe⟩ : ∃ o, dS s T x u = o := ⟨_, rfl⟩
    rw [hoe] at hlen hmem hfit
    cases o with
    | nil =>
      have hmw : mw s (k + 1) x u T cs = (T, cond (rJ x) [] [x], cs, []) := by rw [mw, hoe]
      rw [hmw]
      exact ⟨h1 k x u T cs w hoe, rfl, w.tv, Nat.le_refl _⟩
    | cons y0 o =>
      have hmw : mw s (k + 1) x u T cs = mwC (mw s k) s x u T cs (y0 :: o) := by rw [mw, hoe]
      obtain ⟨oo, hoo⟩ : ∃ oo, oo = y0 :: o := ⟨_, rfl⟩
      rw [← hoo] at hoe hmem hlen hmw hfit
      have hol : oo.length <= 1048576 := Nat.le_trans hlen w.tb
      have hpos : 0 < oo.length := by rw [hoo]; simp
      obtain ⟨-, -, -, pk0, pkn, pcs, -, -⟩ := pick cs oo.length hpos hol w.cb
      obtain ⟨⟨kk, cs1⟩, hpk⟩ : ∃ q, gT cs (oo.length : Int) = q := ⟨_, rfl⟩
      rw [hpk] at pk0 pkn pcs
      dsimp only at pk0 pkn pcs
      have hcb1 : cs1.length <= cs.length := by
        rw [pcs]
        split
        · exact Nat.le_refl _
        · rw [List.length_tail]; omega
      obtain ⟨ch, hch⟩ : ∃ ch : Nat, @Eq Int kk (ch : Int) := ⟨Int.toNat kk, (Int.toNat_of_nonneg pk0).symm⟩
      have hcl : ch < oo.length := by have := pkn; rw [hch] at this; omega
      have hy : oo[ch]? = some (oo[ch]'hcl) := List.getElem?_eq_getElem hcl
      obtain ⟨p0, hp0, hid0, hft⟩ := hfit (oo[ch]'hcl) (List.getElem_mem _)
      obtain ⟨-, hun⟩ := hmem (oo[ch]'hcl) (List.getElem_mem _)
      obtain ⟨y, hyy⟩ : ∃ y, oo[ch]'hcl = y := ⟨_, rfl⟩
      rw [hyy] at hy hid0 hun
      rcases eaR T y w.tb with ⟨_, h⟩ | ⟨j, p, hj, hjl, hpj, hpid⟩
      · exact absurd hid0 (h p0 hp0)
      subst hpid
      obtain ⟨j0, hj0⟩ := List.getElem?_of_mem hp0
      have hjj := S7 w.tn hj0 hpj hid0
      subst hjj
      have hpp : p0 = p := Option.some.inj (hj0.symm.trans hpj)
      subst hpp
      have hat : atW T p0.1 = p0 := by
        unfold atW
        rw [hj, Int.toNat_natCast, hpj]
        rfl
      have hgd : oo.getD ch 0 = p0.1 := by rw [List.getD_eq_getElem?_getD, hy]; rfl
      obtain ⟨-, -, -, hda4, hda5, hda6⟩ := Vg p0 x (w.tv p0 hp0)
      have hn1 : (sq (cw p0 x)).1 = p0.1 := by
        unfold sq
        rw [hda6]
      have hpl : (sq (cw p0 x)).2.2.2.2.2.2.1.2.2.2.2.2.2.length <= 1048576 := by
        show (cw p0 x).2.2.2.2.length <= 1048576
        rw [hda5]
        exact w.tv p0 hp0
      have hup : Ap T (sq (cw p0 x)) = T.set j0 (sq (cw p0 x)) := ac1 T _ w.tb w.tv hpl (by rw [hn1]; exact hj) hpj
      unfold mwC at hmw
      simp only [hpk, hch, Int.toNat_natCast, hgd, hat, hup] at hmw
      have hK : iD T cs (T.set j0 (sq (cw p0 x))) cs1 := by
        refine ⟨?_, fun q hq => ?_, hcb1⟩
        · rw [← hup]
          exact (update T _ w.tb w.tv hpl).2.2.2.1
        · rw [← hup] at hq
          exact (update T _ w.tb w.tv hpl).2.2.2.2 q hq
      have w1 : WfW k (u ++ [p0.1]) (T.set j0 (sq (cw p0 x))) cs1 := by
        have := hK.wf w
        exact ⟨this.tb, this.tv, this.tn, by have := w.ub; simp only [List.length_append, List.length_cons, List.length_nil]; omega, this.cb⟩
      obtain ⟨f1, f2⟩ := zU (P := fun y T cs a => P k y (u ++ [p0.1]) T cs a) (M := fun y => mw s k y (u ++ [p0.1])) (fun y T cs w => Pp hb hs P h0 h1 h2 k y (u ++ [p0.1]) T cs w) (cw p0 x).2.2.2.1 _ _ w1
      rw [hmw]
      exact ⟨h2 k x u T cs oo ch cs1 j0 p0 _ w hoe hlen hy (by rw [hpk, hch]) pcs hpj hun hft hn1 hda4 f1, hK.trans f2⟩
noncomputable def gK (k : Int) (e : Ty.T aa) : Int := if e.2.2.2.2.2.2.2.2 = 0 then k else k + 1
theorem aeQ (xs : List (Ty.T aa)) (hb : xs.length <= 1048576) : d69 xs = true /\ v69 xs = xs.foldl gK 0 := by
  have h := fold_iter (s := yH) (mk := fun (k : Int) i => (xs, 0, k, i, ())) (xs := xs) (f := gK) (Inv := fun i k => 0 <= k /\ k <= i) (fun i x k hx hI => by
    obtain ⟨hi, rfl⟩ := List.getElem?_eq_some_iff.1 hx
    have hk := bT (n := k + 1) (by omega) (by omega)
    by_cases hg : (xs[i]).2.2.2.2.2.2.2.2 = 0
    · have hg2 : ((xs[i]).2.2.2.2.2.2.2.2 != (0 : Int)) = false := by simpa using hg
      refine ⟨by simp [yH, xI, ay, hi, hg, hg2, gK, aT (n := i) (by omega)], ?_⟩
      unfold gK; rw [if_pos hg]; omega
    · have hg2 : ((xs[i]).2.2.2.2.2.2.2.2 != (0 : Int)) = true := by simpa using hg
      refine ⟨by simp [yH, xI, ay, hi, hg, hg2, hk, gK, aT (n := i) (by omega)], ?_⟩
      unfold gK; rw [if_neg hg]; omega) (fun k => by simp [yH, xI]) xs.length 0 0 (FL (xs, 0, 0, 0, ())) (by omega) (by simp only [FL]; omega) ⟨by omega, by omega⟩
  have hk : KM xs 0 0 0 0 = true := aX h 0
  have hw : N7 xs 0 0 0 = _ := bo h
  unfold d69 v69
  rw [hk, hw]
  exact ⟨rfl, rfl⟩
theorem aaj (xs : List (Ty.T aa)) (hb : xs.length <= 1048576) : d68 xs = true /\ v68 xs = xs.foldl gK 0 := by
  have h := fold_iter (s := yN) (mk := fun (k : Int) i => (0, k, xs, ((xs).length : Int), i, ())) (xs := xs) (f := gK) (Inv := fun i k => 0 <= k /\ k <= i) (fun i x k hx hI => by
    obtain ⟨hi, rfl⟩ := List.getElem?_eq_some_iff.1 hx
    have hk := bT (n := k + 1) (by omega) (by omega)
    by_cases hg : (xs[i]).2.2.2.2.2.2.2.2 = 0
    · have hg2 : ((xs[i]).2.2.2.2.2.2.2.2 != (0 : Int)) = false := by simpa using hg
      refine ⟨by simp [yN, xS, ay, hi, hg, hg2, gK, aT (n := i) (by omega)], ?_⟩
      unfold gK; rw [if_pos hg]; omega
    · have hg2 : ((xs[i]).2.2.2.2.2.2.2.2 != (0 : Int)) = true := by simpa using hg
      refine ⟨by simp [yN, xS, ay, hi, hg, hg2, hk, gK, aT (n := i) (by omega)], ?_⟩
      unfold gK; rw [if_neg hg]; omega) (fun k => by simp [yN, xS]) xs.length 0 0 (HJ (0, 0, xs, ((xs).length : Int), 0, ())) (by omega) (by simp only [HJ]; omega) ⟨by omega, by omega⟩
  have hk : LD 0 0 xs ((xs).length : Int) 0 0 = true := aX h 0
  have hw : QZ 0 0 xs ((xs).length : Int) 0 = _ := bo h
  unfold d68 v68
  rw [hk, hw]
  exact ⟨rfl, rfl⟩
theorem tO (xs : List (Ty.T aa)) : ∀ k, 0 <= k -> 0 <= xs.foldl gK k /\ xs.foldl gK k <= k + xs.length := by
  induction xs with
  | nil => intro k hk; simp; exact hk
  | cons x xs ih =>
    intro k hk
    simp only [List.foldl_cons, List.length_cons]
    have h := ih (gK k x) (by unfold gK; split <;> omega)
    have h2 : gK k x <= k + 1 := by unfold gK; split <;> omega
    omega
noncomputable def chF (k : Int) (x : Ty.T y66) : Int := if IntKind.wrap .i64 (x.2.2.2.2.2.2.2 + 1) > k then IntKind.wrap .i64 (x.2.2.2.2.2.2.2 + 1) else k
theorem Tv (d k : Int) (h0 : -9223372036854775808 <= d) (h1 : d <= 9223372036854775807) (hk : 0 <= k) : (if IntKind.wrap .i64 (d + 1) > k then IntKind.wrap .i64 (d + 1) else k) = cond (decide (d ≥ k)) (cond (decide (IntKind.wrap .i64 (d + 1) > 0)) (IntKind.wrap .i64 (d + 1)) k) k := by
  by_cases hd : d = 9223372036854775807
  · subst hd
    have : IntKind.wrap .i64 ((9223372036854775807 : Int) + 1) = -9223372036854775808 := by decide
    rw [this, if_neg (by omega), decide_eq_false (show ¬ (-9223372036854775808 : Int) > 0 by omega)]
    cases decide ((9223372036854775807 : Int) ≥ k) <;> rfl
  · rw [bT (n := d + 1) (by omega) (by omega)]
    by_cases h : d ≥ k
    · rw [decide_eq_true h, if_pos (by omega), decide_eq_true (show d + 1 > 0 by omega)]; rfl
    · rw [decide_eq_false h, if_neg (by omega)]; rfl
theorem Yo (f : Ty.T y56) (hb : f.2.2.2.length <= 1048576) (hr : ∀ x ∈ f.2.2.2, -9223372036854775808 <= x.2.2.2.2.2.2.2 /\ x.2.2.2.2.2.2.2 <= 9223372036854775807) : d66 f = true /\ v66 f = f.2.2.2.foldl chF 0 := by
  have h := fold_iter (s := A2) (mk := fun (k : Int) i => (0, k, i, f, ())) (xs := f.2.2.2) (f := chF) (Inv := fun _ k => 0 <= k) (fun i x k hx hI => by
    have hm := hr x (List.mem_of_getElem? hx)
    obtain ⟨hi, rfl⟩ := List.getElem?_eq_some_iff.1 hx
    refine ⟨?_, by unfold chF; split <;> omega⟩
    have e := Tv (f.2.2.2[i]).2.2.2.2.2.2.2 k hm.1 hm.2 hI
    unfold chF
    rw [e]
    by_cases h1 : (f.2.2.2[i]).2.2.2.2.2.2.2 ≥ k <;> by_cases h2 : IntKind.wrap .i64 ((f.2.2.2[i]).2.2.2.2.2.2.2 + 1) > 0 <;> simp [A2, AZ, ay, hi, h1, h2, aT (n := i) (by omega)]) (fun k => by simp [A2, AZ]) f.2.2.2.length 0 0 (Hp (0, 0, 0, f, ())) (by omega) (by simp only [Hp]; omega) (by omega)
  have hk : KA 0 0 0 f 0 = true := aX h 0
  have hw : NA 0 0 0 f = _ := bo h
  unfold d66 v66
  rw [hk, hw]
  exact ⟨rfl, rfl⟩
theorem P4 (f : Ty.T y56) (hb : f.2.2.2.length <= 1048576) (hr : ∀ x ∈ f.2.2.2, -9223372036854775808 <= x.2.2.2.2.2.2.2 /\ x.2.2.2.2.2.2.2 <= 9223372036854775807) : d65 f = true /\ v65 f = f.2.2.2.foldl chF 0 := by
  have h := fold_iter (s := BC) (mk := fun (k : Int) i => (0, k, f.2.2.2, ((f.2.2.2).length : Int), i, ())) (xs := f.2.2.2) (f := chF) (Inv := fun _ k => 0 <= k) (fun i x k hx hI => by
    have hm := hr x (List.mem_of_getElem? hx)
    obtain ⟨hi, rfl⟩ := List.getElem?_eq_some_iff.1 hx
    refine ⟨?_, by unfold chF; split <;> omega⟩
    simp [BC, BD, ay, hi, chF, aT (n := i) (by omega)]) (fun k => by simp [BC, BD]) f.2.2.2.length 0 0 (FV (0, 0, f.2.2.2, ((f.2.2.2).length : Int), 0, ())) (by omega) (by simp only [FV]; omega) (by omega)
  have hk : Lo 0 0 f.2.2.2 ((f.2.2.2).length : Int) 0 0 = true := aX h 0
  have hw : Rj 0 0 f.2.2.2 ((f.2.2.2).length : Int) 0 = _ := bo h
  unfold d65 v65
  rw [hk, hw]
  exact ⟨rfl, rfl⟩
theorem Hs {V : Type} {s : V -> Option (Nat × V)} {mk fin : Nat -> V} {N : Nat} (h : ∀ i, i < N -> s (mk i) = some (0, mk (i + 1)) ∨ s (mk i) = some (1, fin i)) {v : V} : ∀ (k i n : Nat), i + k = N -> iter s n (mk i) = some (1, v) -> ∀ j, i <= j -> j < N -> s (mk j) = some (0, mk (j + 1))
  | 0, i, n, hk, hi, j, h1, h2 => by omega
  | k + 1, i, n, hk, hi, j, h1, h2 => by
    cases n with
    | zero => rw [iter] at hi; cases hi
    | succ n =>
      rcases h i (by omega) with a | a
      · by_cases hij : i = j
        · subst hij; exact a
        · rw [iter, a] at hi
          exact Hs h k (i + 1) n (by omega) hi j (by omega) h2
      · rw [iter, a] at hi
        cases hi
theorem KI (l : List (Ty.T aa)) (hb : l.length <= 1048576) (hv : ∀ x ∈ l, x.2.2.2.2.2.2.1.2.2.2.2.2.2.length <= 1048576) (i : Nat) (hi : i < l.length) : (fu (l, false, (i : Int), ()) = some (0, (l, false, ((i + 1 : Nat) : Int), ())) /\ ek l[i] = true /\ ∀ (j : Nat) (hj : j + 1 = i), ¬ (@LE.le Int _ l[i].1 (l[j]'(by omega)).1)) ∨ fu (l, false, (i : Int), ()) = some (1, (l, false, (i : Int), ())) := by
  have h1 : l[i]? = some l[i] := List.getElem?_eq_getElem hi
  have h3 : (i : Int) < (l.length : Int) := by omega
  have hq := gb l[i] (hv _ (List.getElem_mem hi))
  obtain ⟨p, hp⟩ : ∃ p, l[i] = p := ⟨_, rfl⟩
  rw [hp] at h1 hq ⊢
  have hw := aT (n := i) (by omega)
  match i, hi, h1, h3, hw, hp with
  | 0, hi, h1, h3, hw, hp =>
    simp only [fu, lC, decide_eq_true h3, cond_true, if_pos (show (0 : Int) <= ((0 : Nat) : Int) by omega), Int.toNat_natCast, h1, ay, hq.1, decide_eq_false (show ¬ ((0 : Nat) : Int) > 0 by omega), cond_false, hw]
    cases ek p
    · exact .inr rfl
    · exact .inl ⟨rfl, rfl, fun j hj => by omega⟩
  | j + 1, hi, h1, h3, hw, hp =>
    have h2 : l[j]? = some l[j] := List.getElem?_eq_getElem (by omega)
    obtain ⟨q, hqq⟩ : ∃ q, l[j] = q := ⟨_, rfl⟩
    rw [hqq] at h2
    simp only [fu, lC, decide_eq_true h3, cond_true, if_pos (show (0 : Int) <= ((j + 1 : Nat) : Int) by omega), Int.toNat_natCast, h1, h2, ay, hq.1, decide_eq_true (show ((j + 1 : Nat) : Int) > 0 by omega), oM j (by omega), if_pos (show (0 : Int) <= (j : Int) by omega), hw]
    cases hc : ek p
    · exact .inr rfl
    · by_cases hd : q.1 ≥ p.1
      · rw [decide_eq_true hd]
        exact .inr rfl
      · rw [decide_eq_false hd]
        refine .inl ⟨rfl, rfl, fun j' hj' => ?_⟩
        have : j' = j := by omega
        subst this
        rw [hqq]
        exact hd
theorem O2 (l : List (Ty.T aa)) (hb : l.length <= 1048576) (hv : ∀ x ∈ l, x.2.2.2.2.2.2.1.2.2.2.2.2.2.length <= 1048576) (h : qL l = true) (i : Nat) (hi : i < l.length) : ek l[i] = true /\ ∀ (j : Nat) (hj : j + 1 = i), ¬ (@LE.le Int _ l[i].1 (l[j]'(by omega)).1) := by
  unfold qL at h
  rcases JW l hb hv with ⟨j, x1, x2⟩ | ⟨x1, x2⟩
  · have e0 : fP l false 0 0 = true := aX x1 0
    have ew : l5 l false 0 = _ := bo x1
    simp only [e0, ew, cond_true] at h
    cases h
  · have := Hs (s := fu) (mk := fun i => (l, false, (i : Int), ())) (fin := fun i => (l, false, (i : Int), ())) (N := l.length) (fun i hi => by
      rcases KI l hb hv i hi with h | h
      · exact .inl h.1
      · exact .inr h) l.length 0 _ (by omega) x1 i (by omega) hi
    rcases KI l hb hv i hi with h | h
    · exact h.2
    · rw [h] at this
      cases this
theorem Vk (l : List (Ty.T aa)) (hb : l.length <= 1048576) (hv : ∀ x ∈ l, x.2.2.2.2.2.2.1.2.2.2.2.2.2.length <= 1048576) (h : qL l = true) : ∀ (k i j : Nat) (hi : i < l.length) (hj : j < l.length), i + k + 1 = j -> @LT.lt Int _ l[i].1 l[j].1
  | 0, i, j, hi, hj, hk => Int.not_le.1 ((O2 l hb hv h j hj).2 i (by omega))
  | k + 1, i, j, hi, hj, hk => Int.lt_trans (Vk l hb hv h k i (j - 1) hi (by omega) (by omega)) (Int.not_le.1 ((O2 l hb hv h j hj).2 (j - 1) (by omega)))
theorem Ya (l : List (Ty.T aa)) (hb : l.length <= 1048576) (hv : ∀ x ∈ l, x.2.2.2.2.2.2.1.2.2.2.2.2.2.length <= 1048576) (h : qL l = true) : (l.map (·.1)).Nodup := by
  refine List.pairwise_iff_getElem.2 fun i j hi hj hij => ?_
  rw [List.length_map] at hi hj
  rw [List.getElem_map, List.getElem_map]
  exact Int.ne_of_lt (Vk l hb hv h (j - i - 1) i j hi hj (by omega))
def lf (p : Ty.T aa) : Int := p.2.2.2.2.2.2.2.2
theorem WD (s : Ty.T y36) (x : Ty.T aa) (e : Ty.T y27) (hv : x.2.2.2.2.2.2.1.2.2.2.2.2.2.length <= 1048576) (h : gU s x e = true) : ¬ lf x = 0 := by
  have hok := Ci s x e hv h
  unfold gU at h
  rw [(gb x hv).1, hok] at h
  intro h0
  have : Fi x s.2.2.2 = false := by
    unfold Fi
    have : (x.2.2.2.2.2.2.2.2 != (0 : Int)) = false := by
      have h1 : x.2.2.2.2.2.2.2.2 = (0 : Int) := h0
      rw [h1]
      rfl
    rw [this]
    rfl
  rw [this] at h
  cases h
def ofN (t : Ty.T y66) : Bool := decide ((2 : Int) <= t.2.2.2.1)
def fb (l : List (Ty.T y66)) : Nat := l.countP ofN
theorem aL.refl {α : Type} {R : α -> α -> Prop} (h : ∀ a, R a a) : ∀ l : List α, aL R l l
  | [] => .nil
  | a :: l => .cons (h a) (aL.refl h l)
theorem aL.trans' {α : Type} {R : α -> α -> Prop} (h : ∀ a b c, R a b -> R b c -> R a c) : ∀ {l m n : List α}, aL R l m -> aL R m n -> aL R l n
  | _, _, _, .nil, .nil => .nil
  | _, _, _, .cons a b, .cons c e => .cons (h _ _ _ a c) (aL.trans' h b e)
theorem aL.WE {α : Type} {R : α -> α -> Prop} (h : ∀ a, R a a) : ∀ (l : List α) (j : Nat) (n : α), (∀ p, l[j]? = some p -> R p n) -> aL R l (l.set j n)
  | [], _, _, _ => .nil
  | a :: l, 0, n, hp => .cons (hp a rfl) (aL.refl h l)
  | a :: l, j + 1, n, hp => .cons (h a) (aL.WE h l j n fun p hq => hp p hq)
def usN (u : List (Ty.T (.int .i64))) (T : List (Ty.T aa)) : Nat := T.countP fun p => !decide (lf p = 0) && !(u.any fun z => z == p.1)
def SW : Nat -> Nat
  | 0 => 0
  | m + 1 => 1 + 3 * SW m
def LW : Nat -> Nat
  | 0 => 1
  | m + 1 => 3 * LW m
theorem QT : ∀ m, 1 <= LW m
  | 0 => Nat.le_refl _
  | m + 1 => by have := QT m; simp only [LW]; omega
def gn (t : Ty.T y66) : Int := t.2.2.2.2.2.2.2
def LeR (p p' : Ty.T aa) : Prop := p'.1 = p.1 /\ (lf p = 0 -> lf p' = 0)
theorem LeR.refl (p : Ty.T aa) : LeR p p := ⟨rfl, id⟩
theorem LeR.trans (a b c : Ty.T aa) (h : LeR a b) (k : LeR b c) : LeR a c := ⟨k.1.trans h.1, fun x => k.2 (h.2 x)⟩
theorem JV {u : List (Ty.T (.int .i64))} : ∀ {T T' : List (Ty.T aa)}, aL LeR T T' -> usN u T' <= usN u T
  | _, _, .nil => Nat.le_refl _
  | a :: T, b :: T', .cons h k => by
    have ih : T'.countP _ <= T.countP _ := JV (u := u) k
    unfold usN
    rw [List.countP_cons, List.countP_cons, h.1]
    by_cases h0 : lf a = 0
    · rw [h.2 h0, h0]
      exact Nat.add_le_add_right ih _
    · rw [decide_eq_false h0]
      by_cases h1 : lf b = 0
      · rw [decide_eq_true h1]
        simp only [Bool.not_true, Bool.false_and, Bool.false_eq_true, if_false, Nat.add_zero]
        exact Nat.le_trans ih (Nat.le_add_right _ _)
      · rw [decide_eq_false h1]
        exact Nat.add_le_add_right ih _
theorem Xf {u : List (Ty.T (.int .i64))} {T : List (Ty.T aa)} {p : Ty.T aa} (hp : p ∈ T) (h0 : ¬ lf p = 0) (hu : (u.any fun z => z == p.1) = false) : usN (u ++ [p.1]) T + 1 <= usN u T := by
  unfold usN
  refine We (fun x hx => ?_) (y := p) ?_ ?_ T hp
  · simp only [List.any_append, Bool.not_or, Bool.and_eq_true] at hx ⊢
    exact ⟨hx.1, hx.2.1⟩
  · rw [hu, decide_eq_false h0]
    rfl
  · simp
/-- What is said of rewriting. -/
def SX (u : List (Ty.T (.int .i64))) (T : List (Ty.T aa)) (cs : List (Ty.T (.int .i64))) (n : Nat) (z : List (Ty.T aa) × List (Ty.T y27) × List (Ty.T (.int .i64)) × List (Ty.T y66)) : Prop :=
  aL LeR T z.1 /\ (∀ m, usN u T <= m -> z.2.1.length <= n * LW m /\ z.2.2.2.length <= n * SW m /\ ∀ t ∈ z.2.2.2, 0 <= gn t /\ gn t + 1 <= (u.length : Int) + (m : Int)) /\ z.2.2.1 = cs.drop (fb z.2.2.2)
theorem Lh {P : Ty.T y27 -> List (Ty.T aa) -> List (Ty.T (.int .i64)) -> List (Ty.T aa) × List (Ty.T y27) × List (Ty.T (.int .i64)) × List (Ty.T y66) -> Prop} {u : List (Ty.T (.int .i64))} (hP : ∀ y T cs a, P y T cs a -> SX u T cs 1 a) : ∀ {L T cs z}, FoldP P L T cs z -> SX u T cs L.length z
  | _, _, _, _, .nil => ⟨aL.refl LeR.refl _, fun m hm => ⟨by simp, by simp, fun t ht => by cases ht⟩, by simp [fb]⟩
  | _, _, _, _, .cons (y := y) (L := L) (T := T) (cs := cs) (a := a) (b := b) h k => by
    obtain ⟨a1, a2, a3⟩ := hP _ _ _ _ h
    obtain ⟨b1, b2, b3⟩ := Lh hP k
    refine ⟨aL.trans' LeR.trans a1 b1, fun m hm => ?_, ?_⟩
    · obtain ⟨x1, x2, x3⟩ := a2 m hm
      obtain ⟨y1, y2, y3⟩ := b2 m (Nat.le_trans (JV a1) hm)
      refine ⟨?_, ?_, fun t ht => ?_⟩
      · show (a.2.1 ++ b.2.1).length <= _
        rw [List.length_append, List.length_cons, Nat.succ_mul]
        omega
      · show (a.2.2.2 ++ b.2.2.2).length <= _
        rw [List.length_append, List.length_cons, Nat.succ_mul]
        omega
      · rcases List.mem_append.1 ht with ht | ht
        · exact x3 t ht
        · exact y3 t ht
    · show b.2.2.1 = cs.drop (fb (a.2.2.2 ++ b.2.2.2))
      rw [b3, a3, List.drop_drop]
      unfold fb
      rw [List.countP_append]
theorem abQ {s : Ty.T y36} (hb : s.1.length <= 1048576) (hs : s.2.1.length <= 1048576) (k : Nat) (x : Ty.T y27) (u : List (Ty.T (.int .i64))) (T : List (Ty.T aa)) (cs : List (Ty.T (.int .i64))) (w : WfW k u T cs) : SX u T cs 1 (mw s k x u T cs) := by
  refine (Pp hb hs (fun k x u T cs z => SX u T cs 1 z) ?_ ?_ ?_ k x u T cs w).1
  · intro x u T cs w
    exact ⟨aL.refl LeR.refl _, fun m hm => ⟨by simp, by simp, fun t ht => by cases ht⟩, by simp [fb]⟩
  · intro k x u T cs w ho
    refine ⟨aL.refl LeR.refl _, fun m hm => ⟨?_, by simp, fun t ht => by cases ht⟩, by simp [fb]⟩
    have := QT m
    cases rJ x
    · show 1 <= _
      omega
    · show 0 <= _
      omega
  · intro k x u T cs oo ch cs1 j p z w ho hol hy hpk hcs hpj hun hft hn1 hL hf
    have hpm := List.mem_of_getElem? hpj
    have h0 := WD s p x (w.tv p hpm) hft
    have hA : aL LeR T (T.set j (sq (cw p x))) := aL.WE LeR.refl T j _ fun q hq => by
      have : q = p := Option.some.inj (hq.symm.trans hpj)
      subst this
      exact ⟨hn1, fun h => absurd h h0⟩
    obtain ⟨a1, a2, a3⟩ := Lh (fun y T cs a h => h.2.1) hf
    refine ⟨aL.trans' LeR.trans hA a1, fun m hm => ?_, ?_⟩
    · have hlt := Xf hpm h0 hun
      obtain ⟨m, rfl⟩ : ∃ m', m = m' + 1 := ⟨m - 1, by omega⟩
      obtain ⟨x1, x2, x3⟩ := a2 m (by have := JV (u := u ++ [p.1]) hA; omega)
      have hm1 : (cw p x).2.2.2.1.length * LW m <= 3 * LW m := Nat.mul_le_mul_right _ hL
      have hm2 : (cw p x).2.2.2.1.length * SW m <= 3 * SW m := Nat.mul_le_mul_right _ hL
      refine ⟨?_, ?_, fun t ht => ?_⟩
      · show z.2.1.length <= _
        simp only [LW]
        omega
      · show (xn s p x (ch : Int) oo.length u :: z.2.2.2).length <= _
        rw [List.length_cons]
        simp only [SW]
        omega
      · rcases List.mem_cons.1 ht with rfl | ht
        · show 0 <= (u.length : Int) /\ (u.length : Int) + 1 <= _
          omega
        · have := x3 t ht
          rw [List.length_append] at this
          simp only [List.length_cons, List.length_nil] at this
          omega
    · show z.2.2.1 = cs.drop (fb (xn s p x (ch : Int) oo.length u :: z.2.2.2))
      have hn : fb (xn s p x (ch : Int) oo.length u :: z.2.2.2) = fb z.2.2.2 + (if oo.length < 2 then 0 else 1) := by
        unfold fb
        rw [List.countP_cons]
        congr 1
        show (if decide ((2 : Int) <= (oo.length : Int)) = true then 1 else 0) = _
        by_cases h2 : oo.length < 2
        · rw [if_pos h2, if_neg (by simp only [decide_eq_true_eq]; omega)]
        · rw [if_neg h2, if_pos (by simp only [decide_eq_true_eq]; omega)]
      rw [hn, a3, hcs]
      by_cases h2 : oo.length < 2
      · rw [if_pos h2, if_pos h2]
        rfl
      · rw [if_neg h2, if_neg h2, ← List.drop_one, List.drop_drop]
        congr 1
        omega
theorem Tp (T : List (Ty.T aa)) : ∀ k : Int, T.foldl gK k = k + (usN [] T : Int) := by
  induction T with
  | nil => intro k; simp [usN]
  | cons p T ih =>
    intro k
    rw [List.foldl_cons, ih]
    unfold usN gK
    rw [List.countP_cons]
    by_cases h : lf p = 0
    · have h' : p.2.2.2.2.2.2.2.2 = 0 := h
      rw [if_pos h', decide_eq_true h]
      simp
    · have h' : ¬ p.2.2.2.2.2.2.2.2 = 0 := h
      rw [if_neg h', decide_eq_false h]
      simp
      omega
theorem Se : ∀ (l : List (Ty.T y66)) (k b : Int), k <= b -> b <= 1048576 -> (∀ t ∈ l, 0 <= gn t /\ gn t + 1 <= b) -> l.foldl chF k <= b
  | [], _, _, h, _, _ => h
  | t :: l, k, b, h, hb, hd => by
    rw [List.foldl_cons]
    refine Se l _ b ?_ hb fun t ht => hd t (List.mem_cons_of_mem _ ht)
    obtain ⟨h1, h2⟩ := hd t List.mem_cons_self
    unfold chF
    have hw : IntKind.wrap .i64 (t.2.2.2.2.2.2.2 + 1) = t.2.2.2.2.2.2.2 + 1 := bT (by unfold gn at h1; omega) (by unfold gn at h2; omega)
    rw [hw]
    unfold gn at h2
    split <;> omega
theorem Wn (e : Ty.T aa) (v : Ty.T y27) (hb : e.2.2.2.2.2.2.1.2.2.2.2.2.2.length <= 1048576) : cw e v = cond (ek e && (dX v && ml e.2.2.2.2.2.2.1 v.1)) ((eY e v).1, (rU e (eY e v).1).1, (rU e (eY e v).1).2.1, (eY e v).2.filter fun x => !gH x, (rU e (eY e v).1).2.2) (0, (((e.1, e.2.1, e.2.2.1, e.2.2.2.1, e.2.2.2.2.1, e.2.2.2.2.2.1, e.2.2.2.2.2.2.1.1, e.2.2.2.2.2.2.1.2.1, e.2.2.2.2.2.2.1.2.2.1, e.2.2.2.2.2.2.1.2.2.2.1, e.2.2.2.2.2.2.1.2.2.2.2.1, e.2.2.2.2.2.2.1.2.2.2.2.2.1), e.2.2.2.2.2.2.2, e.2.2.2.2.2.2.1.2.2.2.2.2.2)).1, (e.2.2.2.2.2.2.2.1, e.2.2.2.2.2.2.2.2), [v], e.2.2.2.2.2.2.1.2.2.2.2.2.2) := by
  have h1 := gb e hb
  have h2 := Zj e v hb
  have h3 := Ll e (bZ ([], 0, 0, e.2.2.2.2.2.2.1.1, (e.2.2.2.2.2.2.1.1 == (1 : Int)), e, v, (0, 0, 0, 0, (0, 0, 0, 0, 0, 0, 0), (0, 0), (0, 0, 0, 0, 0, false, []), 0, 0), [], ())).1 (bZ ([], 0, 0, e.2.2.2.2.2.2.1.1, (e.2.2.2.2.2.2.1.1 == (1 : Int)), e, v, (0, 0, 0, 0, (0, 0, 0, 0, 0, 0, 0), (0, 0), (0, 0, 0, 0, 0, false, []), 0, 0), [], ())).2 (CM e v hb)
  have h4 := cpS e hb
  have h6 := Vp e (bZ ([], 0, 0, e.2.2.2.2.2.2.1.1, (e.2.2.2.2.2.2.1.1 == (1 : Int)), e, v, (0, 0, 0, 0, (0, 0, 0, 0, 0, 0, 0), (0, 0), (0, 0, 0, 0, 0, false, []), 0, 0), [], ())).1 hb
  have hk : It [] 0 (bZ ([], 0, 0, e.2.2.2.2.2.2.1.1, (e.2.2.2.2.2.2.1.1 == (1 : Int)), e, v, (0, 0, 0, 0, (0, 0, 0, 0, 0, 0, 0), (0, 0), (0, 0, 0, 0, 0, false, []), 0, 0), [], ())).1 0 e (0, 0, 0, 0, (0, 0, 0, 0, 0, 0, 0), (0, 0), (0, 0, 0, 0, 0, false, []), 0, 0) (bZ ([], 0, 0, e.2.2.2.2.2.2.1.1, (e.2.2.2.2.2.2.1.1 == (1 : Int)), e, v, (0, 0, 0, 0, (0, 0, 0, 0, 0, 0, 0), (0, 0), (0, 0, 0, 0, 0, false, []), 0, 0), [], ())).2 [] 0 = true := aX h3 0
  have hw : J8 [] 0 (bZ ([], 0, 0, e.2.2.2.2.2.2.1.1, (e.2.2.2.2.2.2.1.1 == (1 : Int)), e, v, (0, 0, 0, 0, (0, 0, 0, 0, 0, 0, 0), (0, 0), (0, 0, 0, 0, 0, false, []), 0, 0), [], ())).1 0 e (0, 0, 0, 0, (0, 0, 0, 0, 0, 0, 0), (0, 0), (0, 0, 0, 0, 0, false, []), 0, 0) (bZ ([], 0, 0, e.2.2.2.2.2.2.1.1, (e.2.2.2.2.2.2.1.1 == (1 : Int)), e, v, (0, 0, 0, 0, (0, 0, 0, 0, 0, 0, 0), (0, 0), (0, 0, 0, 0, 0, false, []), 0, 0), [], ())).2 [] = _ := bo h3
  have hg : ve ([], 0, e, v, (0, 0, 0, 0, (0, 0, 0, 0, 0, 0, 0), (0, 0), (0, 0, 0, 0, 0, false, []), 0, 0), ()) = true /\ tI ([], 0, e, v, (0, 0, 0, 0, (0, 0, 0, 0, 0, 0, 0), (0, 0), (0, 0, 0, 0, 0, false, []), 0, 0), ()) = cond (!ek e) true (cond (!dX v) true (!ml e.2.2.2.2.2.2.1 v.1)) := by
    simp only [ve, tI, pL, h1.1, cond_true]
    cases ek e <;> cases dX v <;> exact ⟨rfl, rfl⟩
  rw [h2.2.2]
  unfold cw t214
  try simp only [nfs]
  rw [hg.1, hg.2]
  cases c1 : ek e
  · rw [h4.1, h4.2]
    simp
  cases c2 : dX v
  · rw [h4.1, h4.2]
    simp
  cases c3 : ml e.2.2.2.2.2.2.1 v.1
  · rw [h4.1, h4.2]
    simp
  simp only [vc, gB]
  rw [h2.1, hk, hw]
  simp only [h6.1, cond_true, cond_false, Bool.not_true, Bool.and_true, Option.getD_some, Option.isSome_some]
theorem XL (e : Ty.T aa) (n : Int) (hb : e.2.2.2.2.2.2.1.2.2.2.2.2.2.length <= 1048576) : rU e n = ((((e.1, e.2.1, e.2.2.1, e.2.2.2.1, e.2.2.2.2.1, e.2.2.2.2.2.1, e.2.2.2.2.2.2.1.1, e.2.2.2.2.2.2.1.2.1, e.2.2.2.2.2.2.1.2.2.1, e.2.2.2.2.2.2.1.2.2.2.1, e.2.2.2.2.2.2.1.2.2.2.2.1, e.2.2.2.2.2.2.1.2.2.2.2.2.1), e.2.2.2.2.2.2.2, e.2.2.2.2.2.2.1.2.2.2.2.2.2)).1, (e.2.2.2.2.2.2.2.1, cond (e.2.2.2.2.2.2.1.1 == (2 : Int)) (ey (Am (lf e) n) 2147483647) (cond (decide (lf e > (0 : Int))) (IntKind.wrap .i64 (lf e - (1 : Int))) (lf e))), e.2.2.2.2.2.2.1.2.2.2.2.2.2) := by
  have h4 := cpS e hb
  unfold rU t275
  try simp only [nfs]
  rw [h4.1, h4.2]
  unfold lf
  simp only [cond_true]
  cases (e.2.2.2.2.2.2.1.1 == (2 : Int)) <;> cases decide (e.2.2.2.2.2.2.2.2 > (0 : Int)) <;> rfl
theorem aae (e : Ty.T aa) (hb : e.2.2.2.2.2.2.1.2.2.2.2.2.2.length <= 1048576) (h : ek e = true) : -1 <= lf e /\ lf e <= 2147483647 /\ (@Eq Int e.2.2.2.2.2.2.1.1 2 -> 0 <= lf e) := by
  have hr : bx (lf e) (-1) 2147483647 = true := by
    cases hc : bx (lf e) (-1) 2147483647
    · exfalso
      unfold lf at hc
      simp only [ek, t242, hc, Bool.not_false, cond_true, nfs] at h
      revert h
      cases !bx e.1 1 99 <;> cases !bx e.2.1 0 2 <;> cases !bx e.2.2.1 0 99 <;> cases !bx e.2.2.2.1 0 4 <;> cases !bx e.2.2.2.2.2.2.2.1 (-1) 9999 <;> exact fun h => by cases h
    · rfl
  have hr2 : -1 <= lf e /\ lf e <= 2147483647 := by
    simp only [bx] at hr
    generalize lf e = x at hr
    have : decide (x ≥ (-1 : Int)) = true := by cases hx : decide (x ≥ (-1 : Int)) <;> simp_all
    have h1 := of_decide_eq_true this
    rw [this] at hr
    have h2 := of_decide_eq_true hr
    exact ⟨h1, h2⟩
  refine ⟨hr2.1, hr2.2, fun hk => ?_⟩
  by_cases hn : lf e < 0
  · exfalso
    have hn' : e.2.2.2.2.2.2.2.2 < (0 : Int) := hn
    have hk' : (e.2.2.2.2.2.2.1.1 == (2 : Int)) = true := by rw [hk]; rfl
    simp only [ek, t242, hk', decide_eq_true hn', cond_true, nfs] at h
    revert h
    cases !bx e.1 1 99 <;> cases !bx e.2.1 0 2 <;> cases !bx e.2.2.1 0 99 <;> cases !bx e.2.2.2.1 0 4 <;> cases !bx e.2.2.2.2.2.2.2.1 (-1) 9999 <;> cases !bx e.2.2.2.2.2.2.2.2 (-1) 2147483647 <;> cases (e.2.2.2.1 == (0 : Int)) <;> cases (e.2.2.1 == (0 : Int)) <;> exact fun h => by cases h
  · omega
def R7 (p : Ty.T aa) (v : Int) : Ty.T aa := (p.1, p.2.1, p.2.2.1, p.2.2.2.1, p.2.2.2.2.1, p.2.2.2.2.2.1, p.2.2.2.2.2.2.1, p.2.2.2.2.2.2.2.1, v)
theorem upS (a b : Int) (hb : 0 <= b) : 0 <= ey a b /\ (0 <= a -> ey a b <= a) /\ (a < 0 -> ey a b = 0) := by
  unfold ey
  by_cases h1 : b < a <;> by_cases h2 : a < 0 <;> simp [h1, h2, Int.not_lt.2 hb] <;> omega
theorem bdS (x : Int) : (x > 2147483647 -> fF x = 2147483647) /\ (x < -2147483647 -> fF x = -2147483647) /\ (-2147483647 <= x -> x <= 2147483647 -> fF x = x) := by
  unfold fF
  refine ⟨fun h => by rw [decide_eq_true h]; rfl, fun h => by rw [decide_eq_false (show ¬ x > 2147483647 by omega), decide_eq_true h]; rfl, fun h1 h2 => by rw [decide_eq_false (show ¬ x > 2147483647 by omega), decide_eq_false (show ¬ x < -2147483647 by omega)]; rfl⟩
theorem ack (a n : Int) (h0 : 0 <= a) (h1 : a <= 2147483647) (hn : 0 <= n) : Am a n <= a := by
  have key : ∀ m : Int, 0 <= m -> m <= 2147483647 -> fF (IntKind.wrap .i64 (a - m)) <= a := fun m m0 m1 => by
    rw [bT (by omega) (by omega), (bdS (a - m)).2.2 (by omega) (by omega)]
    omega
  unfold Am
  rw [(bdS a).2.2 (by omega) h1]
  by_cases hm : n > 2147483647
  · rw [(bdS n).1 hm]
    exact key _ (by omega) (by omega)
  · rw [(bdS n).2.2 (by omega) (by omega)]
    exact key _ hn (by omega)
theorem ahj (e : Ty.T aa) (v : Ty.T y27) (hk : @Eq Int e.2.2.2.2.2.2.1.1 2) (h0 : 0 <= lf e) : 0 <= id (α := Int) (eY e v).1 := by
  have hk' : (e.2.2.2.2.2.2.1.1 == (2 : Int)) = true := by rw [hk]; rfl
  have hk1 : (e.2.2.2.2.2.2.1.1 == (1 : Int)) = false := by rw [hk]; rfl
  simp only [eY, t287, hk', hk1, cond_true, cond_false, nfs]
  try dsimp only [id]
  rw [jm]
  exact (upS _ _ h0).1
def LeU (p p' : Ty.T aa) : Prop := ∃ v, v <= lf p /\ p' = R7 p v
theorem LeU.refl (p : Ty.T aa) : LeU p p := ⟨lf p, Int.le_refl _, rfl⟩
theorem LeU.trans (a b c : Ty.T aa) (h : LeU a b) (k : LeU b c) : LeU a c := by
  obtain ⟨x, hx, rfl⟩ := h
  obtain ⟨y, hy, rfl⟩ := k
  exact ⟨y, Int.le_trans hy hx, rfl⟩
theorem abL (p : Ty.T aa) (x : Ty.T y27) (hb : p.2.2.2.2.2.2.1.2.2.2.2.2.2.length <= 1048576) (h : ek p = true) : LeU p (sq (cw p x)) := by
  obtain ⟨l1, l2, l3⟩ := aae p hb h
  rw [Wn p x hb]
  cases (ek p && (dX x && ml p.2.2.2.2.2.2.1 x.1))
  · exact ⟨lf p, Int.le_refl _, rfl⟩
  · rw [cond_true, XL p _ hb]
    refine ⟨_, ?_, rfl⟩
    cases hk : (p.2.2.2.2.2.2.1.1 == (2 : Int))
    · rw [cond_false]
      by_cases hp : lf p > 0
      · rw [decide_eq_true hp, cond_true, bT (by omega) (by omega)]
        omega
      · rw [decide_eq_false hp, cond_false]
        exact Int.le_refl _
    · have hk2 : @Eq Int p.2.2.2.2.2.2.1.1 2 := eq_of_beq hk
      have h0 := l3 hk2
      have hn := ahj p x hk2 h0
      have hl := ack (lf p) (eY p x).1 h0 l2 hn
      have hu := upS (Am (lf p) (eY p x).1) 2147483647 (by omega)
      rw [cond_true]
      by_cases hz : Am (lf p) (eY p x).1 < 0
      · rw [hu.2.2 hz]
        exact h0
      · exact Int.le_trans (hu.2.1 (by omega)) hl
def WS (s : Ty.T y36) (x : Ty.T y27) (u : List (Ty.T (.int .i64))) (T : List (Ty.T aa)) (z : List (Ty.T aa) × List (Ty.T y27) × List (Ty.T (.int .i64)) × List (Ty.T y66)) : Prop :=
  aL LeU T z.1 /\ (z.2.2.2 = [] -> z.1 = T) /\ ∀ t ts, z.2.2.2 = t :: ts -> t.2.2.2.2.1 = x /\ @Eq Int t.2.2.2.2.2.2.2 (u.length : Int) /\ t.1 ∈ dS s T x u
theorem Lc {P : Ty.T y27 -> List (Ty.T aa) -> List (Ty.T (.int .i64)) -> List (Ty.T aa) × List (Ty.T y27) × List (Ty.T (.int .i64)) × List (Ty.T y66) -> Prop} (hP : ∀ y T cs a, P y T cs a -> aL LeU T a.1) : ∀ {L T cs z}, FoldP P L T cs z -> aL LeU T z.1
  | _, _, _, _, .nil => aL.refl LeU.refl _
  | _, _, _, _, .cons (L := L) (a := a) (b := b) h k => aL.trans' LeU.trans (hP _ _ _ _ h) (Lc (L := L) (T := a.1) (cs := a.2.2.1) (z := b) hP k)
theorem Y8 {s : Ty.T y36} (hb : s.1.length <= 1048576) (hs : s.2.1.length <= 1048576) (k : Nat) (x : Ty.T y27) (u : List (Ty.T (.int .i64))) (T : List (Ty.T aa)) (cs : List (Ty.T (.int .i64))) (w : WfW k u T cs) : WS s x u T (mw s k x u T cs) := by
  refine (Pp hb hs (fun k x u T cs z => WS s x u T z) ?_ ?_ ?_ k x u T cs w).1
  · intro x u T cs w
    exact ⟨aL.refl LeU.refl _, fun _ => rfl, fun t ts h => by cases h⟩
  · intro k x u T cs w ho
    exact ⟨aL.refl LeU.refl _, fun _ => rfl, fun t ts h => by cases h⟩
  · intro k x u T cs oo ch cs1 j p z w ho hol hy hpk hcs hpj hun hft hn1 hL hf
    have hpm := List.mem_of_getElem? hpj
    have hok := Ci s p x (w.tv p hpm) hft
    have hA : aL LeU T (T.set j (sq (cw p x))) := aL.WE LeU.refl T j _ fun q hq => by
      have : q = p := Option.some.inj (hq.symm.trans hpj)
      subst this
      exact abL q x (w.tv q hpm) hok
    have hfo := Lc (P := fun y T cs a => WfW k (u ++ [p.1]) T cs /\ WS s y (u ++ [p.1]) T a /\ iD T cs a.1 a.2.2.1) (fun y T cs a h => h.2.1.1) hf
    refine ⟨aL.trans' LeU.trans hA hfo, (fun h => by cases h), fun t ts h => ?_⟩
    have ht := (List.cons.inj h).1
    subst ht
    exact ⟨rfl, rfl, by rw [ho]; exact List.mem_of_getElem? hy⟩
theorem Ts (l : List (Ty.T y66)) (hb : l.length <= 1048576) : d58 l = true /\ v58 l = (l.filter ofN).map (·.2.2.1) := by
  have h := dJ (s := x9) (f := fun i => ([], l, ((l).length : Int), (i : Int), ((l.take i).filter ofN).map (·.2.2.1), ())) (c := 0) (N := l.length) (v' := ([], l, ((l).length : Int), (l.length : Int), ((l.take l.length).filter ofN).map (·.2.2.1), ())) (fun i hi => by
    have h1 : l[i]? = some l[i] := List.getElem?_eq_getElem hi
    have hw := aT (n := i) (by omega)
    have hz : ∀ x : Int, (@HAppend.hAppend (List Int) (List Int) (List Int) _ (((l.take i).filter ofN).map (·.2.2.1)) [x]).length * 8 <= 140737488351232 := fun x => by
      have := List.length_filter_le ofN (l.take i)
      simp only [List.length_append, List.length_cons, List.length_nil, List.length_map, List.length_take] at this ⊢
      omega
    rw [dL h1]
    by_cases c1 : (l[i]).2.2.2.1 ≥ (2 : Int)
    · have c2 : ofN l[i] = true := decide_eq_true c1
      simp only [x9, wS, decide_eq_true (show (i : Int) < (l.length : Int) by omega), cond_true, if_pos (show (0 : Int) <= (i : Int) by omega), Int.toNat_natCast, h1, ay, hw, decide_eq_true c1, c2, if_pos (hz _), List.map_append, List.map_cons, List.map_nil] <;> rfl
    · have c2 : ofN l[i] = false := decide_eq_false c1
      simp only [x9, wS, decide_eq_true (show (i : Int) < (l.length : Int) by omega), cond_true, if_pos (show (0 : Int) <= (i : Int) by omega), Int.toNat_natCast, h1, ay, hw, decide_eq_false c1, c2, cond_false, List.append_nil] <;> rfl) (by simp [x9, wS]) l.length 0 (Fh ([], l, ((l).length : Int), 0, [], ())) (by omega) (by simp only [Fh]; omega)
  have hk : KB [] l ((l).length : Int) 0 [] 0 = true := aX h 0
  have hw : Pr [] l ((l).length : Int) 0 [] = _ := bo h
  unfold d58 v58
  rw [hk, hw]
  exact ⟨rfl, by simp⟩
theorem acN (f : Ty.T y56) (hb : f.2.2.2.length <= 1048576) : d49 f = true /\ v49 f = (fb f.2.2.2 : Int) := by
  have h := Ts f.2.2.2 hb
  unfold d49 v49
  rw [h.1, h.2]
  refine ⟨rfl, ?_⟩
  show ((List.length (List.map _ (List.filter ofN f.2.2.2)) : Nat) : Int) = _
  rw [List.length_map, ← List.countP_eq_length_filter]
  rfl
theorem ach (f : Ty.T y56) (hb : f.2.2.2.length <= 1048576) : d67 f = true /\ v67 f = ((fb f.2.2.2 : Nat) : Int) := by
  have h := dJ (s := zD) (f := fun i => (0, ((fb (f.2.2.2.take i) : Nat) : Int), (i : Int), f, ())) (c := 0) (N := f.2.2.2.length) (v' := (0, ((fb (f.2.2.2.take f.2.2.2.length) : Nat) : Int), (f.2.2.2.length : Int), f, ())) (fun i hi => by
    have h1 : f.2.2.2[i]? = some f.2.2.2[i] := List.getElem?_eq_getElem hi
    have hw := aT (n := i) (by omega)
    have hn : fb (f.2.2.2.take (i + 1)) = fb (f.2.2.2.take i) + (if ofN f.2.2.2[i] = true then 1 else 0) := by
      rw [dU h1]
      unfold fb
      rw [List.countP_append, List.countP_cons, List.countP_nil, Nat.zero_add]
    have hle : fb (f.2.2.2.take i) <= i := Nat.le_trans List.countP_le_length (by rw [List.length_take]; omega)
    rw [hn]
    by_cases c1 : (f.2.2.2[i]).2.2.2.1 ≥ (2 : Int)
    · have c2 : ofN f.2.2.2[i] = true := decide_eq_true c1
      have hw2 := aT (n := fb (f.2.2.2.take i)) (by omega)
      simp only [zD, zb, decide_eq_true (show (i : Int) < (f.2.2.2.length : Int) by omega), cond_true, if_pos (show (0 : Int) <= (i : Int) by omega), Int.toNat_natCast, h1, ay, hw, hw2, decide_eq_true c1, c2, if_true]
    · have c2 : ofN f.2.2.2[i] = false := decide_eq_false c1
      simp only [zD, zb, decide_eq_true (show (i : Int) < (f.2.2.2.length : Int) by omega), cond_true, if_pos (show (0 : Int) <= (i : Int) by omega), Int.toNat_natCast, h1, ay, hw, decide_eq_false c1, c2, cond_false, Bool.false_eq_true, if_false, Nat.add_zero]) (by simp [zD, zb]) f.2.2.2.length 0 (ED (0, 0, 0, f, ())) (by omega) (by simp only [ED]; omega)
  have hk : Lz 0 0 0 f 0 = true := aX h 0
  have hw : N6 0 0 0 f = _ := bo h
  unfold d67 v67
  rw [hk, hw]
  exact ⟨rfl, by simp⟩
theorem Zl (f : Ty.T y56) (k : Int) (hb : f.1.length <= 1048576) : d72 f k = true /\ v72 f k = (f.1.filter fun x => x.1 == k) := by
  have h := dJ (s := Bk) (f := fun i => (k, [], (i : Int), f, ((f.1.take i).filter fun x => x.1 == k), ())) (c := 0) (N := f.1.length) (v' := (k, [], (f.1.length : Int), f, ((f.1.take f.1.length).filter fun x => x.1 == k), ())) (fun i hi => by
    have h1 : f.1[i]? = some f.1[i] := List.getElem?_eq_getElem hi
    have hw := aT (n := i) (by omega)
    have hz : ∀ x : Ty.T y27, (((f.1.take i).filter fun x => x.1 == k) ++ [x]).length * 56 <= 140737488351232 := fun x => by
      have := List.length_filter_le (fun x : Ty.T y27 => x.1 == k) (f.1.take i)
      simp only [List.length_append, List.length_cons, List.length_nil, List.length_take] at this ⊢
      omega
    rw [dL h1]
    cases c1 : ((f.1[i]).1 == k) <;> simp only [Bk, Bj, decide_eq_true (show (i : Int) < (f.1.length : Int) by omega), cond_true, cond_false, if_pos (show (0 : Int) <= (i : Int) by omega), Int.toNat_natCast, h1, ay, hw, c1, if_pos (hz _), List.append_nil]) (by simp [Bk, Bj]) f.1.length 0 (ES (k, [], 0, f, [], ())) (by omega) (by simp only [ES]; omega)
  have hk : Lm k [] 0 f [] 0 = true := aX h 0
  have hw : Pj k [] 0 f [] = _ := bo h
  unfold d72 v72
  rw [hk, hw]
  exact ⟨rfl, by simp⟩
theorem ag2 (l : List (Ty.T y27)) (k : Int) (hb : l.length <= 1048576) : ye l k = true /\ lS l k = (match first (fun i => match l[i]? with | some x => (x.1 != k) | none => false) 0 l.length with | some j => (j : Int) | none => -1) := by
  have h := dn (s := kn) (mk := fun i => (l, k, 0, ((l).length : Int), i, ())) (fin := fun i => (l, k, (i : Int), ((l).length : Int), (i : Int), ())) (p := fun i => match l[i]? with | some x => (x.1 != k) | none => false) (N := l.length) (fun i hi => by
    have h1 := List.getElem?_eq_getElem hi
    simp only [h1]
    skip
    cases ht : (((l[i]).1 != k) : Bool) <;> simp [kn, ld, ay, hi, h1, ht, Ek, aT (n := i) (by omega)]) (by simp [kn, ld]) l.length 0 (nL (l, k, 0, ((l).length : Int), 0, ())) (by omega) (by simp [nL]; omega)
  unfold ye lS
  revert h
  generalize first _ 0 l.length = o
  intro h
  cases o with
  | none =>
    have e0 : fh l k 0 ((l).length : Int) 0 0 = false := aX h 0
    have e1 : fh l k 0 ((l).length : Int) 0 1 = true := aX h 1
    rw [e0, e1]
    exact ⟨rfl, rfl⟩
  | some j =>
    have e0 : fh l k 0 ((l).length : Int) 0 0 = true := aX h 0
    have hw : zY l k 0 ((l).length : Int) 0 = _ := bo h
    rw [e0, hw]
    exact ⟨rfl, rfl⟩
theorem aeM (l : List (Ty.T y27)) (kk : Int) (hb : l.length <= 1048576) : qJ kk l = true /\ (uj kk l).2 = l.filter fun x => !(x.1 != kk) := by
  have h0 := ag2 l kk hb
  cases hf : first (fun i => match l[i]? with | some x => (x.1 != kk) | none => false) 0 l.length with
  | none =>
    rw [hf] at h0
    have hk := oP (p := fun x : Ty.T y27 => x.1 != kk) (xs := l) (j := l.length) (fun t x ht hx => by have := jG hf t (by omega) (by omega); simpa only [hx] using this) (Nat.le_refl _)
    rw [List.take_length] at hk
    unfold qJ uj qV
    try simp only [nfs]
    rw [h0.1, h0.2, ← hk]
    exact ⟨rfl, rfl⟩
  | some j =>
    rw [hf] at h0
    obtain ⟨_, hj, hp⟩ := fO hf
    have hk := oP (p := fun x : Ty.T y27 => x.1 != kk) (xs := l) (j := j) (fun t x ht hx => by have := vq hf t (by omega) (by omega); simpa only [hx] using this) (by omega)
    have hx : l[j]? = some l[j] := List.getElem?_eq_getElem (by omega)
    simp only [hx] at hp
    have hw1 := aT (n := j) (by omega)
    have h := ri (s := iE) (mk := fun k : List (Ty.T y27) × Nat × Nat => ([], (k.2.1 : Int), (k.2.2 : Int), kk, k.1, ()))
      (Inv := fun t k => k.2.2 = t /\ k.2.1 < t /\ k.1.length = l.length /\ k.1.take k.2.1 = (l.take t).filter (fun x => !(x.1 != kk)) /\ ∀ r, t <= r -> k.1[r]? = l[r]?)
      (Q := fun v => ∃ (i : Nat) (m : List (Ty.T y27)), v = ([], (i : Int), (l.length : Int), kk, m, ()) /\ i <= m.length /\ m.take i = l.filter fun x => !(x.1 != kk))
      (c := 0) (N := l.length) (fun t k ht hI => by
        obtain ⟨m, i, r⟩ := k
        obtain ⟨hr, hi, hl, htk, hd⟩ := hI
        dsimp only at hr hi hl htk hd
        subst hr
        have hx : l[r]? = some l[r] := List.getElem?_eq_getElem ht
        have hm : m[r]? = some l[r] := by rw [hd r (Nat.le_refl _), hx]
        obtain ⟨y, hy⟩ : ∃ y, m[i]? = some y := ⟨m[i]'(by omega), List.getElem?_eq_getElem _⟩
        have g1 : (r : Int) < (m.length : Int) := by omega
        have g2 : (i : Int) < (m.length : Int) := by omega
        have g3 := aT (n := r) (by omega)
        have g4 := aT (n := i) (by omega)
        have g5 : (0 : Int) <= (r : Int) := by omega
        have g6 : (0 : Int) <= (i : Int) := by omega
        cases hq : ((l[r]).1 != kk) with
        | false =>
          have h := BP (q := fun x : Ty.T y27 => !(x.1 != kk)) hx hi hl htk hd (by rw [hq]; rfl)
          refine ⟨(m.set i l[r], i + 1, r + 1), ?_, rfl, h⟩
          simp only [iE, iA, pJ, decide_eq_true g1, cond_true, if_pos g5, if_pos g1, Int.toNat_natCast, hm, ay, hq, Bool.not_false, if_pos g6, if_pos g2, hy, g3, g4]
        | true =>
          have h := BQ (q := fun x : Ty.T y27 => !(x.1 != kk)) hx hi htk hd (by rw [hq]; rfl)
          refine ⟨(m, i, r + 1), ?_, rfl, h.1, hl, h.2⟩
          simp only [iE, iA, pJ, decide_eq_true g1, cond_true, if_pos g5, if_pos g1, Int.toNat_natCast, hm, ay, hq, Bool.not_true, cond_false, g3])
      (fun k hI => by
        obtain ⟨m, i, r⟩ := k
        obtain ⟨hr, hi, hl, htk, hd⟩ := hI
        dsimp only at hr hi hl htk hd
        subst hr
        refine ⟨_, ?_, i, m, rfl, by omega, by rw [htk, List.take_length]⟩
        have g1 : ¬ ((l.length : Int) < (m.length : Int)) := by omega
        simp only [iE, iA, decide_eq_false g1, cond_false])
      (l.length - (j + 1)) (j + 1) (mR ([], (j : Int), ((j + 1 : Nat) : Int), kk, l, ())) (l, j, j + 1) (by omega) (by simp only [mR]; omega) ⟨rfl, Nat.lt_succ_self j, rfl, by rw [dL hx, ← hk]; simp [hp], fun _ _ => rfl⟩
    obtain ⟨v', hv, i, m, rfl, hi, hm⟩ := h
    have hkk : Hf [] (j : Int) ((j + 1 : Nat) : Int) kk l 0 = true := aX hv 0
    have hww : HR [] (j : Int) ((j + 1 : Nat) : Int) kk l = _ := bo hv
    have e1 : (((j : Nat) : Int) == (-1 : Int)) = false := by simp
    have e2 : ∀ R D : List (Ty.T y27), ((m.take i ++ R ++ D).take i) = m.take i := fun R D => by rw [List.append_assoc, List.take_append_of_le_length (by simp; omega), List.take_take, Nat.min_self]
    have g0 : (0 : Int) <= (i : Int) := by omega
    have g1 : (i : Int) <= (m.length : Int) := by omega
    have g2 : ∀ R D : List (Ty.T y27), (i : Int) <= ((m.take i ++ R ++ D).length : Int) := fun R D => by simp only [List.length_append, List.length_take]; omega
    unfold qJ uj qV
    try simp only [nfs]
    rw [h0.1, h0.2]
    simp only [b7, h0.2, hf, e1, hw1, hkk, hww, cond_true, cond_false, if_pos g0, if_pos g1, if_pos (g2 _ _), decide_eq_true g0, decide_eq_true g1, decide_eq_true (g2 _ _), Bool.and_true, Int.toNat_natCast, e2]
    rw [hm]
    exact ⟨trivial, rfl⟩
theorem ZP (f : Ty.T y56) (k : Int) (hb : f.1.length <= 1048576) : d71 f k = true /\ v71 f k = (f.1.filter fun x => x.1 == k) := by
  have hc := Nc f.1 hb
  have hd := aeM f.1 k hb
  unfold d71 v71
  simp only [hc, wD, hd.1, hd.2, cond_true]
  refine ⟨trivial, ?_⟩
  congr 1
  funext x
  rw [bne, Bool.not_not]
theorem WT (xs : List (Ty.T y27)) (hb : xs.length <= 1048576) : d70 xs xs = true /\ v70 xs xs = true := by
  have h := nY (s := Ax) (mk := fun i => (xs, xs, false, i, ())) (c := 1) (N := xs.length) (fun i hi => by
    simp [Ax, BE, ay, hi, aT (n := i) (by omega)]) (by simp [Ax, BE]) xs.length 0 (Fg (xs, xs, false, 0, ())) (by omega) (by simp only [Fg]; omega)
  have h0 : vY xs xs false 0 0 = false := aX h 0
  have h1 : vY xs xs false 0 1 = true := aX h 1
  unfold d70 v70
  rw [h0, h1]
  simp
theorem U9 (s : Ty.T y36) (l : List (Ty.T aa)) (e : Ty.T y27) (cs : List (Ty.T (.int .i64))) (hb : s.1.length <= 1048576) (hs : s.2.1.length <= 1048576) (hl : l.length <= 1048576) (hv : ∀ x ∈ l, x.2.2.2.2.2.2.1.2.2.2.2.2.2.length <= 1048576) (hc : cs.length <= 1048576) :
    ((rwM s l e cs).1.length <= 243 /\ (rwM s l e cs).2.2.2.length <= 121 /\ (∀ t ∈ (rwM s l e cs).2.2.2, 0 <= gn t /\ gn t + 1 <= l.foldl gK 0)) /\ aL LeU l (rwM s l e cs).2.1 /\ ((rwM s l e cs).2.2.2 = [] -> (rwM s l e cs).2.1 = l) /\ ∀ t ts, (rwM s l e cs).2.2.2 = t :: ts -> t.2.2.2.2.1 = e /\ @Eq Int t.2.2.2.2.2.2.2 0 /\ t.1 ∈ dS s l e [] := by
  cases hok : (Jd s && qL l && dX e) with
  | false =>
    have hM : rwM s l e cs = ([], l, cs, []) := by simp only [rwM, hok, cond_false]
    rw [hM]
    exact ⟨⟨by simp, by simp, fun t ht => by cases ht⟩, aL.refl LeU.refl _, fun _ => rfl, fun t ts h => by cases h⟩
  | true =>
    have hM : rwM s l e cs = ((mw s 6 e [] l cs).2.1, (mw s 6 e [] l cs).1, (mw s 6 e [] l cs).2.2.1, (mw s 6 e [] l cs).2.2.2) := by simp only [rwM, hok, cond_true]
    have h2 : qL l = true := by simp only [Bool.and_eq_true] at hok; exact hok.1.2
    have h5 := Nk l hl hv h2
    have w : WfW 6 [] l cs := ⟨hl, hv, Ya l hl hv h2, by simp, hc⟩
    have hcu : usN [] l <= 5 := Nat.le_trans List.countP_le_length h5
    obtain ⟨-, b2, b3⟩ := abQ hb hs 6 e [] l cs w
    obtain ⟨a1, a2, a3⟩ := Y8 hb hs 6 e [] l cs w
    obtain ⟨x1, x2, -⟩ := b2 5 hcu
    obtain ⟨-, -, x3⟩ := b2 _ (Nat.le_refl _)
    rw [hM]
    refine ⟨⟨x1, x2, fun t ht => ?_⟩, a1, a2, fun t ts h => a3 t ts h⟩
    have := x3 t ht
    simp only [List.length_nil] at this
    rw [Tp]
    omega
theorem aL.at {α : Type} {R : α -> α -> Prop} : ∀ {l m : List α}, aL R l m -> l.length = m.length /\ ∀ i (h : i < l.length) (k : i < m.length), R l[i] m[i]
  | _, _, .nil => ⟨rfl, fun i h => by cases h⟩
  | _, _, .cons a b => by
    obtain ⟨h1, h2⟩ := aL.at b
    refine ⟨by simp [h1], fun i h k => ?_⟩
    cases i with
    | zero => exact a
    | succ i => exact h2 i (Nat.lt_of_succ_lt_succ h) (Nat.lt_of_succ_lt_succ k)
theorem eqRefl (xs : List (Ty.T y27)) (hb : xs.length <= 1048576) : d174 xs xs = true /\ MP xs xs = true := by
  have h := nY (s := u7) (mk := fun i => (xs, xs, false, (xs.length : Int), i, ())) (c := 1) (N := xs.length) (fun i hi => by
    simp [u7, te, ay, hi, aT (n := i) (by omega)]) (by simp [u7, te]) xs.length 0 (w4 (xs, xs, false, (xs.length : Int), 0, ())) (by omega) (by simp only [w4]; omega)
  have h0 : ng xs xs false (xs.length : Int) 0 0 = false := aX h 0
  have h1 : ng xs xs false (xs.length : Int) 0 1 = true := aX h 1
  unfold d174 MP
  rw [h0, h1]
  simp
theorem Qn (x : Ty.T aa) (hb : x.2.2.2.2.2.2.1.2.2.2.2.2.2.length <= 1048576) : d73 x x = true /\ v73 x x = true := by
  have h := eqRefl x.2.2.2.2.2.2.1.2.2.2.2.2.2 hb
  have ha : d179 x.2.2.2.2.2.2.1 x.2.2.2.2.2.2.1 = true /\ Pc x.2.2.2.2.2.2.1 x.2.2.2.2.2.2.1 = true := by
    unfold d179 Pc
    simp only [beq_self_eq_true, cond_true, h.1, h.2, and_self]
  unfold d73 v73 t73
  try simp only [nfs]
  simp only [beq_self_eq_true, Bool.and_true, cond_true, ha.1, ha.2, Option.isSome_some, Option.getD_some, and_self]
theorem Wv (xs : List (Ty.T aa)) (hb : xs.length <= 1048576) (hv : ∀ x ∈ xs, x.2.2.2.2.2.2.1.2.2.2.2.2.2.length <= 1048576) : d74 xs xs = true /\ v74 xs xs = true := by
  have h := nY (s := kq) (mk := fun i => (xs, false, xs, (xs.length : Int), i, ())) (c := 1) (N := xs.length) (fun i hi => by
    have r := Qn xs[i] (hv _ (List.getElem_mem hi))
    simp [kq, kZ, ay, hi, r.1, r.2, aT (n := i) (by omega)]) (by simp [kq, kZ]) xs.length 0 (mB (xs, false, xs, (xs.length : Int), 0, ())) (by omega) (by simp only [mB]; omega)
  have h0 : fY xs false xs (xs.length : Int) 0 0 = false := aX h 0
  have h1 : fY xs false xs (xs.length : Int) 0 1 = true := aX h 1
  have h2 : qt xs xs = true /\ uE xs xs = true := by
    unfold qt uE
    rw [h0, h1]
    simp
  unfold d74 v74
  rw [h2.1, h2.2]
  exact ⟨rfl, rfl⟩
def cur (c : Ty.T af) : Prop := (0 : Int) <= id (α := Int) c.2.1 /\ id (α := Int) c.2.1 <= (c.1.length : Int) /\ (c.1.length : Int) <= 1099511627776
theorem OO (x : Int) : 0 <= IntKind.wrap .i64 ((BitVec.ofInt (IntKind.bits .i64) x &&& BitVec.ofInt (IntKind.bits .i64) (255 : Int)).toNat : Int) /\ IntKind.wrap .i64 ((BitVec.ofInt (IntKind.bits .i64) x &&& BitVec.ofInt (IntKind.bits .i64) (255 : Int)).toNat : Int) <= 255 := by
  have h : (BitVec.ofInt (IntKind.bits .i64) x &&& BitVec.ofInt (IntKind.bits .i64) (255 : Int)).toNat <= 255 := by
    rw [BitVec.toNat_and]
    exact Nat.le_trans Nat.and_le_right (by decide)
  rw [bT (by omega) (by omega)]
  omega
theorem acG (b : List Int) (i k : Int) (h1 : 0 <= i) (h2 : i <= (b.length : Int)) (h3 : (b.length : Int) <= 1099511627776) : mK (b, i, k) = true /\ (0 <= (cX (b, i, k)).1 /\ (cX (b, i, k)).1 <= 255) /\ cur (cX (b, i, k)).2 := by
  unfold mK cX s7
  try simp only [nfs]
  dsimp only [Ty.T]
  by_cases hl : i < (b.length : Int)
  · have hi : i.toNat < b.length := by omega
    simp only [hl, decide_true, cond_true, h1, Bool.true_and, pq, rR, List.getElem?_eq_getElem hi]
    refine ⟨trivial, OO _, ?_⟩
    show (0 : Int) <= IntKind.wrap .i64 (i + 1) /\ IntKind.wrap .i64 (i + 1) <= (b.length : Int) /\ (b.length : Int) <= 1099511627776
    rw [bT (by omega) (by omega)]
    omega
  · simp only [hl, decide_false, cond_false]
    exact ⟨trivial, OO _, h1, h2, h3⟩
theorem byte (c : Ty.T af) (h : cur c) : mK c = true /\ (0 <= (cX c).1 /\ (cX c).1 <= 255) /\ cur (cX c).2 := acG c.1 c.2.1 c.2.2 h.1 h.2.1 h.2.2
theorem below (n : Int) (c : Ty.T af) (h : cur c) : bD n c = true /\ (0 < n -> 0 <= (ab n c).1 /\ (ab n c).1 < n) /\ cur (ab n c).2 := by
  have b1 := byte c h
  have b2 := byte _ b1.2.2
  have b3 := byte _ b2.2.2
  unfold bD ab qU
  try simp only [nfs]
  by_cases h0 : n <= 0
  · simp only [h0, decide_true, cond_true]
    exact ⟨trivial, fun h => by omega, h⟩
  · have hn : ¬ n = 0 := by omega
    simp only [h0, decide_false, cond_false, b1.1, b2.1, b3.1, cond_true, hn, Bool.not_false, Bool.and_true]
    by_cases h1 : n <= 256
    · simp only [h1, decide_true, cond_true]
      exact ⟨trivial, fun _ => ⟨Int.tmod_nonneg _ b1.2.1.1, Int.tmod_lt_of_pos _ (by omega)⟩, b1.2.2⟩
    · simp only [h1, decide_false, cond_false]
      refine ⟨trivial, fun _ => ⟨Int.tmod_nonneg _ ?_, Int.tmod_lt_of_pos _ (by omega)⟩, b3.2.2⟩
      obtain ⟨_, ⟨p1, p2⟩, _⟩ := b1
      obtain ⟨_, ⟨q1, q2⟩, _⟩ := b2
      obtain ⟨_, ⟨r1, r2⟩, _⟩ := b3
      rw [bT (n := (cX c).1 * 65536) (by omega) (by omega), bT (n := (cX (cX c).2).1 * 256) (by omega) (by omega), bT (n := (cX c).1 * 65536 + _) (by omega) (by omega), bT (by omega) (by omega)]
      omega
theorem oneOf (l : List Int) (c : Ty.T af) (hl : l ≠ []) (h : cur c) : bu l c = true /\ (ah l c).1 ∈ l /\ cur (ah l c).2 := by
  have hp : 0 < l.length := List.length_pos_iff.2 hl
  obtain ⟨b1, b2, b3⟩ := below (l.length : Int) c h
  have b2 := b2 (by omega)
  unfold bu ah
  have hi : ((ab (l.length : Int) c).1).toNat < l.length := by omega
  have h0 := b2.1
  simp only [b1, cond_true, h0, decide_true, Bool.true_and, pq, rR]
  simp only [List.getElem?_eq_getElem hi]
  exact ⟨trivial, List.getElem_mem hi, b3⟩
theorem once (n : Int) (c : Ty.T af) (h : cur c) : df n c = true /\ cur (az n c).2 := by
  have b := below n c h
  unfold df az
  simp only [b.1, cond_true]
  exact ⟨trivial, b.2.2⟩
theorem Tl (b : List Int) (hh i : Int) (h0 : 0 <= i) (hb : i <= 1099511627776) : (i < (b.length : Int) /\ ∃ h' : Int, p7 (b, hh, i, ()) = some (0, (b, h', i + 1, ()))) ∨ p7 (b, hh, i, ()) = some (1, (b, hh, i, ())) := by
  unfold p7 xF
  dsimp only [Ty.T]
  by_cases hl : i < (b.length : Int)
  · by_cases h4 : i < 4000
    · have hi : i.toNat < b.length := by omega
      have e : IntKind.wrap .i64 (i + 1) = i + 1 := bT (by omega) (by omega)
      refine .inl ⟨hl, ?w, ?h⟩
      case h =>
        simp only [hl, h4, decide_true, cond_true, h0, if_true, bq, List.getElem?_eq_getElem hi, e]
        rfl
    · right
      simp only [hl, h4, decide_true, decide_false, cond_true, cond_false]
  · right
    simp only [hl, decide_false, cond_false]
theorem aiC (b : List Int) (hb : (b.length : Int) <= 1099511627776) : d116 b = true /\ cur (cO b) := by
  have h : ∀ x : Int, _ := fun x => sb (s := p7) (Q := fun v => v.1 = b) (fun k v => ∃ hh i : Int, v = (b, hh, i, ()) /\ 0 <= i /\ i + k = b.length) (fun k v hv => by
    obtain ⟨hh, i, rfl, h0, hk⟩ := hv
    rcases Tl b hh i h0 (by omega) with ⟨hl, h', h1⟩ | h1
    · exact .inr ⟨k - 1, _, by omega, h1, h', i + 1, rfl, by omega, by omega⟩
    · exact .inl ⟨_, h1, rfl⟩) b.length (b, x, (0 : Int), ()) (wW (b, x, (0 : Int), ())) ⟨x, 0, rfl, by omega, by omega⟩ (by simp only [wW]; omega)
  unfold d116 cO
  obtain ⟨v', h1, h2⟩ := h (IntKind.wrap .i64 ((139871 : Int) + (b.length : Int)))
  have e1 : Cx b (IntKind.wrap .i64 ((139871 : Int) + (b.length : Int))) 0 0 = true := aX h1 0
  have e2 : xa b (IntKind.wrap .i64 ((139871 : Int) + (b.length : Int))) 0 = v' := bo h1
  simp only [e1, e2, cond_true]
  refine ⟨trivial, ?_⟩
  rw [h2]
  exact ⟨Int.le_refl _, Int.natCast_nonneg _, hb⟩
theorem bM {n : Int} {c : Ty.T af} (h : cur c) : bD n c = true := (below n c h).1
theorem bt {n : Int} {c : Ty.T af} (h : cur c) : cur (ab n c).2 := (below n c h).2.2
theorem dH {n : Int} {c : Ty.T af} (h : cur c) : df n c = true := (once n c h).1
theorem cP {n : Int} {c : Ty.T af} (h : cur c) : cur (az n c).2 := (once n c h).2
theorem cD {l : List (Ty.T (.int .i64))} {c : Ty.T af} (hl : l ≠ []) (h : cur c) : bu l c = true := (oneOf l c hl h).1
theorem bN {l : List (Ty.T (.int .i64))} {c : Ty.T af} (hl : l ≠ []) (h : cur c) : cur (ah l c).2 := (oneOf l c hl h).2.2
theorem KS {n : Int} {c : Ty.T af} {p q : Ty.T y63} {l : List Int} (h : cur c) (hn : n = l.length) (hb : l.length <= 1000) : yV n 0 c p q l 0 = true /\ cur (zP n 0 c p q l).2.2.1 := by
  have := lV (s := mC) (Q := fun v => cur v.2.2.1) (fun k v => ∃ (i : Int) (c : Ty.T af) (q : Ty.T y63), v = (n, i, c, p, q, l, ()) /\ cur c /\ 0 <= i /\ i + k = n) (fun k v hv => by
    obtain ⟨i, c, q, rfl, h1, h3, h4⟩ := hv
    unfold mC oc
    dsimp only
    simp (maxDischargeDepth := 99) only [false_and, and_false, av, ak, false_and, and_false, aD, aE, aF, ax, cond_true, cond_false, and_true, true_and, implies_true, and_self, ne_eq, reduceCtorEq, not_false_eq_true, true_or, or_true, false_or, or_false, Nat.zero_ne_one, Nat.one_ne_zero, List.length_cons, List.length_nil, Nat.reduceAdd, Nat.reduceLeDiff, Int.cast_ofNat_Int, bm, aW, bn, aY, bh, bl, dH, cP, h1]
    intro hl
    have hl : i < n := of_decide_eq_true hl
    obtain ⟨b, hb1, _⟩ := OX (l := l) h3 (by omega)
    have e : IntKind.wrap .i64 (i + 1) = i + 1 := bT (by omega) (by omega)
    have hl2 : i < (l.length : Int) := by omega
    refine ⟨h3, hl2, b, hb1, k - 1, by omega, i + 1, _, _, by rw [e], cP h1, by omega, by omega⟩) l.length (n, 0, c, p, q, l, ()) (mH (n, 0, c, p, q, l, ())) ⟨0, c, q, rfl, h, by omega, by omega⟩ (by simp only [mH]; omega)
  exact ⟨this.1.1, this.2⟩
theorem Lq {c : Ty.T af} {p q : Ty.T y63} {l : List (Ty.T (.int .i64))} (hl : (6 : Int) = l.length) (h : cur c) : yV 6 0 c p q l 0 = true := (KS (l := l) h hl (by omega)).1
theorem KL {c : Ty.T af} {p q : Ty.T y63} {l : List (Ty.T (.int .i64))} (hl : (6 : Int) = l.length) (h : cur c) : cur (zP 6 0 c p q l).2.2.1 := (KS (l := l) h hl (by omega)).2
theorem vH {a1 : Ty.T af} (h0 : cur a1) : cur (fy a1).2 := by
  unfold fy
  simp (maxDischargeDepth := 99) only [false_and, and_false, av, ak, false_and, and_false, aD, aE, aF, ax, cond_true, cond_false, and_true, true_and, implies_true, and_self, ne_eq, reduceCtorEq, not_false_eq_true, true_or, or_true, false_or, or_false, Nat.zero_ne_one, Nat.one_ne_zero, List.length_cons, List.length_nil, Nat.reduceAdd, Nat.reduceLeDiff, Int.cast_ofNat_Int, bM, bt, cD, bN, h0]
theorem vK {a0 : Int} {a1 : Ty.T af} (h0 : cur a1) : cur (dC a0 a1).2.2.1 := by
  unfold dC
  simp (maxDischargeDepth := 99) only [false_and, and_false, av, ak, false_and, and_false, aD, aE, aF, ax, cond_true, cond_false, and_true, true_and, implies_true, and_self, ne_eq, reduceCtorEq, not_false_eq_true, true_or, or_true, false_or, or_false, Nat.zero_ne_one, Nat.one_ne_zero, List.length_cons, List.length_nil, Nat.reduceAdd, Nat.reduceLeDiff, Int.cast_ofNat_Int, Lq, KL, bM, bt, vH, cD, bN, h0]
theorem Gh {a0 : Int} {a1 : Ty.T af} (h0 : cur a1) : cur (gf a0 a1).2 := by
  unfold gf
  simp (maxDischargeDepth := 99) only [false_and, and_false, av, ak, false_and, and_false, aD, aE, aF, ax, cond_true, cond_false, and_true, true_and, implies_true, and_self, ne_eq, reduceCtorEq, not_false_eq_true, true_or, or_true, false_or, or_false, Nat.zero_ne_one, Nat.one_ne_zero, List.length_cons, List.length_nil, Nat.reduceAdd, Nat.reduceLeDiff, Int.cast_ofNat_Int, cD, bN, dH, cP, vK, h0]
theorem KP {a0 : Int} {a1 : Ty.T af} (h0 : cur a1) : Sat (mL a0 a1 some) (fun r => cur r.2) := by
  unfold mL
  simp (maxDischargeDepth := 99) only [false_and, and_false, av, ak, false_and, and_false, aD, aE, aF, ax, cond_true, cond_false, and_true, true_and, implies_true, and_self, ne_eq, reduceCtorEq, not_false_eq_true, true_or, or_true, false_or, or_false, Nat.zero_ne_one, Nat.one_ne_zero, List.length_cons, List.length_nil, Nat.reduceAdd, Nat.reduceLeDiff, Int.cast_ofNat_Int, bm, aW, bn, aY, bh, bl, bM, bt, cD, bN, vH, Lq, KL, vK, dH, cP, Gh, h0]
theorem XF {a0 : Int} {a1 : Ty.T af} (h0 : cur a1) : JP a0 a1 = true := (KP h0).d
theorem L2 {a0 : Int} {a1 : Ty.T af} (h0 : cur a1) : cur (xe a0 a1).2 := (KP h0).v
theorem LJ {i j : Int} {b : Bool} {c : Ty.T af} {s : Ty.T y36} {q : Ty.T (.pair (.int .i64) (.int .i64))} {ps : List (Ty.T y63)} {ss : List (Ty.T cy)} (h : cur c) (h0 : 0 <= i) (h1 : i < (ss.length : Int)) : Sat (iR (i, j, b, c, s, q, ps, ss, ()) some) fun r => r.length = ss.length := by
  unfold iR
  dsimp only
  obtain ⟨x, hx, _⟩ := OX (l := ss) h0 h1
  simp (maxDischargeDepth := 99) only [false_and, and_false, av, ak, false_and, and_false, aD, aE, aF, ax, cond_true, cond_false, and_true, true_and, implies_true, and_self, ne_eq, reduceCtorEq, not_false_eq_true, true_or, or_true, false_or, or_false, Nat.zero_ne_one, Nat.one_ne_zero, List.length_cons, List.length_nil, Nat.reduceAdd, Nat.reduceLeDiff, Int.cast_ofNat_Int, bm, aW, bn, aY, bh, bl, cD, bN, h]
  exact ⟨h0, h1, x, hx, List.length_set⟩
theorem M8 {i j i2 k : Int} {b : Bool} {li : List Int} {c : Ty.T af} {s : Ty.T y36} {q : Ty.T (.pair (.int .i64) (.int .i64))} {ps : List (Ty.T y63)} {ss : List (Ty.T cy)} (h : cur c) (h0 : 0 <= i) (h1 : i < (ss.length : Int)) : Sat (iV (i, j, b, i2, li, k, c, s, q, ps, ss, ()) some) fun r => r.length = ss.length := by
  unfold iV
  dsimp only
  obtain ⟨x, hx, _⟩ := OX (l := ss) h0 h1
  simp (maxDischargeDepth := 99) only [false_and, and_false, av, ak, false_and, and_false, aD, aE, aF, ax, cond_true, cond_false, and_true, true_and, implies_true, and_self, ne_eq, reduceCtorEq, not_false_eq_true, true_or, or_true, false_or, or_false, Nat.zero_ne_one, Nat.one_ne_zero, List.length_cons, List.length_nil, Nat.reduceAdd, Nat.reduceLeDiff, Int.cast_ofNat_Int, bm, aW, bn, aY, bh, bl, cD, bN, h]
  exact ⟨h0, h1, x, hx, List.length_set⟩
theorem Ug {c : Ty.T af} {s : Ty.T y36} {q : Ty.T (.pair (.int .i64) (.int .i64))} {ps : List (Ty.T y63)} {ss : List (Ty.T cy)} (hs : ss.length = 2) (h : cur c) : Gv 0 c s q ps ss 0 = true /\ ∃ c' ss', cur c' /\ List.length ss' = 2 /\ Gb 0 c s q ps ss = ((2 : Int), c', s, q, ps, ss', ()) := by
  have := lV (s := og) (Q := fun v => ∃ c' ss', cur c' /\ List.length ss' = 2 /\ v = ((2 : Int), c', s, q, ps, ss', ())) (fun k v => ∃ (i : Int) (c : Ty.T af) (ss : List (Ty.T cy)), v = (i, c, s, q, ps, ss, ()) /\ cur c /\ ss.length = 2 /\ 0 <= i /\ i + k = 2) (fun k v hv => by
    obtain ⟨i, c, ss, rfl, h1, h2, h3, h4⟩ := hv
    unfold og nM
    dsimp only
    rw [av]
    refine ⟨fun hl => ?_, fun hl => ?_⟩
    · have hl : i < 2 := of_decide_eq_true hl
      have e : IntKind.wrap .i64 (i + 1) = i + 1 := bT (by omega) (by omega)
      have s1 := LJ (i := i) (j := i) (b := decide (i < 2)) (c := c) (s := s) (q := q) (ps := ps) (ss := ss) h1 h3 (by omega)
      have l1 : (kr (i, i, decide (i < 2), c, s, q, ps, ss, ())).length = 2 := (s1.v (z := [])).trans h2
      have s2 := M8 (i := i) (j := i) (i2 := i) (k := (ah [20, 20, 3, 1, 10] c).1) (b := decide (i < 2)) (li := [20, 20, 3, 1, 10]) (c := (ah [20, 20, 3, 1, 10] c).2) (s := s) (q := q) (ps := ps) (ss := kr (i, i, decide (i < 2), c, s, q, ps, ss, ())) (bN (by simp) h1) h3 (by omega)
      have g1 : zM (i, i, decide (i < 2), c, s, q, ps, ss, ()) = true := s1.d
      have g2 : wO (i, i, decide (i < 2), i, [20, 20, 3, 1, 10], (ah [20, 20, 3, 1, 10] c).1, (ah [20, 20, 3, 1, 10] c).2, s, q, ps, kr (i, i, decide (i < 2), c, s, q, ps, ss, ()), ()) = true := s2.d
      rw [g1, g2, cond_true, cond_true, ak]
      refine .inr ⟨rfl, k - 1, by omega, i + 1, _, _, by rw [e] <;> rfl, bN (l := [0, 0, 8, 1]) (by simp) (bN (l := [20, 20, 3, 1, 10]) (by simp) h1), (s2.v (z := [])).trans l1, by omega, by omega⟩
    · have hl : ¬ i < 2 := of_decide_eq_false hl
      have : i = 2 := by omega
      subst this
      rw [ak]
      exact .inl ⟨rfl, c, ss, h1, h2, rfl⟩) 2 ((0 : Int), c, s, q, ps, ss, ()) (mG ((0 : Int), c, s, q, ps, ss, ())) ⟨0, c, ss, rfl, h, hs, by omega, by omega⟩ (by simp only [mG]; omega)
  exact ⟨this.1.1, this.2⟩
theorem Tm {id n : Int} {c : Ty.T af} {s : Ty.T y36} {q : Ty.T (.pair (.int .i64) (.int .i64))} {ps : List (Ty.T y63)} {ss : List (Ty.T cy)} (h0 : 0 <= n) (hp : (ps.length : Int) + n <= 1000) (h : cur c) :
    EB id n c s q ps ss 0 = true /\ ∃ (id' : Int) (c' : Ty.T af) (ps' : List (Ty.T y63)), cur c' /\ (ps'.length : Int) = ps.length + n /\ GF id n c s q ps ss = (id', (0 : Int), c', s, q, ps', ss, ()) := by
  have := lV (s := nu) (Q := fun v => ∃ (id' : Int) (c' : Ty.T af) (ps' : List (Ty.T y63)), cur c' /\ (ps'.length : Int) = ps.length + n /\ v = (id', (0 : Int), c', s, q, ps', ss, ()))
    (fun k v => ∃ (id m : Int) (c : Ty.T af) (qs : List (Ty.T y63)), v = (id, m, c, s, q, qs, ss, ()) /\ cur c /\ m = k /\ (qs.length : Int) + m = ps.length + n) (fun k v hv => by
    obtain ⟨id, m, c, qs, rfl, hc, hk, hq⟩ := hv
    unfold nu m9
    dsimp only
    rw [av]
    refine ⟨fun hl => ?_, fun hl => ?_⟩
    · have hl : m > 0 := of_decide_eq_true hl
      have e : IntKind.wrap .i64 (m - 1) = m - 1 := bT (by omega) (by omega)
      have hz : ∀ p : Ty.T y63, (qs ++ [p]).length * 96 <= 140737488351232 := fun p => by simp only [List.length_append, List.length_cons, List.length_nil]; omega
      rw [bM hc, XF (bt hc), cond_true, cond_true, if_pos (hz _), ak]
      exact .inr ⟨rfl, k - 1, by omega, _, m - 1, _, _, by rw [e], L2 (bt hc), by omega, by simp only [List.length_append, List.length_cons, List.length_nil]; omega⟩
    · have hl : ¬ m > 0 := of_decide_eq_false hl
      have : m = 0 := by omega
      subst this
      rw [ak]
      exact .inl ⟨rfl, id, c, qs, hc, by omega, rfl⟩) n.toNat (id, n, c, s, q, ps, ss, ()) (nN (id, n, c, s, q, ps, ss, ())) ⟨id, n, c, ps, rfl, h, by omega, rfl⟩ (by simp only [nN]; omega)
  exact ⟨this.1.1, this.2⟩
theorem wv {a0 : Ty.T af} (h : cur a0) : Sat (mr a0 some) fun r => cur r.2.1 /\ 1 <= r.2.2.1.length /\ r.2.2.1.length <= 6 /\ r.2.2.2.length = 2 := by
  have d0 : d215 2 = true := rfl
  obtain ⟨k1, c1, ss1, hc1, hs1, w1⟩ := Ug (c := (ab 2 (ab 3 a0).2).2) (s := ([], [], 0, 0)) (q := ((ab 2 (ab 3 a0).2).1, IntKind.wrap .i64 ((2 : Int) + (ab 3 a0).1))) (ps := (CA 2).2.1) (ss := (CA 2).2.2) rfl (bt (bt h))
  have hb := (below 5 c1 hc1).2.1 (by omega)
  have e : IntKind.wrap .i64 ((1 : Int) + (ab 5 c1).1) = 1 + (ab 5 c1).1 := bT (by omega) (by omega)
  obtain ⟨k2, i2, c2, ps2, hc2, hl2, w2⟩ := Tm (id := 0) (n := 1 + (ab 5 c1).1) (c := (ab 5 c1).2) (s := ([], [], 0, 0)) (q := ((ab 2 (ab 3 a0).2).1, IntKind.wrap .i64 ((2 : Int) + (ab 3 a0).1))) (ps := (CA 2).2.1) (ss := ss1) (by omega) (by show ((([] : List (Ty.T y63)).length : Int)) + _ <= 1000; simp; omega) (bt hc1)
  have hl2 : (ps2.length : Int) = 1 + (ab 5 c1).1 := by rw [hl2]; show (0 : Int) + _ = _; omega
  unfold mr
  have e0 : dy a0 = _ := w1
  have e1 : kK a0 = (i2, (0 : Int), c2, ([], [], 0, 0), ((ab 2 (ab 3 a0).2).1, IntKind.wrap .i64 ((2 : Int) + (ab 3 a0).1)), ps2, ss1, ()) := by unfold kK; rw [e0]; dsimp only; rw [e]; exact w2
  rw [d0, bM h, bM (bt h), k1, e1, e0]
  dsimp only
  rw [e, bM hc1, k2]
  simp only [cond_true, ak]
  exact ⟨hc2, by omega, by omega, hs1⟩
theorem WI {a0 : Ty.T af} (h : cur a0) : sM a0 = true := (wv h).d
theorem MO {a0 : Ty.T af} (h : cur a0) : cur (aj a0).2.1 := (wv h).v.1
theorem LQ {k : Int} {c : Ty.T af} {s : Ty.T y36} (h : cur c) (hl : 0 < s.1.length) : Sat (jE (k, c, s, ()) some) fun _ => True := by
  have b := (below (s.1.length : Int) c h).2.1 (by omega)
  obtain ⟨x, hx, _⟩ := OX (l := s.1) b.1 b.2
  unfold jE
  simp (maxDischargeDepth := 99) only [false_and, and_false, av, ak, false_and, and_false, aD, aE, aF, ax, cond_true, cond_false, and_true, true_and, implies_true, and_self, ne_eq, reduceCtorEq, not_false_eq_true, true_or, or_true, false_or, or_false, Nat.zero_ne_one, Nat.one_ne_zero, List.length_cons, List.length_nil, Nat.reduceAdd, Nat.reduceLeDiff, Int.cast_ofNat_Int, bm, aW, bn, aY, bh, bl, bM, bt, dH, cP, h]
  exact ⟨b.1, x, hx⟩
theorem KV {a0 : Ty.T y36} {a1 : Ty.T af} (h : cur a1) : Sat (nw a0 a1 some) fun r => cur r.2 := by
  unfold nw
  rw [av]
  refine ⟨fun _ => ?_, fun h0 => ?_⟩
  · simp (maxDischargeDepth := 99) only [false_and, and_false, av, ak, false_and, and_false, aD, aE, aF, ax, cond_true, cond_false, and_true, true_and, implies_true, and_self, ne_eq, reduceCtorEq, not_false_eq_true, true_or, or_true, false_or, or_false, Nat.zero_ne_one, Nat.one_ne_zero, List.length_cons, List.length_nil, Nat.reduceAdd, Nat.reduceLeDiff, Int.cast_ofNat_Int, bm, aW, bn, aY, bh, bl, bM, bt, dH, cP, h]
  · have hp : 0 < a0.1.length := by simp at h0; exact List.length_pos_iff.2 h0
    have g : xu (0, (az 8 a1).2, a0, ()) = true := (LQ (cP h) hp).d
    simp (maxDischargeDepth := 99) only [false_and, and_false, av, ak, false_and, and_false, aD, aE, aF, ax, cond_true, cond_false, and_true, true_and, implies_true, and_self, ne_eq, reduceCtorEq, not_false_eq_true, true_or, or_true, false_or, or_false, Nat.zero_ne_one, Nat.one_ne_zero, List.length_cons, List.length_nil, Nat.reduceAdd, Nat.reduceLeDiff, Int.cast_ofNat_Int, bm, aW, bn, aY, bh, bl, bM, bt, dH, cP, h, g]
theorem vj {a0 : Ty.T y36} {a1 : Ty.T af} (h : cur a1) : iH a0 a1 = true := (KV h).d
theorem gX {a0 : Ty.T y36} {a1 : Ty.T af} (h : cur a1) : cur (bQ a0 a1).2 := (KV h).v
theorem vy {a1 : Ty.T af} (h0 : cur a1) : cur (ba a1).2 := by
  unfold ba
  simp (maxDischargeDepth := 99) only [false_and, and_false, av, ak, false_and, and_false, aD, aE, aF, ax, cond_true, cond_false, and_true, true_and, implies_true, and_self, ne_eq, reduceCtorEq, not_false_eq_true, true_or, or_true, false_or, or_false, Nat.zero_ne_one, Nat.one_ne_zero, List.length_cons, List.length_nil, Nat.reduceAdd, Nat.reduceLeDiff, Int.cast_ofNat_Int, cD, bN, h0]
theorem Ez {a0 : Ty.T y36} {a1 : Ty.T af} (h0 : cur a1) : cur (kB a0 a1).2 := by
  unfold kB
  simp (maxDischargeDepth := 99) only [false_and, and_false, av, ak, false_and, and_false, aD, aE, aF, ax, cond_true, cond_false, and_true, true_and, implies_true, and_self, ne_eq, reduceCtorEq, not_false_eq_true, true_or, or_true, false_or, or_false, Nat.zero_ne_one, Nat.one_ne_zero, List.length_cons, List.length_nil, Nat.reduceAdd, Nat.reduceLeDiff, Int.cast_ofNat_Int, cD, bN, vj, gX, vy, h0]
theorem Lw {a0 : Ty.T y36} {a1 : Ty.T af} (h0 : cur a1) : Sat (oe a0 a1 some) (fun r => cur r.2) := by
  unfold oe
  simp (maxDischargeDepth := 99) only [false_and, and_false, av, ak, false_and, and_false, aD, aE, aF, ax, cond_true, cond_false, and_true, true_and, implies_true, and_self, ne_eq, reduceCtorEq, not_false_eq_true, true_or, or_true, false_or, or_false, Nat.zero_ne_one, Nat.one_ne_zero, List.length_cons, List.length_nil, Nat.reduceAdd, Nat.reduceLeDiff, Int.cast_ofNat_Int, bm, aW, bn, aY, bh, bl, cD, bN, vj, gX, vy, dH, cP, bM, bt, Ez, h0]
theorem qF {a0 : Ty.T y36} {a1 : Ty.T af} (h0 : cur a1) : lu a0 a1 = true := (Lw h0).d
theorem fK {a0 : Ty.T y36} {a1 : Ty.T af} (h0 : cur a1) : cur (al a0 a1).2 := (Lw h0).v
theorem BX {v : dg} (h0 : cur v.2.1) : Sat (jq v some) (fun r => cur r.1) := by
  unfold jq
  simp (maxDischargeDepth := 99) only [false_and, and_false, av, ak, false_and, and_false, aD, aE, aF, ax, cond_true, cond_false, and_true, true_and, implies_true, and_self, ne_eq, reduceCtorEq, not_false_eq_true, true_or, or_true, false_or, or_false, Nat.zero_ne_one, Nat.one_ne_zero, List.length_cons, List.length_nil, Nat.reduceAdd, Nat.reduceLeDiff, Int.cast_ofNat_Int, bm, aW, bn, aY, bh, bl, cD, bN, h0]
theorem HL {v : dg} (h0 : cur v.2.1) : xZ v = true := (BX h0).d
theorem vL {v : dg} (h0 : cur v.2.1) : cur (z0 v).1 := (BX h0).v
theorem BS {v : gz} (h0 : cur v.2.2.1) : Sat (fW v some) (fun r => cur r.1) := by
  unfold fW
  simp (maxDischargeDepth := 99) only [false_and, and_false, av, ak, false_and, and_false, aD, aE, aF, ax, cond_true, cond_false, and_true, true_and, implies_true, and_self, ne_eq, reduceCtorEq, not_false_eq_true, true_or, or_true, false_or, or_false, Nat.zero_ne_one, Nat.one_ne_zero, List.length_cons, List.length_nil, Nat.reduceAdd, Nat.reduceLeDiff, Int.cast_ofNat_Int, bm, aW, bn, aY, bh, bl, dH, cP, vj, gX, cD, bN, h0]
theorem Gl {v : gz} (h0 : cur v.2.2.1) : xV v = true := (BS h0).d
theorem vJ {v : gz} (h0 : cur v.2.2.1) : cur (zk v).1 := (BS h0).v
theorem Bi {v : fX} (h0 : cur v.1) : Sat (iu v some) (fun r => cur r.2) := by
  unfold iu
  simp (maxDischargeDepth := 99) only [false_and, and_false, av, ak, false_and, and_false, aD, aE, aF, ax, cond_true, cond_false, and_true, true_and, implies_true, and_self, ne_eq, reduceCtorEq, not_false_eq_true, true_or, or_true, false_or, or_false, Nat.zero_ne_one, Nat.one_ne_zero, List.length_cons, List.length_nil, Nat.reduceAdd, Nat.reduceLeDiff, Int.cast_ofNat_Int, bm, aW, bn, aY, bh, bl, dH, cP, h0]
theorem EW {v : fX} (h0 : cur v.1) : zW v = true := (Bi h0).d
theorem vv {v : fX} (h0 : cur v.1) : cur (xw v).2 := (Bi h0).v
theorem AL {v : dg} (h0 : cur v.2.1) : Sat (jF v some) (fun r => cur r.2) := by
  unfold jF
  simp (maxDischargeDepth := 99) only [false_and, and_false, av, ak, false_and, and_false, aD, aE, aF, ax, cond_true, cond_false, and_true, true_and, implies_true, and_self, ne_eq, reduceCtorEq, not_false_eq_true, true_or, or_true, false_or, or_false, Nat.zero_ne_one, Nat.one_ne_zero, List.length_cons, List.length_nil, Nat.reduceAdd, Nat.reduceLeDiff, Int.cast_ofNat_Int, bm, aW, bn, aY, bh, bl, vj, gX, h0]
theorem HB {v : dg} (h0 : cur v.2.1) : ym v = true := (AL h0).d
theorem vx {v : dg} (h0 : cur v.2.1) : cur (yZ v).2 := (AL h0).v
theorem vQ {a1 : Ty.T af} (h0 : cur a1) : cur (e5 a1).2 := by
  unfold e5
  simp (maxDischargeDepth := 99) only [false_and, and_false, av, ak, false_and, and_false, aD, aE, aF, ax, cond_true, cond_false, and_true, true_and, implies_true, and_self, ne_eq, reduceCtorEq, not_false_eq_true, true_or, or_true, false_or, or_false, Nat.zero_ne_one, Nat.one_ne_zero, List.length_cons, List.length_nil, Nat.reduceAdd, Nat.reduceLeDiff, Int.cast_ofNat_Int, cD, bN, h0]
theorem vw {a0 : Ty.T y36} {a1 : Ty.T af} (h0 : cur a1) : cur (ev a0 a1).1 := by
  unfold ev
  simp (maxDischargeDepth := 99) only [false_and, and_false, av, ak, false_and, and_false, aD, aE, aF, ax, cond_true, cond_false, and_true, true_and, implies_true, and_self, ne_eq, reduceCtorEq, not_false_eq_true, true_or, or_true, false_or, or_false, Nat.zero_ne_one, Nat.one_ne_zero, List.length_cons, List.length_nil, Nat.reduceAdd, Nat.reduceLeDiff, Int.cast_ofNat_Int, HL, vL, dH, cP, vQ, cD, bN, h0]
theorem mT {a0 : Ty.T y36} {a1 : Ty.T af} (h0 : cur a1) : cur (ga a0 a1).1 := by
  unfold ga
  simp (maxDischargeDepth := 99) only [false_and, and_false, av, ak, false_and, and_false, aD, aE, aF, ax, cond_true, cond_false, and_true, true_and, implies_true, and_self, ne_eq, reduceCtorEq, not_false_eq_true, true_or, or_true, false_or, or_false, Nat.zero_ne_one, Nat.one_ne_zero, List.length_cons, List.length_nil, Nat.reduceAdd, Nat.reduceLeDiff, Int.cast_ofNat_Int, Gl, vJ, vw, h0]
theorem vu {a0 : Ty.T y36} {a1 : Ty.T af} (h0 : cur a1) : cur (kD a0 a1).2 := by
  unfold kD
  simp (maxDischargeDepth := 99) only [false_and, and_false, av, ak, false_and, and_false, aD, aE, aF, ax, cond_true, cond_false, and_true, true_and, implies_true, and_self, ne_eq, reduceCtorEq, not_false_eq_true, true_or, or_true, false_or, or_false, Nat.zero_ne_one, Nat.one_ne_zero, List.length_cons, List.length_nil, Nat.reduceAdd, Nat.reduceLeDiff, Int.cast_ofNat_Int, EW, vv, mT, h0]
theorem EN {a0 : Ty.T y36} {a1 : Ty.T af} (h0 : cur a1) : cur (q6 a0 a1).2 := by
  unfold q6
  simp (maxDischargeDepth := 99) only [false_and, and_false, av, ak, false_and, and_false, aD, aE, aF, ax, cond_true, cond_false, and_true, true_and, implies_true, and_self, ne_eq, reduceCtorEq, not_false_eq_true, true_or, or_true, false_or, or_false, Nat.zero_ne_one, Nat.one_ne_zero, List.length_cons, List.length_nil, Nat.reduceAdd, Nat.reduceLeDiff, Int.cast_ofNat_Int, HB, vx, vu, mT, h0]
theorem KN {a0 : Ty.T y36} {a1 : Ty.T af} (h0 : cur a1) : Sat (nG a0 a1 some) (fun r => cur r.2) := by
  unfold nG
  simp (maxDischargeDepth := 99) only [false_and, and_false, av, ak, false_and, and_false, aD, aE, aF, ax, cond_true, cond_false, and_true, true_and, implies_true, and_self, ne_eq, reduceCtorEq, not_false_eq_true, true_or, or_true, false_or, or_false, Nat.zero_ne_one, Nat.one_ne_zero, List.length_cons, List.length_nil, Nat.reduceAdd, Nat.reduceLeDiff, Int.cast_ofNat_Int, bm, aW, bn, aY, bh, bl, cD, bN, dH, cP, vQ, HL, vL, Gl, vJ, vw, EW, vv, mT, HB, vx, vu, EN, h0]
theorem qc {a0 : Ty.T y36} {a1 : Ty.T af} (h0 : cur a1) : Df a0 a1 = true := (KN h0).d
theorem fS {a0 : Ty.T y36} {a1 : Ty.T af} (h0 : cur a1) : cur (aO a0 a1).2 := (KN h0).v
theorem Lu {a0 : Ty.T af} (h0 : cur a0) : Sat (nk a0 some) (fun r => cur r.2) := by
  unfold nk
  simp (maxDischargeDepth := 99) only [false_and, and_false, av, ak, false_and, and_false, aD, aE, aF, ax, cond_true, cond_false, and_true, true_and, implies_true, and_self, ne_eq, reduceCtorEq, not_false_eq_true, true_or, or_true, false_or, or_false, Nat.zero_ne_one, Nat.one_ne_zero, List.length_cons, List.length_nil, Nat.reduceAdd, Nat.reduceLeDiff, Int.cast_ofNat_Int, bm, aW, bn, aY, bh, bl, dH, cP, bM, bt, cD, bN, h0]
theorem qy {a0 : Ty.T af} (h0 : cur a0) : B0 a0 = true := (Lu h0).d
theorem fQ {a0 : Ty.T af} (h0 : cur a0) : cur (cF a0).2 := (Lu h0).v
theorem Lk {a0 : Ty.T af} (h0 : cur a0) : Sat (pM a0 some) (fun r => cur r.2) := by
  unfold pM
  simp (maxDischargeDepth := 99) only [false_and, and_false, av, ak, false_and, and_false, aD, aE, aF, ax, cond_true, cond_false, and_true, true_and, implies_true, and_self, ne_eq, reduceCtorEq, not_false_eq_true, true_or, or_true, false_or, or_false, Nat.zero_ne_one, Nat.one_ne_zero, List.length_cons, List.length_nil, Nat.reduceAdd, Nat.reduceLeDiff, Int.cast_ofNat_Int, bm, aW, bn, aY, bh, bl, cD, bN, h0]
theorem W4 {a0 : Ty.T af} (h0 : cur a0) : Iu a0 = true := (Lk h0).d
theorem Mr {a0 : Ty.T af} (h0 : cur a0) : cur (DX a0).2 := (Lk h0).v
theorem KJ {a0 : Ty.T af} (h0 : cur a0) : Sat (pY a0 some) (fun r => cur r.2) := by
  unfold pY
  simp (maxDischargeDepth := 99) only [false_and, and_false, av, ak, false_and, and_false, aD, aE, aF, ax, cond_true, cond_false, and_true, true_and, implies_true, and_self, ne_eq, reduceCtorEq, not_false_eq_true, true_or, or_true, false_or, or_false, Nat.zero_ne_one, Nat.one_ne_zero, List.length_cons, List.length_nil, Nat.reduceAdd, Nat.reduceLeDiff, Int.cast_ofNat_Int, bm, aW, bn, aY, bh, bl, dH, cP, W4, Mr, cD, bN, h0]
theorem C6 {a0 : Ty.T af} (h0 : cur a0) : uA a0 = true := (KJ h0).d
theorem oF {a0 : Ty.T af} (h0 : cur a0) : cur (kc a0).2 := (KJ h0).v
theorem K2 {a0 : Ty.T y36} {a1 : Ty.T af} (h0 : cur a1) : Sat (mP a0 a1 some) (fun r => cur r.2) := by
  unfold mP
  simp (maxDischargeDepth := 99) only [false_and, and_false, av, ak, false_and, and_false, aD, aE, aF, ax, cond_true, cond_false, and_true, true_and, implies_true, and_self, ne_eq, reduceCtorEq, not_false_eq_true, true_or, or_true, false_or, or_false, Nat.zero_ne_one, Nat.one_ne_zero, List.length_cons, List.length_nil, Nat.reduceAdd, Nat.reduceLeDiff, Int.cast_ofNat_Int, bm, aW, bn, aY, bh, bl, qc, fS, bM, bt, cD, bN, C6, oF, h0]
theorem XN {a0 : Ty.T y36} {a1 : Ty.T af} (h0 : cur a1) : H4 a0 a1 = true := (K2 h0).d
theorem LR {a0 : Ty.T y36} {a1 : Ty.T af} (h0 : cur a1) : cur (DI a0 a1).2 := (K2 h0).v
theorem KF {a0 : Ty.T af} (h0 : cur a0) : Sat (m8 a0 some) (fun r => cur r.2) := by
  unfold m8
  simp (maxDischargeDepth := 99) only [false_and, and_false, av, ak, false_and, and_false, aD, aE, aF, ax, cond_true, cond_false, and_true, true_and, implies_true, and_self, ne_eq, reduceCtorEq, not_false_eq_true, true_or, or_true, false_or, or_false, Nat.zero_ne_one, Nat.one_ne_zero, List.length_cons, List.length_nil, Nat.reduceAdd, Nat.reduceLeDiff, Int.cast_ofNat_Int, bm, aW, bn, aY, bh, bl, qy, fQ, bM, bt, cD, bN, C6, oF, h0]
theorem Wu {a0 : Ty.T af} (h0 : cur a0) : Ja a0 = true := (KF h0).d
theorem L1 {a0 : Ty.T af} (h0 : cur a0) : cur (Cy a0).2 := (KF h0).v
theorem Kz {a0 : Ty.T y36} {a1 : Ty.T af} (h0 : cur a1) : Sat (n7 a0 a1 some) (fun r => cur r.2) := by
  unfold n7
  simp (maxDischargeDepth := 99) only [false_and, and_false, av, ak, false_and, and_false, aD, aE, aF, ax, cond_true, cond_false, and_true, true_and, implies_true, and_self, ne_eq, reduceCtorEq, not_false_eq_true, true_or, or_true, false_or, or_false, Nat.zero_ne_one, Nat.one_ne_zero, List.length_cons, List.length_nil, Nat.reduceAdd, Nat.reduceLeDiff, Int.cast_ofNat_Int, bm, aW, bn, aY, bh, bl, qF, fK, bM, bt, cD, bN, C6, oF, h0]
theorem NM {a0 : Ty.T y36} {a1 : Ty.T af} (h0 : cur a1) : Kk a0 a1 = true := (Kz h0).d
theorem As {a0 : Ty.T y36} {a1 : Ty.T af} (h0 : cur a1) : cur (qT a0 a1).2 := (Kz h0).v
theorem CW {n : Int} {c : Ty.T af} {s : Ty.T y36} {y : Ty.T bp} {q : Ty.T q0} {l : List (Ty.T y27)} (h : cur c) : zA n 0 c s y q l 0 = true /\ cur (ns n 0 c s y q l).2.2.1 /\ (ns n 0 c s y q l).2.2.2.2.2.2.1 = l := by
  have := lV (s := oy) (Q := fun v => cur v.2.2.1 /\ v.2.2.2.2.2.2.1 = l) (fun k v => ∃ (i : Int) (c : Ty.T af) (q : Ty.T q0), v = (n, i, c, s, y, q, l, ()) /\ cur c /\ 0 <= i /\ i + k = 6) (fun k v hv => by
    obtain ⟨i, c, q, rfl, h1, h3, h4⟩ := hv
    unfold oy nK
    dsimp only
    have e : IntKind.wrap .i64 (i + 1) = i + 1 := bT (by omega) (by omega)
    rw [av, bM h1, cond_true, ak, ak]
    refine ⟨fun hl => ?_, fun _ => .inl ⟨rfl, h1, rfl⟩⟩
    have hi : i < 6 := by
      by_cases hi : i < 6
      · exact hi
      · unfold xN oq at hl
        dsimp only at hl
        rw [show decide (i < (6 : Int)) = false from decide_eq_false hi] at hl
        cases hl
    exact .inr ⟨rfl, k - 1, by omega, i + 1, _, _, by rw [e] <;> rfl, bt h1, by omega, by omega⟩) 6 (n, 0, c, s, y, q, l, ()) (nt (n, 0, c, s, y, q, l, ())) ⟨0, c, q, rfl, h, by omega, by omega⟩ (by simp only [nt]; omega)
  exact ⟨this.1.1, this.2⟩
theorem Dm {n : Int} {c : Ty.T af} {s : Ty.T y36} {y : Ty.T bp} {q : Ty.T q0} {l : List (Ty.T y27)} (h : cur c) : zA n 0 c s y q l 0 = true := (CW h).1
theorem CO {n : Int} {c : Ty.T af} {s : Ty.T y36} {y : Ty.T bp} {q : Ty.T q0} {l : List (Ty.T y27)} (h : cur c) : cur (ns n 0 c s y q l).2.2.1 := (CW h).2.1
theorem we {n : Int} {c : Ty.T af} {s : Ty.T y36} {y : Ty.T bp} {q : Ty.T q0} {l : List (Ty.T y27)} (h : cur c) : (ns n 0 c s y q l).2.2.2.2.2.2.1 = l := (CW h).2.2
theorem A7 {v : dP} (h0 : cur v.2.1) : Sat (jk v some) (fun r => cur r.2) := by
  unfold jk
  simp (maxDischargeDepth := 99) only [false_and, and_false, av, ak, false_and, and_false, aD, aE, aF, ax, cond_true, cond_false, and_true, true_and, implies_true, and_self, ne_eq, reduceCtorEq, not_false_eq_true, true_or, or_true, false_or, or_false, Nat.zero_ne_one, Nat.one_ne_zero, List.length_cons, List.length_nil, Nat.reduceAdd, Nat.reduceLeDiff, Int.cast_ofNat_Int, bm, aW, bn, aY, bh, bl, bM, bt, vj, gX, h0]
theorem HP {v : dP} (h0 : cur v.2.1) : yw v = true := (A7 h0).d
theorem vR {v : dP} (h0 : cur v.2.1) : cur (zV v).2 := (A7 h0).v
theorem Bh {v : gv} (h0 : cur v.2.2.2.2.2.1) : Sat (ir v some) (fun r => cur r.2.2) := by
  unfold ir
  simp (maxDischargeDepth := 99) only [false_and, and_false, av, ak, false_and, and_false, aD, aE, aF, ax, cond_true, cond_false, and_true, true_and, implies_true, and_self, ne_eq, reduceCtorEq, not_false_eq_true, true_or, or_true, false_or, or_false, Nat.zero_ne_one, Nat.one_ne_zero, List.length_cons, List.length_nil, Nat.reduceAdd, Nat.reduceLeDiff, Int.cast_ofNat_Int, bm, aW, bn, aY, bh, bl, dH, cP, h0]
theorem G6 {v : gv} (h0 : cur v.2.2.2.2.2.1) : zz v = true := (Bh h0).d
theorem vG {v : gv} (h0 : cur v.2.2.2.2.2.1) : cur (fv v).2.2 := (Bh h0).v
theorem DP {n : Int} {c : Ty.T af} {s : Ty.T y36} {y : Ty.T bp} {q : Ty.T q0} {l : List (Ty.T y27)} (h0 : 0 <= n) (hn : n <= 2) (hl : l = []) (h : cur c) : zO n c s y q l 0 = true /\ cur (mA n c s y q l).2.1 /\ List.length (mA n c s y q l).2.2.2.2.2.1 <= 2 := by
  have := lV (s := mY) (Q := fun v => cur v.2.1 /\ List.length v.2.2.2.2.2.1 <= 2) (fun k v => ∃ (i : Int) (c : Ty.T af) (l : List (Ty.T y27)), v = (i, c, s, y, q, l, ()) /\ cur c /\ i = k /\ (l.length : Int) + i <= 2) (fun k v hv => by
    obtain ⟨i, c, l, rfl, h1, h3, h4⟩ := hv
    have e : 0 <= i -> IntKind.wrap .i64 (i - 1) = i - 1 := fun _ => bT (by omega) (by omega)
    have hz : ∀ x, (l ++ [x]).length * 56 <= 140737488351232 := fun x => by simp only [List.length_append, List.length_cons, List.length_nil]; omega
    unfold mY mU
    dsimp only
    simp (maxDischargeDepth := 99) only [false_and, and_false, av, ak, false_and, and_false, aD, aE, aF, ax, cond_true, cond_false, and_true, true_and, implies_true, and_self, ne_eq, reduceCtorEq, not_false_eq_true, true_or, or_true, false_or, or_false, Nat.zero_ne_one, Nat.one_ne_zero, List.length_cons, List.length_nil, Nat.reduceAdd, Nat.reduceLeDiff, Int.cast_ofNat_Int, bm, aW, bn, aY, bh, bl, qF, fK, G6, vG, h1, hz, if_true]
    refine ⟨fun hl => ?_, fun _ => by omega⟩
    have hl : i > 0 := of_decide_eq_true hl
    refine ⟨k - 1, by omega, i - 1, _, _, by rw [e (by omega)] <;> rfl, ?_, by omega, by simp only [List.length_append, List.length_cons, List.length_nil]; omega⟩
    simp (maxDischargeDepth := 99) only [false_and, and_false, av, ak, false_and, and_false, aD, aE, aF, ax, cond_true, cond_false, and_true, true_and, implies_true, and_self, ne_eq, reduceCtorEq, not_false_eq_true, true_or, or_true, false_or, or_false, Nat.zero_ne_one, Nat.one_ne_zero, List.length_cons, List.length_nil, Nat.reduceAdd, Nat.reduceLeDiff, Int.cast_ofNat_Int, bm, aW, bn, aY, bh, bl, qF, fK, G6, vG, h1]) n.toNat (n, c, s, y, q, l, ()) (nC (n, c, s, y, q, l, ())) ⟨n, c, l, rfl, h, by omega, by subst hl; show (0 : Int) + n <= 2; omega⟩ (by simp only [nC]; omega)
  exact ⟨this.1.1, this.2⟩
theorem wbA {c : Ty.T af} (h : cur c) : 0 <= IntKind.wrap .i64 ((1 : Int) + (ab 2 c).1) := by
  have := (below 2 c h).2.1 (by omega)
  rw [bT (by omega) (by omega)]
  omega
theorem wbB {c : Ty.T af} (h : cur c) : IntKind.wrap .i64 ((1 : Int) + (ab 2 c).1) <= 2 := by
  have := (below 2 c h).2.1 (by omega)
  rw [bT (by omega) (by omega)]
  omega
theorem CK {n : Int} {c : Ty.T af} {s : Ty.T y36} {y : Ty.T bp} {q : Ty.T q0} {l : List (Ty.T y27)} (h0 : 0 <= n) (hn : n <= 2) (hl : l = []) (h : cur c) : zO n c s y q l 0 = true := (DP h0 hn hl h).1
theorem CB {n : Int} {c : Ty.T af} {s : Ty.T y36} {y : Ty.T bp} {q : Ty.T q0} {l : List (Ty.T y27)} (h0 : 0 <= n) (hn : n <= 2) (hl : l = []) (h : cur c) : cur (mA n c s y q l).2.1 := (DP h0 hn hl h).2.1
theorem Cb {n : Int} {c : Ty.T af} {s : Ty.T y36} {y : Ty.T bp} {q : Ty.T q0} {l : List (Ty.T y27)} (h0 : 0 <= n) (hn : n <= 2) (hl : l = []) (h : cur c) : Ty.few 2 (.sl 41 y27) (mA n c s y q l).2.2.2.2.2.1 := Ue rfl (Nat.le_trans (DP h0 hn hl h).2.2 (by decide))
theorem jO {a0 : Ty.T y36} {a1 : Int} {a2 : Ty.T af} (h0 : cur a2) : cur (aK a0 a1 a2).2.2.1 := by
  unfold aK
  simp (maxDischargeDepth := 99) only [false_and, and_false, av, ak, false_and, and_false, aD, aE, aF, ax, cond_true, cond_false, and_true, true_and, implies_true, and_self, ne_eq, reduceCtorEq, not_false_eq_true, true_or, or_true, false_or, or_false, Nat.zero_ne_one, Nat.one_ne_zero, List.length_cons, List.length_nil, Nat.reduceAdd, Nat.reduceLeDiff, Int.cast_ofNat_Int, Dm, CO, we, cD, bN, h0]
theorem jR {a0 : Ty.T y36} {a1 : Int} {a2 : Ty.T af} (h0 : cur a2) : (aK a0 a1 a2).2.2.2.2.2.2.1 = [] := by
  unfold aK
  exact we (by simp (maxDischargeDepth := 99) only [false_and, and_false, av, ak, false_and, and_false, aD, aE, aF, ax, cond_true, cond_false, and_true, true_and, implies_true, and_self, ne_eq, reduceCtorEq, not_false_eq_true, true_or, or_true, false_or, or_false, Nat.zero_ne_one, Nat.one_ne_zero, List.length_cons, List.length_nil, Nat.reduceAdd, Nat.reduceLeDiff, Int.cast_ofNat_Int, Dm, CO, we, cD, bN, h0])
theorem Hy {a0 : Ty.T y36} {a1 : Int} {a2 : Ty.T af} (h0 : cur a2) : cur (sK a0 a1 a2).2 := by
  unfold sK
  simp (maxDischargeDepth := 99) only [false_and, and_false, av, ak, false_and, and_false, aD, aE, aF, ax, cond_true, cond_false, and_true, true_and, implies_true, and_self, ne_eq, reduceCtorEq, not_false_eq_true, true_or, or_true, false_or, or_false, Nat.zero_ne_one, Nat.one_ne_zero, List.length_cons, List.length_nil, Nat.reduceAdd, Nat.reduceLeDiff, Int.cast_ofNat_Int, HP, vR, dH, cP, jO, jR, h0]
theorem EG {a0 : Ty.T y36} {a1 : Int} {a2 : Ty.T af} (h0 : cur a2) : cur (jv a0 a1 a2).2.1 := by
  unfold jv
  simp (maxDischargeDepth := 99) only [false_and, and_false, av, ak, false_and, and_false, aD, aE, aF, ax, cond_true, cond_false, and_true, true_and, implies_true, and_self, ne_eq, reduceCtorEq, not_false_eq_true, true_or, or_true, false_or, or_false, Nat.zero_ne_one, Nat.one_ne_zero, List.length_cons, List.length_nil, Nat.reduceAdd, Nat.reduceLeDiff, Int.cast_ofNat_Int, CK, CB, Cb, wbA, wbB, bM, bt, jO, jR, h0]
theorem GQ {a0 : Ty.T y36} {a1 : Int} {a2 : Ty.T af} (h0 : cur a2) : Ty.few 2 (.sl 41 y27) (jv a0 a1 a2).2.2.2.2.2.1 := by
  unfold jv
  simp (maxDischargeDepth := 99) only [false_and, and_false, av, ak, false_and, and_false, aD, aE, aF, ax, cond_true, cond_false, and_true, true_and, implies_true, and_self, ne_eq, reduceCtorEq, not_false_eq_true, true_or, or_true, false_or, or_false, Nat.zero_ne_one, Nat.one_ne_zero, List.length_cons, List.length_nil, Nat.reduceAdd, Nat.reduceLeDiff, Int.cast_ofNat_Int, CK, CB, Cb, wbA, wbB, bM, bt, jO, jR, h0]
theorem Cv {a0 : Ty.T y36} {a1 : Int} {a2 : Ty.T af} (h0 : cur a2) : Sat (mm a0 a1 a2 some) (fun r => cur r.2.1 /\ Ty.few 2 (.sl 41 y27) r.2.2) := by
  unfold mm
  simp (maxDischargeDepth := 99) only [false_and, and_false, av, ak, false_and, and_false, aD, aE, aF, ax, cond_true, cond_false, and_true, true_and, implies_true, and_self, ne_eq, reduceCtorEq, not_false_eq_true, true_or, or_true, false_or, or_false, Nat.zero_ne_one, Nat.one_ne_zero, List.length_cons, List.length_nil, Nat.reduceAdd, Nat.reduceLeDiff, Int.cast_ofNat_Int, bm, aW, bn, aY, bh, bl, cD, bN, Dm, CO, we, jO, jR, dH, cP, HP, vR, Hy, bM, bt, CK, CB, Cb, wbA, wbB, EG, GQ, h0]
theorem ug {a0 : Ty.T y36} {a1 : Int} {a2 : Ty.T af} (h0 : cur a2) : Cf a0 a1 a2 = true := (Cv h0).d
theorem hO {a0 : Ty.T y36} {a1 : Int} {a2 : Ty.T af} (h0 : cur a2) : cur (cI a0 a1 a2).2.1 := (Cv h0).v.1
theorem fI {a0 : Ty.T y36} {a1 : Int} {a2 : Ty.T af} (h0 : cur a2) : Ty.few 2 (.sl 41 y27) (cI a0 a1 a2).2.2 := (Cv h0).v.2
theorem eM {a0 : Ty.T y36} {a1 : Int} {a2 : Ty.T af} (h0 : cur a2) : Ty.few 8 (.sl 41 y27) (cI a0 a1 a2).2.2 := ff (by decide) _ _ (fI h0)
theorem Az {v : gu} (h0 : cur v.1) : Sat (iG v some) (fun r => cur r.2) := by
  unfold iG
  simp (maxDischargeDepth := 99) only [false_and, and_false, av, ak, false_and, and_false, aD, aE, aF, ax, cond_true, cond_false, and_true, true_and, implies_true, and_self, ne_eq, reduceCtorEq, not_false_eq_true, true_or, or_true, false_or, or_false, Nat.zero_ne_one, Nat.one_ne_zero, List.length_cons, List.length_nil, Nat.reduceAdd, Nat.reduceLeDiff, Int.cast_ofNat_Int, bm, aW, bn, aY, bh, bl, dH, cP, h0]
theorem GC {v : gu} (h0 : cur v.1) : yR v = true := (Az h0).d
theorem vV {v : gu} (h0 : cur v.1) : cur (xg v).2 := (Az h0).v
theorem AO {v : dh} (h0 : cur v.2.1) : Sat (jx v some) (fun r => cur r.1) := by
  unfold jx
  simp (maxDischargeDepth := 99) only [false_and, and_false, av, ak, false_and, and_false, aD, aE, aF, ax, cond_true, cond_false, and_true, true_and, implies_true, and_self, ne_eq, reduceCtorEq, not_false_eq_true, true_or, or_true, false_or, or_false, Nat.zero_ne_one, Nat.one_ne_zero, List.length_cons, List.length_nil, Nat.reduceAdd, Nat.reduceLeDiff, Int.cast_ofNat_Int, bm, aW, bn, aY, bh, bl, vj, gX, h0]
theorem F0 {v : dh} (h0 : cur v.2.1) : wM v = true := (AO h0).d
theorem vT {v : dh} (h0 : cur v.2.1) : cur (wL v).1 := (AO h0).v
theorem MZ {v : jD} (h0 : cur v.1) : Sat (jy v some) (fun _ => True) := by
  unfold jy
  simp (maxDischargeDepth := 99) only [false_and, and_false, av, ak, false_and, and_false, aD, aE, aF, ax, cond_true, cond_false, and_true, true_and, implies_true, and_self, ne_eq, reduceCtorEq, not_false_eq_true, true_or, or_true, false_or, or_false, Nat.zero_ne_one, Nat.one_ne_zero, List.length_cons, List.length_nil, Nat.reduceAdd, Nat.reduceLeDiff, Int.cast_ofNat_Int, bm, aW, bn, aY, bh, bl, bM, bt, h0]
theorem Sl {v : jD} (h0 : cur v.1) : xz v = true := (MZ h0).d
theorem AB {v : dh} (h0 : cur v.2.1) : Sat (iO v some) (fun r => cur r.1) := by
  unfold iO
  simp (maxDischargeDepth := 99) only [false_and, and_false, av, ak, false_and, and_false, aD, aE, aF, ax, cond_true, cond_false, and_true, true_and, implies_true, and_self, ne_eq, reduceCtorEq, not_false_eq_true, true_or, or_true, false_or, or_false, Nat.zero_ne_one, Nat.one_ne_zero, List.length_cons, List.length_nil, Nat.reduceAdd, Nat.reduceLeDiff, Int.cast_ofNat_Int, bm, aW, bn, aY, bh, bl, Sl, bM, bt, h0]
theorem F8 {v : dh} (h0 : cur v.2.1) : yB v = true := (AB h0).d
theorem vP {v : dh} (h0 : cur v.2.1) : cur (zl v).1 := (AB h0).v
theorem AA {v : gq} (h0 : cur v.2.1) : Sat (jd v some) (fun r => cur r.2) := by
  unfold jd
  simp (maxDischargeDepth := 99) only [false_and, and_false, av, ak, false_and, and_false, aD, aE, aF, ax, cond_true, cond_false, and_true, true_and, implies_true, and_self, ne_eq, reduceCtorEq, not_false_eq_true, true_or, or_true, false_or, or_false, Nat.zero_ne_one, Nat.one_ne_zero, List.length_cons, List.length_nil, Nat.reduceAdd, Nat.reduceLeDiff, Int.cast_ofNat_Int, bm, aW, bn, aY, bh, bl, cD, bN, dH, cP, bM, bt, h0]
theorem HN {v : gq} (h0 : cur v.2.1) : yf v = true := (AA h0).d
theorem vB {v : gq} (h0 : cur v.2.1) : cur (zF v).2 := (AA h0).v
theorem vO {a0 : Ty.T y36} {a1 : Int} {a2 : Ty.T af} (h0 : cur a2) : cur (kL a0 a1 a2).2 := by
  unfold kL
  simp (maxDischargeDepth := 99) only [false_and, and_false, av, ak, false_and, and_false, aD, aE, aF, ax, cond_true, cond_false, and_true, true_and, implies_true, and_self, ne_eq, reduceCtorEq, not_false_eq_true, true_or, or_true, false_or, or_false, Nat.zero_ne_one, Nat.one_ne_zero, List.length_cons, List.length_nil, Nat.reduceAdd, Nat.reduceLeDiff, Int.cast_ofNat_Int, GC, vV, cD, bN, bM, bt, h0]
theorem eL {a0 : Ty.T y36} {a1 : Int} {a2 : Ty.T af} (h0 : cur a2) : cur (aQ a0 a1 a2).1 := by
  unfold aQ
  simp (maxDischargeDepth := 99) only [false_and, and_false, av, ak, false_and, and_false, aD, aE, aF, ax, cond_true, cond_false, and_true, true_and, implies_true, and_self, ne_eq, reduceCtorEq, not_false_eq_true, true_or, or_true, false_or, or_false, Nat.zero_ne_one, Nat.one_ne_zero, List.length_cons, List.length_nil, Nat.reduceAdd, Nat.reduceLeDiff, Int.cast_ofNat_Int, F0, vT, vO, bM, bt, cD, bN, h0]
theorem mQ {a0 : Ty.T y36} {a1 : Int} {a2 : Ty.T af} (h0 : cur a2) : cur (ca a0 a1 a2).2.1 := by
  unfold ca
  simp (maxDischargeDepth := 99) only [false_and, and_false, av, ak, false_and, and_false, aD, aE, aF, ax, cond_true, cond_false, and_true, true_and, implies_true, and_self, ne_eq, reduceCtorEq, not_false_eq_true, true_or, or_true, false_or, or_false, Nat.zero_ne_one, Nat.one_ne_zero, List.length_cons, List.length_nil, Nat.reduceAdd, Nat.reduceLeDiff, Int.cast_ofNat_Int, ug, hO, fI, eM, qc, fS, eL, qy, fQ, h0]
theorem mV {a0 : Ty.T y36} {a1 : Int} {a2 : Ty.T af} (h0 : cur a2) : Ty.few 2 (.sl 41 y27) (ca a0 a1 a2).2.2 := by
  unfold ca
  simp (maxDischargeDepth := 99) only [false_and, and_false, av, ak, false_and, and_false, aD, aE, aF, ax, cond_true, cond_false, and_true, true_and, implies_true, and_self, ne_eq, reduceCtorEq, not_false_eq_true, true_or, or_true, false_or, or_false, Nat.zero_ne_one, Nat.one_ne_zero, List.length_cons, List.length_nil, Nat.reduceAdd, Nat.reduceLeDiff, Int.cast_ofNat_Int, ug, hO, fI, eM, qc, fS, eL, qy, fQ, h0]
theorem n8 {a0 : Ty.T y36} {a1 : Int} {a2 : Ty.T af} (h0 : cur a2) : Ty.few 8 (.sl 41 y27) (ca a0 a1 a2).2.2 := by
  unfold ca
  simp (maxDischargeDepth := 99) only [false_and, and_false, av, ak, false_and, and_false, aD, aE, aF, ax, cond_true, cond_false, and_true, true_and, implies_true, and_self, ne_eq, reduceCtorEq, not_false_eq_true, true_or, or_true, false_or, or_false, Nat.zero_ne_one, Nat.one_ne_zero, List.length_cons, List.length_nil, Nat.reduceAdd, Nat.reduceLeDiff, Int.cast_ofNat_Int, ug, hO, fI, eM, qc, fS, eL, qy, fQ, h0]
theorem vz {a0 : Ty.T y36} {a1 : Int} {a2 : Ty.T af} (h0 : cur a2) : cur (kS a0 a1 a2).1 := by
  unfold kS
  simp (maxDischargeDepth := 99) only [false_and, and_false, av, ak, false_and, and_false, aD, aE, aF, ax, cond_true, cond_false, and_true, true_and, implies_true, and_self, ne_eq, reduceCtorEq, not_false_eq_true, true_or, or_true, false_or, or_false, Nat.zero_ne_one, Nat.one_ne_zero, List.length_cons, List.length_nil, Nat.reduceAdd, Nat.reduceLeDiff, Int.cast_ofNat_Int, F8, vP, dH, cP, mQ, mV, n8, eL, qc, fS, qy, fQ, h0]
theorem GI {a0 : Ty.T y36} {a1 : Int} {a2 : Ty.T af} (h0 : cur a2) : cur (re a0 a1 a2).2 := by
  unfold re
  simp (maxDischargeDepth := 99) only [false_and, and_false, av, ak, false_and, and_false, aD, aE, aF, ax, cond_true, cond_false, and_true, true_and, implies_true, and_self, ne_eq, reduceCtorEq, not_false_eq_true, true_or, or_true, false_or, or_false, Nat.zero_ne_one, Nat.one_ne_zero, List.length_cons, List.length_nil, Nat.reduceAdd, Nat.reduceLeDiff, Int.cast_ofNat_Int, HN, vB, eL, qc, fS, qy, fQ, mQ, mV, n8, vz, h0]
theorem C8 {a0 : Ty.T y36} {a1 : Int} {a2 : Ty.T af} (h0 : cur a2) : Sat (nq a0 a1 a2 some) (fun r => cur r.2.2.1 /\ Ty.few 8 (.sl 41 y27) r.2.2.2) := by
  unfold nq
  simp (maxDischargeDepth := 99) only [false_and, and_false, av, ak, false_and, and_false, aD, aE, aF, ax, cond_true, cond_false, and_true, true_and, implies_true, and_self, ne_eq, reduceCtorEq, not_false_eq_true, true_or, or_true, false_or, or_false, Nat.zero_ne_one, Nat.one_ne_zero, List.length_cons, List.length_nil, Nat.reduceAdd, Nat.reduceLeDiff, Int.cast_ofNat_Int, bm, aW, bn, aY, bh, bl, bM, bt, cD, bN, GC, vV, F0, vT, vO, qc, fS, eL, qy, fQ, ug, hO, fI, eM, dH, cP, mQ, mV, n8, F8, vP, HN, vB, vz, GI, h0]
theorem eD {a0 : Ty.T y36} {a1 : Int} {a2 : Ty.T af} (h0 : cur a2) : q5 a0 a1 a2 = true := (C8 h0).d
theorem cS {a0 : Ty.T y36} {a1 : Int} {a2 : Ty.T af} (h0 : cur a2) : cur (aq a0 a1 a2).2.2.1 := (C8 h0).v.1
theorem cR {a0 : Ty.T y36} {a1 : Int} {a2 : Ty.T af} (h0 : cur a2) : Ty.few 8 (.sl 41 y27) (aq a0 a1 a2).2.2.2 := (C8 h0).v.2
theorem Xl {l m : List (Int × Int × Int × Int × Int × Int × Bool)} (h : Ty.few 2 (.sl 41 y27) l) (hm : m.length <= 6) : (@List.length (Int × Int × Int × Int × Int × Int × Bool) (@HAppend.hAppend (List (Int × Int × Int × Int × Int × Int × Bool)) (List (Int × Int × Int × Int × Int × Int × Bool)) (List (Int × Int × Int × Int × Int × Int × Bool)) _ l m) * 56 <= 140737488351232) = True := eq_true (KE (t := y27) h hm (by decide))
theorem VL {l m : List (Int × Int × Int × Int × Int × Int × Bool)} (h : Ty.few 2 (.sl 41 y27) l) (hm : m.length <= 6) : Ty.few 8 (.sl 41 y27) (@HAppend.hAppend (List (Int × Int × Int × Int × Int × Int × Bool)) (List (Int × Int × Int × Int × Int × Int × Bool)) (List (Int × Int × Int × Int × Int × Int × Bool)) _ l m) = True := eq_true (C4 (t := y27) h (by decide) (fun x _ => sa _ rfl x) hm (by decide))
theorem X8 {l : Ty.T (.sl 41 y27)} (h : Ty.few 2 (.sl 41 y27) l) : Ty.few 8 (.sl 41 y27) l = True := eq_true (ff (by decide) _ _ h)
theorem MT {v : jl} (h0 : cur v.1) : Sat (iB v some) (fun _ => True) := by
  unfold iB
  simp (maxDischargeDepth := 99) only [false_and, and_false, av, ak, false_and, and_false, aD, aE, aF, ax, cond_true, cond_false, and_true, true_and, implies_true, and_self, ne_eq, reduceCtorEq, not_false_eq_true, true_or, or_true, false_or, or_false, Nat.zero_ne_one, Nat.one_ne_zero, List.length_cons, List.length_nil, Nat.reduceAdd, Nat.reduceLeDiff, Int.cast_ofNat_Int, bm, aW, bn, aY, bh, bl, bM, bt, ug, hO, fI, eM, h0]
theorem Om {v : jl} (h0 : cur v.1) : zq v = true := (MT h0).d
theorem Mg {v : bc} (h0 : cur v.1) (h1 : Ty.few 2 (.sl 41 y27) v.2.2.2.2.1) : Sat (je v some) (fun _ => True) := by
  unfold je
  simp (maxDischargeDepth := 99) only [false_and, and_false, av, ak, false_and, and_false, aD, aE, aF, ax, cond_true, cond_false, and_true, true_and, implies_true, and_self, ne_eq, reduceCtorEq, not_false_eq_true, true_or, or_true, false_or, or_false, Nat.zero_ne_one, Nat.one_ne_zero, List.length_cons, List.length_nil, Nat.reduceAdd, Nat.reduceLeDiff, Int.cast_ofNat_Int, bm, aW, bn, aY, bh, bl, NM, As, Xl, VL, X8, h0, h1]
theorem OH {v : bc} (h0 : cur v.1) (h1 : Ty.few 2 (.sl 41 y27) v.2.2.2.2.1) : zG v = true := (Mg h0 h1).d
theorem Mv {v : bc} (h0 : cur v.1) (h1 : Ty.few 2 (.sl 41 y27) v.2.2.2.2.1) : Sat (gm v some) (fun _ => True) := by
  unfold gm
  simp (maxDischargeDepth := 99) only [false_and, and_false, av, ak, false_and, and_false, aD, aE, aF, ax, cond_true, cond_false, and_true, true_and, implies_true, and_self, ne_eq, reduceCtorEq, not_false_eq_true, true_or, or_true, false_or, or_false, Nat.zero_ne_one, Nat.one_ne_zero, List.length_cons, List.length_nil, Nat.reduceAdd, Nat.reduceLeDiff, Int.cast_ofNat_Int, bm, aW, bn, aY, bh, bl, qF, fK, Xl, VL, X8, h0, h1]
theorem QA {v : bc} (h0 : cur v.1) (h1 : Ty.few 2 (.sl 41 y27) v.2.2.2.2.1) : xT v = true := (Mv h0 h1).d
theorem tD {v : e9} (h0 : cur v.2.2.1) (h1 : Ty.few 2 (.sl 41 y27) v.2.2.2.2.2.2.1) : Sat (gl v some) (fun r => cur r.2.1 /\ Ty.few 8 (.sl 41 y27) r.2.2) := by
  unfold gl
  simp (maxDischargeDepth := 99) only [false_and, and_false, av, ak, false_and, and_false, aD, aE, aF, ax, cond_true, cond_false, and_true, true_and, implies_true, and_self, ne_eq, reduceCtorEq, not_false_eq_true, true_or, or_true, false_or, or_false, Nat.zero_ne_one, Nat.one_ne_zero, List.length_cons, List.length_nil, Nat.reduceAdd, Nat.reduceLeDiff, Int.cast_ofNat_Int, bm, aW, bn, aY, bh, bl, cD, bN, C6, oF, OH, NM, As, Xl, VL, X8, QA, qF, fK, h0, h1]
theorem Pg {v : e9} (h0 : cur v.2.2.1) (h1 : Ty.few 2 (.sl 41 y27) v.2.2.2.2.2.2.1) : yr v = true := (tD h0 h1).d
theorem GZ {v : e9} (h0 : cur v.2.2.1) (h1 : Ty.few 2 (.sl 41 y27) v.2.2.2.2.2.2.1) : cur (kR v).2.1 := (tD h0 h1).v.1
theorem HA {v : e9} (h0 : cur v.2.2.1) (h1 : Ty.few 2 (.sl 41 y27) v.2.2.2.2.2.2.1) : Ty.few 8 (.sl 41 y27) (kR v).2.2 := (tD h0 h1).v.2
theorem Ds {a0 : Ty.T y36} {a1 : Ty.T af} (h0 : cur a1) : Sat (qm a0 a1 some) (fun r => cur r.2.1 /\ Ty.few 8 (.sl 41 y27) r.2.2) := by
  unfold qm
  simp (maxDischargeDepth := 99) only [false_and, and_false, av, ak, false_and, and_false, aD, aE, aF, ax, cond_true, cond_false, and_true, true_and, implies_true, and_self, ne_eq, reduceCtorEq, not_false_eq_true, true_or, or_true, false_or, or_false, Nat.zero_ne_one, Nat.one_ne_zero, List.length_cons, List.length_nil, Nat.reduceAdd, Nat.reduceLeDiff, Int.cast_ofNat_Int, bm, aW, bn, aY, bh, bl, Om, bM, bt, ug, hO, fI, eM, Pg, GZ, HA, h0]
theorem XC {a0 : Ty.T y36} {a1 : Ty.T af} (h0 : cur a1) : Jf a0 a1 = true := (Ds h0).d
theorem LZ {a0 : Ty.T y36} {a1 : Ty.T af} (h0 : cur a1) : cur (tN a0 a1).2.1 := (Ds h0).v.1
theorem Na {a0 : Ty.T y36} {a1 : Ty.T af} (h0 : cur a1) : Ty.few 8 (.sl 41 y27) (tN a0 a1).2.2 := (Ds h0).v.2
theorem Mp {v : ji} (h0 : cur v.1) : Sat (iy v some) (fun _ => True) := by
  unfold iy
  simp (maxDischargeDepth := 99) only [false_and, and_false, av, ak, false_and, and_false, aD, aE, aF, ax, cond_true, cond_false, and_true, true_and, implies_true, and_self, ne_eq, reduceCtorEq, not_false_eq_true, true_or, or_true, false_or, or_false, Nat.zero_ne_one, Nat.one_ne_zero, List.length_cons, List.length_nil, Nat.reduceAdd, Nat.reduceLeDiff, Int.cast_ofNat_Int, bm, aW, bn, aY, bh, bl, bM, bt, eD, cS, cR, h0]
theorem Sc {v : ji} (h0 : cur v.1) : zS v = true := (Mp h0).d
theorem vr {v : fe} (h0 : cur v.2.2.1) (h1 : Ty.few 8 (.sl 41 y27) v.2.2.2.2.2.2.2.1) : Sat (gj v some) (fun r => cur r.2.2.1 /\ Ty.few 8 (.sl 41 y27) r.2.2.2) := by
  unfold gj
  simp (maxDischargeDepth := 99) only [false_and, and_false, av, ak, false_and, and_false, aD, aE, aF, ax, cond_true, cond_false, and_true, true_and, implies_true, and_self, ne_eq, reduceCtorEq, not_false_eq_true, true_or, or_true, false_or, or_false, Nat.zero_ne_one, Nat.one_ne_zero, List.length_cons, List.length_nil, Nat.reduceAdd, Nat.reduceLeDiff, Int.cast_ofNat_Int, bm, aW, bn, aY, bh, bl, cD, bN, XN, LR, Wu, L1, XC, LZ, Na, h0, h1]
theorem x8 {v : fe} (h0 : cur v.2.2.1) (h1 : Ty.few 8 (.sl 41 y27) v.2.2.2.2.2.2.2.1) : yi v = true := (vr h0 h1).d
theorem m5 {v : fe} (h0 : cur v.2.2.1) (h1 : Ty.few 8 (.sl 41 y27) v.2.2.2.2.2.2.2.1) : cur (rK v).2.2.1 := (vr h0 h1).v.1
theorem nQ {v : fe} (h0 : cur v.2.2.1) (h1 : Ty.few 8 (.sl 41 y27) v.2.2.2.2.2.2.2.1) : Ty.few 8 (.sl 41 y27) (rK v).2.2.2 := (vr h0 h1).v.2
theorem mu {a0 : Ty.T y36} {a1 : Ty.T af} (h0 : cur a1) : cur (cV a0 a1).2.2.1 := by
  unfold cV
  simp (maxDischargeDepth := 99) only [false_and, and_false, av, ak, false_and, and_false, aD, aE, aF, ax, cond_true, cond_false, and_true, true_and, implies_true, and_self, ne_eq, reduceCtorEq, not_false_eq_true, true_or, or_true, false_or, or_false, Nat.zero_ne_one, Nat.one_ne_zero, List.length_cons, List.length_nil, Nat.reduceAdd, Nat.reduceLeDiff, Int.cast_ofNat_Int, eD, cS, cR, bM, bt, h0]
theorem nS {a0 : Ty.T y36} {a1 : Ty.T af} (h0 : cur a1) : Ty.few 8 (.sl 41 y27) (cV a0 a1).2.2.2 := by
  unfold cV
  simp (maxDischargeDepth := 99) only [false_and, and_false, av, ak, false_and, and_false, aD, aE, aF, ax, cond_true, cond_false, and_true, true_and, implies_true, and_self, ne_eq, reduceCtorEq, not_false_eq_true, true_or, or_true, false_or, or_false, Nat.zero_ne_one, Nat.one_ne_zero, List.length_cons, List.length_nil, Nat.reduceAdd, Nat.reduceLeDiff, Int.cast_ofNat_Int, eD, cS, cR, bM, bt, h0]
theorem Fc {a0 : Ty.T y36} {a1 : Ty.T af} (h0 : cur a1) : cur (gr a0 a1).2.2.1 := by
  unfold gr
  simp (maxDischargeDepth := 99) only [false_and, and_false, av, ak, false_and, and_false, aD, aE, aF, ax, cond_true, cond_false, and_true, true_and, implies_true, and_self, ne_eq, reduceCtorEq, not_false_eq_true, true_or, or_true, false_or, or_false, Nat.zero_ne_one, Nat.one_ne_zero, List.length_cons, List.length_nil, Nat.reduceAdd, Nat.reduceLeDiff, Int.cast_ofNat_Int, x8, m5, nQ, bM, bt, mu, nS, h0]
theorem FY {a0 : Ty.T y36} {a1 : Ty.T af} (h0 : cur a1) : Ty.few 8 (.sl 41 y27) (gr a0 a1).2.2.2 := by
  unfold gr
  simp (maxDischargeDepth := 99) only [false_and, and_false, av, ak, false_and, and_false, aD, aE, aF, ax, cond_true, cond_false, and_true, true_and, implies_true, and_self, ne_eq, reduceCtorEq, not_false_eq_true, true_or, or_true, false_or, or_false, Nat.zero_ne_one, Nat.one_ne_zero, List.length_cons, List.length_nil, Nat.reduceAdd, Nat.reduceLeDiff, Int.cast_ofNat_Int, x8, m5, nQ, bM, bt, mu, nS, h0]
theorem CU {a0 : Ty.T y36} {a1 : Ty.T af} (h0 : cur a1) : Sat (p6 a0 a1 some) (fun r => cur r.2.2.1 /\ Ty.few 8 (.sl 41 y27) r.2.2.2) := by
  unfold p6
  simp (maxDischargeDepth := 99) only [false_and, and_false, av, ak, false_and, and_false, aD, aE, aF, ax, cond_true, cond_false, and_true, true_and, implies_true, and_self, ne_eq, reduceCtorEq, not_false_eq_true, true_or, or_true, false_or, or_false, Nat.zero_ne_one, Nat.one_ne_zero, List.length_cons, List.length_nil, Nat.reduceAdd, Nat.reduceLeDiff, Int.cast_ofNat_Int, bm, aW, bn, aY, bh, bl, Sc, bM, bt, mu, nS, x8, m5, nQ, Fc, FY, h0]
theorem W1 {a0 : Ty.T y36} {a1 : Ty.T af} (h0 : cur a1) : Dg a0 a1 = true := (CU h0).d
theorem Mi {a0 : Ty.T y36} {a1 : Ty.T af} (h0 : cur a1) : cur (bE a0 a1).2.2.1 := (CU h0).v.1
theorem LK {a0 : Ty.T y36} {a1 : Ty.T af} (h0 : cur a1) : Ty.few 8 (.sl 41 y27) (bE a0 a1).2.2.2 := (CU h0).v.2
theorem jX {v : ep} (h0 : cur v.2.2.2.1) : cur (bA v).2.2.1 := by
  unfold bA
  simp (maxDischargeDepth := 99) only [false_and, and_false, av, ak, false_and, and_false, aD, aE, aF, ax, cond_true, cond_false, and_true, true_and, implies_true, and_self, ne_eq, reduceCtorEq, not_false_eq_true, true_or, or_true, false_or, or_false, Nat.zero_ne_one, Nat.one_ne_zero, List.length_cons, List.length_nil, Nat.reduceAdd, Nat.reduceLeDiff, Int.cast_ofNat_Int, eD, cS, cR, bM, bt, h0]
theorem jZ {v : ep} (h0 : cur v.2.2.2.1) : Ty.few 8 (.sl 41 y27) (bA v).2.2.2 := by
  unfold bA
  simp (maxDischargeDepth := 99) only [false_and, and_false, av, ak, false_and, and_false, aD, aE, aF, ax, cond_true, cond_false, and_true, true_and, implies_true, and_self, ne_eq, reduceCtorEq, not_false_eq_true, true_or, or_true, false_or, or_false, Nat.zero_ne_one, Nat.one_ne_zero, List.length_cons, List.length_nil, Nat.reduceAdd, Nat.reduceLeDiff, Int.cast_ofNat_Int, eD, cS, cR, bM, bt, h0]
theorem Eg {r : List (Ty.T aa)} {n : Int} {c : Ty.T af} {s : Ty.T y36} {l : List (Ty.T aa)} (h0 : 0 <= n) (hn : n <= 4) (hl : l = []) (h : cur c) : yX r 0 n c s l 0 = true /\ cur (kO r 0 n c s l).2.2.2.1 /\ Ty.few 8 (.sl 109 aa) (kO r 0 n c s l).2.2.2.2.2.1 := by
  have := lV (s := nX) (Q := fun v => cur v.2.2.2.1 /\ Ty.few 8 (.sl 109 aa) v.2.2.2.2.2.1) (fun k v => ∃ (i id : Int) (c : Ty.T af) (l : List (Ty.T aa)), v = (r, id, i, c, s, l, ()) /\ cur c /\ i = k /\ (l.length : Int) + i <= 4 /\ ∀ x, x ∈ l -> Ty.few 8 aa x) (fun k v hv => by
    obtain ⟨i, id, c, l, rfl, h1, h3, h4, h5⟩ := hv
    have e : 0 <= i -> IntKind.wrap .i64 (i - 1) = i - 1 := fun _ => bT (by omega) (by omega)
    have hz : ∀ x : Int × Int × Int × Int × (Int × Int × Int × Int × Int × Int × Int) × (Int × Int) × (Int × Int × Int × Int × Int × Bool × List (Int × Int × Int × Int × Int × Int × Bool)) × Int × Int, (@List.length (Int × Int × Int × Int × (Int × Int × Int × Int × Int × Int × Int) × (Int × Int) × (Int × Int × Int × Int × Int × Bool × List (Int × Int × Int × Int × Int × Int × Bool)) × Int × Int) (l ++ [x]) * 192 <= 140737488351232) = True := fun x => eq_true (by simp only [List.length_append, List.length_cons, List.length_nil]; omega)
    unfold nX ou
    dsimp only
    simp (maxDischargeDepth := 99) only [false_and, and_false, av, ak, false_and, and_false, aD, aE, aF, ax, cond_true, cond_false, and_true, true_and, implies_true, and_self, ne_eq, reduceCtorEq, not_false_eq_true, true_or, or_true, false_or, or_false, Nat.zero_ne_one, Nat.one_ne_zero, List.length_cons, List.length_nil, Nat.reduceAdd, Nat.reduceLeDiff, Int.cast_ofNat_Int, bm, aW, bn, aY, bh, bl, bM, bt, eD, cS, cR, jX, jZ, h1, hz]
    refine ⟨fun hl => ?_, fun _ => ⟨by omega, h5⟩⟩
    have hl : i > 0 := of_decide_eq_true hl
    refine ⟨k - 1, by omega, i - 1, _, _, _, by rw [e (by omega)] <;> rfl, ?_, by omega, by simp only [List.length_append, List.length_cons, List.length_nil]; omega, fun x hx => ?_⟩
    · simp (maxDischargeDepth := 99) only [false_and, and_false, av, ak, false_and, and_false, aD, aE, aF, ax, cond_true, cond_false, and_true, true_and, implies_true, and_self, ne_eq, reduceCtorEq, not_false_eq_true, true_or, or_true, false_or, or_false, Nat.zero_ne_one, Nat.one_ne_zero, List.length_cons, List.length_nil, Nat.reduceAdd, Nat.reduceLeDiff, Int.cast_ofNat_Int, bm, aW, bn, aY, bh, bl, bM, bt, eD, cS, cR, jX, jZ, h1]
    · rcases List.mem_append.1 hx with hx | hx
      · have h6 := h5 x hx
        simp (maxDischargeDepth := 99) only [false_and, and_false, av, ak, false_and, and_false, aD, aE, aF, ax, cond_true, cond_false, and_true, true_and, implies_true, and_self, ne_eq, reduceCtorEq, not_false_eq_true, true_or, or_true, false_or, or_false, Nat.zero_ne_one, Nat.one_ne_zero, List.length_cons, List.length_nil, Nat.reduceAdd, Nat.reduceLeDiff, Int.cast_ofNat_Int, bm, aW, bn, aY, bh, bl, bM, bt, eD, cS, cR, jX, jZ] at h6 ⊢
        exact h6
      · cases List.mem_singleton.1 hx
        simp (maxDischargeDepth := 99) only [false_and, and_false, av, ak, false_and, and_false, aD, aE, aF, ax, cond_true, cond_false, and_true, true_and, implies_true, and_self, ne_eq, reduceCtorEq, not_false_eq_true, true_or, or_true, false_or, or_false, Nat.zero_ne_one, Nat.one_ne_zero, List.length_cons, List.length_nil, Nat.reduceAdd, Nat.reduceLeDiff, Int.cast_ofNat_Int, bm, aW, bn, aY, bh, bl, bM, bt, eD, cS, cR, jX, jZ, h1]) n.toNat (r, 0, n, c, s, l, ()) (ni (r, 0, n, c, s, l, ())) ⟨n, 0, c, l, rfl, h, by omega, by subst hl; show (0 : Int) + n <= 4; omega, by subst hl; exact fun x hx => absurd hx List.not_mem_nil⟩ (by simp only [ni]; omega)
  exact ⟨this.1.1, this.2⟩
theorem vbA {c : Ty.T af} (h : cur c) : 0 <= (ab 5 c).1 := ((below 5 c h).2.1 (by omega)).1
theorem vbB {c : Ty.T af} (h : cur c) : (ab 5 c).1 <= 4 := by
  have := (below 5 c h).2.1 (by omega)
  omega
theorem Th {r : List (Ty.T aa)} {n : Int} {c : Ty.T af} {s : Ty.T y36} {l : List (Ty.T aa)} (h0 : 0 <= n) (hn : n <= 4) (hl : l = []) (h : cur c) : yX r 0 n c s l 0 = true := (Eg h0 hn hl h).1
theorem Tu {r : List (Ty.T aa)} {n : Int} {c : Ty.T af} {s : Ty.T y36} {l : List (Ty.T aa)} (h0 : 0 <= n) (hn : n <= 4) (hl : l = []) (h : cur c) : cur (kO r 0 n c s l).2.2.2.1 := (Eg h0 hn hl h).2.1
theorem SY {r : List (Ty.T aa)} {n : Int} {c : Ty.T af} {s : Ty.T y36} {l : List (Ty.T aa)} (h0 : 0 <= n) (hn : n <= 4) (hl : l = []) (h : cur c) : Ty.few 8 (.sl 109 aa) (kO r 0 n c s l).2.2.2.2.2.1 := (Eg h0 hn hl h).2.2
theorem rI {a0 : Ty.T y36} {a1 : Ty.T af} (h0 : cur a1) : Sat (qG a0 a1 some) (fun r => cur r.1 /\ Ty.few 8 (.sl 109 aa) r.2) := by
  unfold qG
  simp (maxDischargeDepth := 99) only [false_and, and_false, av, ak, false_and, and_false, aD, aE, aF, ax, cond_true, cond_false, and_true, true_and, implies_true, and_self, ne_eq, reduceCtorEq, not_false_eq_true, true_or, or_true, false_or, or_false, Nat.zero_ne_one, Nat.one_ne_zero, List.length_cons, List.length_nil, Nat.reduceAdd, Nat.reduceLeDiff, Int.cast_ofNat_Int, bm, aW, bn, aY, bh, bl, bM, bt, Th, Tu, SY, vbA, vbB, h0]
theorem VV {a0 : Ty.T y36} {a1 : Ty.T af} (h0 : cur a1) : z8 a0 a1 = true := (rI h0).d
theorem ME {a0 : Ty.T y36} {a1 : Ty.T af} (h0 : cur a1) : cur (bX a0 a1).1 := (rI h0).v.1
theorem M9 {a0 : Ty.T y36} {a1 : Ty.T af} (h0 : cur a1) : Ty.few 8 (.sl 109 aa) (bX a0 a1).2 := (rI h0).v.2
theorem M4 {l m : List (Int × Int × Int × Int × (Int × Int × Int × Int × Int × Int × Int) × (Int × Int) × (Int × Int × Int × Int × Int × Bool × List (Int × Int × Int × Int × Int × Int × Bool)) × Int × Int)} (h : Ty.few 8 (.sl 109 aa) l) (hm : m.length <= 4) : (@List.length (Int × Int × Int × Int × (Int × Int × Int × Int × Int × Int × Int) × (Int × Int) × (Int × Int × Int × Int × Int × Bool × List (Int × Int × Int × Int × Int × Int × Bool)) × Int × Int) (@HAppend.hAppend (List (Int × Int × Int × Int × (Int × Int × Int × Int × Int × Int × Int) × (Int × Int) × (Int × Int × Int × Int × Int × Bool × List (Int × Int × Int × Int × Int × Int × Bool)) × Int × Int)) (List (Int × Int × Int × Int × (Int × Int × Int × Int × Int × Int × Int) × (Int × Int) × (Int × Int × Int × Int × Int × Bool × List (Int × Int × Int × Int × Int × Int × Bool)) × Int × Int)) (List (Int × Int × Int × Int × (Int × Int × Int × Int × Int × Int × Int) × (Int × Int) × (Int × Int × Int × Int × Int × Bool × List (Int × Int × Int × Int × Int × Int × Bool)) × Int × Int)) _ l m) * 192 <= 140737488351232) = True := eq_true (KE (t := aa) h hm (by decide))
theorem Aw {l : List (Int × Int × Int × Int × (Int × Int × Int × Int × Int × Int × Int) × (Int × Int) × (Int × Int × Int × Int × Int × Bool × List (Int × Int × Int × Int × Int × Int × Bool)) × Int × Int)} {x0 : Int × Int × Int × Int × (Int × Int × Int × Int × Int × Int × Int) × (Int × Int) × (Int × Int × Int × Int × Int × Bool × List (Int × Int × Int × Int × Int × Int × Bool)) × Int × Int} (h : Ty.few 8 (.sl 109 aa) l) (hx0 : Ty.few 12 aa x0) : Ty.few 12 (.sl 109 aa) (@HAppend.hAppend (List (Int × Int × Int × Int × (Int × Int × Int × Int × Int × Int × Int) × (Int × Int) × (Int × Int × Int × Int × Int × Bool × List (Int × Int × Int × Int × Int × Int × Bool)) × Int × Int)) (List (Int × Int × Int × Int × (Int × Int × Int × Int × Int × Int × Int) × (Int × Int) × (Int × Int × Int × Int × Int × Bool × List (Int × Int × Int × Int × Int × Int × Bool)) × Int × Int)) (List (Int × Int × Int × Int × (Int × Int × Int × Int × Int × Int × Int) × (Int × Int) × (Int × Int × Int × Int × Int × Bool × List (Int × Int × Int × Int × Int × Int × Bool)) × Int × Int)) _ l (@List.cons (Int × Int × Int × Int × (Int × Int × Int × Int × Int × Int × Int) × (Int × Int) × (Int × Int × Int × Int × Int × Bool × List (Int × Int × Int × Int × Int × Int × Bool)) × Int × Int) x0 (@List.nil (Int × Int × Int × Int × (Int × Int × Int × Int × Int × Int × Int) × (Int × Int) × (Int × Int × Int × Int × Int × Bool × List (Int × Int × Int × Int × Int × Int × Bool)) × Int × Int)))) = True := eq_true (C4 (C := 1) (t := aa) h (by decide) (fun y hy => by simp only [List.mem_cons, List.not_mem_nil, or_false] at hy; rcases hy with rfl <;> assumption) (Nat.le_refl _) (by decide))
theorem AU {l : List (Int × Int × Int × Int × (Int × Int × Int × Int × Int × Int × Int) × (Int × Int) × (Int × Int × Int × Int × Int × Bool × List (Int × Int × Int × Int × Int × Int × Bool)) × Int × Int)} {x0 : Int × Int × Int × Int × (Int × Int × Int × Int × Int × Int × Int) × (Int × Int) × (Int × Int × Int × Int × Int × Bool × List (Int × Int × Int × Int × Int × Int × Bool)) × Int × Int} {x1 : Int × Int × Int × Int × (Int × Int × Int × Int × Int × Int × Int) × (Int × Int) × (Int × Int × Int × Int × Int × Bool × List (Int × Int × Int × Int × Int × Int × Bool)) × Int × Int} {x2 : Int × Int × Int × Int × (Int × Int × Int × Int × Int × Int × Int) × (Int × Int) × (Int × Int × Int × Int × Int × Bool × List (Int × Int × Int × Int × Int × Int × Bool)) × Int × Int} (h : Ty.few 8 (.sl 109 aa) l) (hx0 : Ty.few 12 aa x0) (hx1 : Ty.few 12 aa x1) (hx2 : Ty.few 12 aa x2) : Ty.few 12 (.sl 109 aa) (@HAppend.hAppend (List (Int × Int × Int × Int × (Int × Int × Int × Int × Int × Int × Int) × (Int × Int) × (Int × Int × Int × Int × Int × Bool × List (Int × Int × Int × Int × Int × Int × Bool)) × Int × Int)) (List (Int × Int × Int × Int × (Int × Int × Int × Int × Int × Int × Int) × (Int × Int) × (Int × Int × Int × Int × Int × Bool × List (Int × Int × Int × Int × Int × Int × Bool)) × Int × Int)) (List (Int × Int × Int × Int × (Int × Int × Int × Int × Int × Int × Int) × (Int × Int) × (Int × Int × Int × Int × Int × Bool × List (Int × Int × Int × Int × Int × Int × Bool)) × Int × Int)) _ l (@List.cons (Int × Int × Int × Int × (Int × Int × Int × Int × Int × Int × Int) × (Int × Int) × (Int × Int × Int × Int × Int × Bool × List (Int × Int × Int × Int × Int × Int × Bool)) × Int × Int) x0 (@List.cons (Int × Int × Int × Int × (Int × Int × Int × Int × Int × Int × Int) × (Int × Int) × (Int × Int × Int × Int × Int × Bool × List (Int × Int × Int × Int × Int × Int × Bool)) × Int × Int) x1 (@List.cons (Int × Int × Int × Int × (Int × Int × Int × Int × Int × Int × Int) × (Int × Int) × (Int × Int × Int × Int × Int × Bool × List (Int × Int × Int × Int × Int × Int × Bool)) × Int × Int) x2 (@List.nil (Int × Int × Int × Int × (Int × Int × Int × Int × Int × Int × Int) × (Int × Int) × (Int × Int × Int × Int × Int × Bool × List (Int × Int × Int × Int × Int × Int × Bool)) × Int × Int)))))) = True := eq_true (C4 (C := 3) (t := aa) h (by decide) (fun y hy => by simp only [List.mem_cons, List.not_mem_nil, or_false] at hy; rcases hy with rfl | rfl | rfl <;> assumption) (Nat.le_refl _) (by decide))
theorem Mw {l : Ty.T (.sl 109 aa)} (h : Ty.few 8 (.sl 109 aa) l) : Ty.few 12 (.sl 109 aa) l = True := eq_true (ff (by decide) _ _ h)
theorem L0 {l : List (Int × Int × Int × Int × (Int × Int × Int × Int × Int × Int × Int) × (Int × Int) × (Int × Int × Int × Int × Int × Bool × List (Int × Int × Int × Int × Int × Int × Bool)) × Int × Int)} {x : Int × Int × Int × Int × (Int × Int × Int × Int × Int × Int × Int) × (Int × Int) × (Int × Int × Int × Int × Int × Bool × List (Int × Int × Int × Int × Int × Int × Bool)) × Int × Int} (h : Ty.few 8 (.sl 109 aa) l) (hx : Ty.few 12 aa x) : Ty.few 12 (.sl 109 aa) (@List.set (Int × Int × Int × Int × (Int × Int × Int × Int × Int × Int × Int) × (Int × Int) × (Int × Int × Int × Int × Int × Bool × List (Int × Int × Int × Int × Int × Int × Bool)) × Int × Int) l 0 x) = True := eq_true (SU (t := aa) h (by decide) hx)
theorem MI {l : Ty.T (.sl 41 y27)} (h : Ty.few 8 (.sl 41 y27) l) : Ty.few 12 (.sl 41 y27) l = True := eq_true (ff (by decide) _ _ h)
theorem Hm {v : dZ} (h0 : cur v.2.1) : cur (cQ v).2.2.1 := by
  unfold cQ
  simp (maxDischargeDepth := 99) only [false_and, and_false, av, ak, false_and, and_false, aD, aE, aF, ax, cond_true, cond_false, and_true, true_and, implies_true, and_self, ne_eq, reduceCtorEq, not_false_eq_true, true_or, or_true, false_or, or_false, Nat.zero_ne_one, Nat.one_ne_zero, List.length_cons, List.length_nil, Nat.reduceAdd, Nat.reduceLeDiff, Int.cast_ofNat_Int, eD, cS, cR, M4, Aw, AU, Mw, L0, MI, h0]
theorem FG {v : dZ} (h0 : cur v.2.1) : Ty.few 8 (.sl 41 y27) (cQ v).2.2.2 := by
  unfold cQ
  simp (maxDischargeDepth := 99) only [false_and, and_false, av, ak, false_and, and_false, aD, aE, aF, ax, cond_true, cond_false, and_true, true_and, implies_true, and_self, ne_eq, reduceCtorEq, not_false_eq_true, true_or, or_true, false_or, or_false, Nat.zero_ne_one, Nat.one_ne_zero, List.length_cons, List.length_nil, Nat.reduceAdd, Nat.reduceLeDiff, Int.cast_ofNat_Int, eD, cS, cR, M4, Aw, AU, Mw, L0, MI, h0]
theorem Mj {v : dZ} (h0 : Ty.few 8 (.sl 109 aa) v.1) (h1 : cur v.2.1) (h2 : Ty.few 8 (.sl 109 aa) v.2.2.2.1) : Sat (iz v some) (fun _ => True) := by
  unfold iz
  simp (maxDischargeDepth := 99) only [false_and, and_false, av, ak, false_and, and_false, aD, aE, aF, ax, cond_true, cond_false, and_true, true_and, implies_true, and_self, ne_eq, reduceCtorEq, not_false_eq_true, true_or, or_true, false_or, or_false, Nat.zero_ne_one, Nat.one_ne_zero, List.length_cons, List.length_nil, Nat.reduceAdd, Nat.reduceLeDiff, Int.cast_ofNat_Int, bm, aW, bn, aY, bh, bl, eD, cS, cR, M4, Aw, AU, Mw, L0, MI, Hm, FG, h0, h1, h2]
theorem NN {v : dZ} (h0 : Ty.few 8 (.sl 109 aa) v.1) (h1 : cur v.2.1) (h2 : Ty.few 8 (.sl 109 aa) v.2.2.2.1) : y6 v = true := (Mj h0 h1 h2).d
theorem Gy {v : dR} (h0 : cur v.2.2.2.1) : cur (bB v).2.2.1 := by
  unfold bB
  simp (maxDischargeDepth := 99) only [false_and, and_false, av, ak, false_and, and_false, aD, aE, aF, ax, cond_true, cond_false, and_true, true_and, implies_true, and_self, ne_eq, reduceCtorEq, not_false_eq_true, true_or, or_true, false_or, or_false, Nat.zero_ne_one, Nat.one_ne_zero, List.length_cons, List.length_nil, Nat.reduceAdd, Nat.reduceLeDiff, Int.cast_ofNat_Int, eD, cS, cR, M4, Aw, AU, Mw, L0, MI, h0]
theorem Hw {v : dR} (h0 : cur v.2.2.2.1) : Ty.few 8 (.sl 41 y27) (bB v).2.2.2 := by
  unfold bB
  simp (maxDischargeDepth := 99) only [false_and, and_false, av, ak, false_and, and_false, aD, aE, aF, ax, cond_true, cond_false, and_true, true_and, implies_true, and_self, ne_eq, reduceCtorEq, not_false_eq_true, true_or, or_true, false_or, or_false, Nat.zero_ne_one, Nat.one_ne_zero, List.length_cons, List.length_nil, Nat.reduceAdd, Nat.reduceLeDiff, Int.cast_ofNat_Int, eD, cS, cR, M4, Aw, AU, Mw, L0, MI, h0]
theorem tc {v : dR} (h0 : Ty.few 8 (.sl 109 aa) v.1) (h1 : cur v.2.2.2.1) (h2 : Ty.few 8 (.sl 109 aa) v.2.2.2.2.2.1) : Sat (fZ v some) (fun r => cur r.1 /\ Ty.few 12 (.sl 109 aa) r.2) := by
  unfold fZ
  simp (maxDischargeDepth := 99) only [false_and, and_false, av, ak, false_and, and_false, aD, aE, aF, ax, cond_true, cond_false, and_true, true_and, implies_true, and_self, ne_eq, reduceCtorEq, not_false_eq_true, true_or, or_true, false_or, or_false, Nat.zero_ne_one, Nat.one_ne_zero, List.length_cons, List.length_nil, Nat.reduceAdd, Nat.reduceLeDiff, Int.cast_ofNat_Int, bm, aW, bn, aY, bh, bl, W1, Mi, LK, M4, Aw, AU, Mw, L0, MI, NN, eD, cS, cR, Gy, Hw, h0, h1, h2]
  intro _ _ _ h
  have h := of_decide_eq_true h
  exact ⟨h, _, List.getElem?_eq_getElem (by omega)⟩
theorem Pw {v : dR} (h0 : Ty.few 8 (.sl 109 aa) v.1) (h1 : cur v.2.2.2.1) (h2 : Ty.few 8 (.sl 109 aa) v.2.2.2.2.2.1) : yQ v = true := (tc h0 h1 h2).d
theorem GB {v : dR} (h0 : Ty.few 8 (.sl 109 aa) v.1) (h1 : cur v.2.2.2.1) (h2 : Ty.few 8 (.sl 109 aa) v.2.2.2.2.2.1) : cur (nH v).1 := (tc h0 h1 h2).v.1
theorem G7 {v : dR} (h0 : Ty.few 8 (.sl 109 aa) v.1) (h1 : cur v.2.2.2.1) (h2 : Ty.few 8 (.sl 109 aa) v.2.2.2.2.2.1) : Ty.few 12 (.sl 109 aa) (nH v).2 := (tc h0 h1 h2).v.2
theorem Dp {a0 : Ty.T y36} {a1 : Ty.T af} (h0 : cur a1) : Sat (qS a0 a1 some) (fun r => cur r.1 /\ Ty.few 12 (.sl 109 aa) r.2) := by
  unfold qS
  simp (maxDischargeDepth := 99) only [false_and, and_false, av, ak, false_and, and_false, aD, aE, aF, ax, cond_true, cond_false, and_true, true_and, implies_true, and_self, ne_eq, reduceCtorEq, not_false_eq_true, true_or, or_true, false_or, or_false, Nat.zero_ne_one, Nat.one_ne_zero, List.length_cons, List.length_nil, Nat.reduceAdd, Nat.reduceLeDiff, Int.cast_ofNat_Int, bm, aW, bn, aY, bh, bl, VV, ME, M9, bM, bt, Pw, GB, G7, h0]
theorem Wx {a0 : Ty.T y36} {a1 : Ty.T af} (h0 : cur a1) : Ew a0 a1 = true := (Dp h0).d
theorem Yz {a0 : Ty.T y36} {a1 : Ty.T af} (h0 : cur a1) : cur (tK a0 a1).1 := (Dp h0).v.1
theorem MU {a0 : Ty.T y36} {a1 : Ty.T af} (h0 : cur a1) : Ty.few 12 (.sl 109 aa) (tK a0 a1).2 := (Dp h0).v.2
theorem El {V : Type} {s : V -> Option (Nat × V)} {Q : Nat -> V -> Prop} (Inv : Nat -> V -> Prop) (h : ∀ k v, Inv k v -> Sat (s v) fun r => (∃ c, r.1 = c + 1 /\ Q c r.2) ∨ (r.1 = 0 /\ ∃ k', k = k' + 1 /\ Inv k' r.2)) : ∀ (k : Nat) (v : V) (n : Nat), Inv k v -> k < n -> ∃ c v', iter s n v = some (c, v') /\ Q c v'
  | k, v, 0, _, hn => by omega
  | k, v, n + 1, hI, hn => by
    obtain ⟨⟨c, v'⟩, h1, h2⟩ := h k v hI
    rcases h2 with ⟨c, rfl, h2⟩ | ⟨rfl, k', rfl, h4⟩
    · exact ⟨c, v', by rw [iter, h1] <;> rfl, h2⟩
    · obtain ⟨c, v2, h5, h6⟩ := El Inv h k' v' n h4 (by omega)
      exact ⟨c, v2, by rw [iter, h1]; exact h5, h6⟩
theorem SB {n : Int} {c : Ty.T af} (h0 : 0 <= n) (hn : n <= 7) (h : cur c) : Fy [] n c [] 0 = true /\ cur (rz [] n c []).2.2.1 /\ List.length (rz [] n c []).2.2.2.1 <= 7 := by
  have := lV (s := nU) (Q := fun v => cur v.2.2.1 /\ List.length v.2.2.2.1 <= 7) (fun k v => ∃ (i : Int) (c : Ty.T af) (l : List Int), v = ([], i, c, l, ()) /\ cur c /\ i = k /\ (l.length : Int) + i <= 7) (fun k v hv => by
    obtain ⟨i, c, l, rfl, h1, h3, h4⟩ := hv
    have e : 0 <= i -> IntKind.wrap .i64 (i - 1) = i - 1 := fun _ => bT (by omega) (by omega)
    have hz : ∀ x : Int, (@List.length Int (l ++ [x]) * 8 <= 140737488351232) = True := fun x => eq_true (by simp only [List.length_append, List.length_cons, List.length_nil]; omega)
    have b := oneOf [0, 1, 2, 1, 3, 5, (-1)] c (by simp) h1
    unfold nU my
    dsimp only
    simp (maxDischargeDepth := 99) only [false_and, and_false, av, ak, false_and, and_false, aD, aE, aF, ax, cond_true, cond_false, and_true, true_and, implies_true, and_self, ne_eq, reduceCtorEq, not_false_eq_true, true_or, or_true, false_or, or_false, Nat.zero_ne_one, Nat.one_ne_zero, List.length_cons, List.length_nil, Nat.reduceAdd, Nat.reduceLeDiff, Int.cast_ofNat_Int, bm, aW, bn, aY, bh, bl, cD, bN, b.1, h1, hz]
    refine ⟨fun hl => ?_, fun _ => by omega⟩
    have hl : i > 0 := of_decide_eq_true hl
    exact ⟨k - 1, by omega, i - 1, _, _, by rw [e (by omega)] <;> rfl, b.2.2, by omega, by simp only [List.length_append, List.length_cons, List.length_nil]; omega⟩) n.toNat ([], n, c, [], ()) (nd ([], n, c, [], ())) ⟨n, c, [], rfl, h, by omega, by show (0 : Int) + n <= 7; omega⟩ (by simp only [nd]; omega)
  exact ⟨this.1.1, this.2⟩
theorem Kr {a0 : Ty.T af} (h : cur a0) : Sat (qB a0 some) fun r => cur r.1 /\ List.length r.2 <= 7 := by
  have b := below 8 a0 h
  have b2 := b.2.1 (by omega)
  have l := SB b2.1 (by omega) b.2.2
  unfold qB
  rw [b.1, l.1]
  simp only [cond_true, ak]
  exact l.2
theorem V2 {a0 : Ty.T af} (h : cur a0) : DW a0 = true := (Kr h).d
theorem V3 {a0 : Ty.T af} (h : cur a0) : cur (qw a0).1 /\ List.length (qw a0).2 <= 7 := (Kr h).v
theorem SA {l : List (Ty.T aa)} {k kk : Int} {b : Bool} {c : Ty.T af} {s : Ty.T y36} {r e : Ty.T y27} (hb : s.1.length <= 1048576) (hs : s.2.1.length <= 1048576) (hl : l.length <= 1048576) (hv : ∀ x ∈ l, x.2.2.2.2.2.2.1.2.2.2.2.2.2.length <= 1048576) :
    ∃ (cd : Nat) (i : Int) (r' : Ty.T y27), iter kp (ku (l, k, 0, kk, b, c, s, r, e, ())) (l, k, 0, kk, b, c, s, r, e, ()) = some (cd, (l, k, i, kk, b, c, s, r', e, ())) /\ ((cd = 0 /\ r' = e) ∨ cd = 1) := by
  obtain ⟨cd, v', h1, i, r', rfl, h3⟩ := El (s := kp) (Q := fun cd v => ∃ (i : Int) (r' : Ty.T y27), v = (l, k, i, kk, b, c, s, r', e, ()) /\ ((cd = 0 /\ r' = e) ∨ cd = 1)) (fun m v => ∃ i : Int, v = (l, k, i, kk, b, c, s, r, e, ()) /\ 0 <= i /\ i + m = l.length) (fun m v hI => by
    obtain ⟨i, rfl, h0, hm⟩ := hI
    unfold kp m3
    dsimp only
    by_cases hi : i < (l.length : Int)
    · obtain ⟨x, hx, hxm⟩ := OX h0 hi
      have hf := fits s x e hb hs (hv x hxm)
      have hw : IntKind.wrap .i64 (i + 1) = i + 1 := bT (by omega) (by omega)
      rw [decide_eq_true hi, cond_true, if_pos h0, hx]
      simp only [ay]
      rw [hf.1, cond_true]
      cases gU s x e
      · rw [cond_false, ak]
        exact .inr ⟨rfl, m - 1, by omega, i + 1, by rw [hw], by omega, by omega⟩
      · rw [cond_true, ak]
        exact .inl ⟨0, rfl, i, e, rfl, .inl ⟨rfl, rfl⟩⟩
    · rw [decide_eq_false hi, cond_false, ak]
      exact .inl ⟨1, rfl, i, r, rfl, .inr rfl⟩) l.length (l, k, 0, kk, b, c, s, r, e, ()) (ku (l, k, 0, kk, b, c, s, r, e, ())) ⟨0, rfl, by omega, by omega⟩ (by simp only [ku]; omega)
  exact ⟨cd, i, r', h1, h3⟩
theorem SR {l : List (Ty.T aa)} {c : Ty.T af} {s : Ty.T y36} {r e : Ty.T y27} (P : Ty.T y27 -> Prop) (hP : ∀ c, cur c -> P (al s c).1) (he : P e) (h : cur c) (hb : s.1.length <= 1048576) (hs : s.2.1.length <= 1048576) (hl : l.length <= 1048576) (hv : ∀ x ∈ l, x.2.2.2.2.2.2.1.2.2.2.2.2.2.length <= 1048576) :
    ∃ (cd : Nat) (v' : gh), iter kz (kE (l, 0, c, s, r, e, ())) (l, 0, c, s, r, e, ()) = some (cd, v') /\ cur v'.2.2.1 /\ ((cd = 0 /\ P v'.2.2.2.2.1) ∨ (cd = 1 /\ P v'.2.2.2.2.2.1)) := by
  refine El (s := kz) (Q := fun cd v => cur v.2.2.1 /\ ((cd = 0 /\ P v.2.2.2.2.1) ∨ (cd = 1 /\ P v.2.2.2.2.2.1))) (fun m v => ∃ (i : Int) (c : Ty.T af) (r e : Ty.T y27), v = (l, i, c, s, r, e, ()) /\ cur c /\ P e /\ 0 <= i /\ i + m = 5) (fun m v hI => ?_) 5 (l, 0, c, s, r, e, ()) (kE (l, 0, c, s, r, e, ())) ⟨0, c, r, e, rfl, h, he, by omega, by omega⟩ (by simp only [kE]; omega)
  obtain ⟨i, c, r, e, rfl, hc, he, h0, hm⟩ := hI
  unfold kz nn
  dsimp only
  by_cases hi : i < 5
  · obtain ⟨cd, i', r', h1, h2⟩ := SA (k := i) (kk := i) (b := decide (i < (5 : Int))) (c := c) (r := r) (e := e) hb hs hl hv
    have hw : cW l i 0 i (decide (i < (5 : Int))) c s r e = _ := bo h1
    have hk0 : sc l i 0 i (decide (i < (5 : Int))) c s r e 0 = (cd == 0) := aX h1 0
    have hk1 : sc l i 0 i (decide (i < (5 : Int))) c s r e 1 = (cd == 1) := aX h1 1
    rw [hk0, hk1, hw]
    dsimp only
    rw [decide_eq_true hi, cond_true]
    rcases h2 with ⟨rfl, h2⟩ | rfl
    · rw [show ((0 : Nat) == 0) = true from rfl, cond_true, ak]
      exact .inl ⟨0, rfl, hc, .inl ⟨rfl, by rw [h2]; exact he⟩⟩
    · rw [show ((1 : Nat) == 0) = false from rfl, cond_false, show ((1 : Nat) == 1) = true from rfl, cond_true]
      have hw2 : IntKind.wrap .i64 (i + 1) = i + 1 := bT (by omega) (by omega)
      rw [qF hc, cond_true, ak]
      exact .inr ⟨rfl, m - 1, by omega, i + 1, _, r', _, by rw [hw2], fK hc, hP c hc, by omega, by omega⟩
  · rw [decide_eq_false hi, cond_false, ak]
    exact .inl ⟨1, rfl, hc, .inr ⟨rfl, he⟩⟩
theorem Tt {a0 : Ty.T y36} {a1 : List (Ty.T aa)} {a2 : Ty.T af} (P : Ty.T y27 -> Prop) (hP : ∀ c, cur c -> P (al a0 c).1) (h : cur a2) (hb : a0.1.length <= 1048576) (hs : a0.2.1.length <= 1048576) (hl : a1.length <= 1048576) (hv : ∀ x ∈ a1, x.2.2.2.2.2.2.1.2.2.2.2.2.2.length <= 1048576) : Sat (qQ a0 a1 a2 some) fun r => P r.1 /\ cur r.2 := by
  obtain ⟨cd, v', h1, h2, h3⟩ := SR (c := (al a0 a2).2) (s := a0) (r := (0, 0, 0, 0, 0, 0, false)) (e := (al a0 a2).1) P hP (hP a2 h) (fK h) hb hs hl hv
  have hw : na a1 0 (al a0 a2).2 a0 (0, 0, 0, 0, 0, 0, false) (al a0 a2).1 = _ := bo h1
  have hk0 : sn a1 0 (al a0 a2).2 a0 (0, 0, 0, 0, 0, 0, false) (al a0 a2).1 0 = (cd == 0) := aX h1 0
  have hk1 : sn a1 0 (al a0 a2).2 a0 (0, 0, 0, 0, 0, 0, false) (al a0 a2).1 1 = (cd == 1) := aX h1 1
  unfold qQ
  rw [qF h, cond_true, hk0, hk1, hw]
  rcases h3 with ⟨rfl, h3⟩ | ⟨rfl, h3⟩
  · rw [show ((0 : Nat) == 0) = true from rfl, cond_true, ak]
    exact ⟨h3, h2⟩
  · rw [show ((1 : Nat) == 0) = false from rfl, cond_false, show ((1 : Nat) == 1) = true from rfl, cond_true, ak]
    exact ⟨h3, h2⟩
theorem LB {a0 : Ty.T af} (h : cur a0) : Sat (qn a0 some) fun r => (r.1.1.length <= 6 /\ r.1.2.1.length = 2) /\ Ty.few 8 (.sl 109 aa) r.2.1 /\ cur r.2.2.2.1 /\ List.length r.2.2.2.2 <= 7 := by
  obtain ⟨s1, s2, s3, s4⟩ : cur (aj a0).2.1 /\ 1 <= (aj a0).2.2.1.length /\ (aj a0).2.2.1.length <= 6 /\ (aj a0).2.2.2.length = 2 := (wv h).v
  have d1 : sM a0 = true := (wv h).d
  obtain ⟨l1, l2⟩ : cur (bX ((aj a0).2.2.1, (aj a0).2.2.2, (aj a0).1) (aj a0).2.1).1 /\ Ty.few 8 (.sl 109 aa) (bX ((aj a0).2.2.1, (aj a0).2.2.2, (aj a0).1) (aj a0).2.1).2 := (rI (a0 := ((aj a0).2.2.1, (aj a0).2.2.2, (aj a0).1)) (a1 := (aj a0).2.1) s1).v
  have d2 : z8 ((aj a0).2.2.1, (aj a0).2.2.2, (aj a0).1) (aj a0).2.1 = true := (rI s1).d
  have e1 := Tt (a0 := ((aj a0).2.2.1, (aj a0).2.2.2, (aj a0).1)) (a1 := (bX ((aj a0).2.2.1, (aj a0).2.2.2, (aj a0).1) (aj a0).2.1).2) (fun _ => True) (fun _ _ => trivial) l1 (show (aj a0).2.2.1.length <= _ by omega) (show (aj a0).2.2.2.length <= _ by omega) (Nat.le_trans l2.1 (by decide)) (fun x hx => Nat.le_trans (l2.2 x hx).2.2.2.2.2.2.1.2.2.2.2.2.2.1 (by decide))
  have d3 : IH ((aj a0).2.2.1, (aj a0).2.2.2, (aj a0).1) (bX ((aj a0).2.2.1, (aj a0).2.2.2, (aj a0).1) (aj a0).2.1).2 (bX ((aj a0).2.2.1, (aj a0).2.2.2, (aj a0).1) (aj a0).2.1).1 = true := e1.d
  have e2 : True /\ cur (p5 ((aj a0).2.2.1, (aj a0).2.2.2, (aj a0).1) (bX ((aj a0).2.2.1, (aj a0).2.2.2, (aj a0).1) (aj a0).2.1).2 (bX ((aj a0).2.2.1, (aj a0).2.2.2, (aj a0).1) (aj a0).2.1).1).2 := e1.v
  have c2 := V3 e2.2
  have d4 := V2 e2.2
  unfold qn
  rw [d1, cond_true, d2, cond_true, d3, cond_true]
  have g : ∀ (T : List (Ty.T aa)) (c : Ty.T af) (s : Ty.T y36) (e : Ty.T y27), DW c = true -> rM ([], [], T, c, ([], [], 0, 0), (0, 0, 0, 0, 0, 0, false), s, e, ()) = true := fun T c s e hv => by
    unfold rM km
    rw [hv]
    rfl
  rw [g _ _ _ _ d4, cond_true, ak]
  exact ⟨⟨s3, s4⟩, l2, c2.1, c2.2⟩
theorem QP {a0 : Ty.T af} (h : cur a0) : CT a0 = true := (LB h).d
theorem PK {a0 : Ty.T af} (h : cur a0) : ((dx a0).1.1.length <= 6 /\ (dx a0).1.2.1.length = 2) /\ Ty.few 8 (.sl 109 aa) (dx a0).2.1 /\ cur (dx a0).2.2.2.1 /\ List.length (dx a0).2.2.2.2 <= 7 := (LB h).v
theorem aaU {d : Int} (h : 0 <= d) (h2 : d <= 1048576) : -9223372036854775808 <= d /\ d <= 9223372036854775807 := by omega
def jo (f : Ty.T y56) : Prop := f.1.length <= 1048576 /\ f.2.2.2.length <= 1048576 /\ ∀ t ∈ f.2.2.2, 0 <= gn t /\ gn t <= 1048576
theorem jo.rng {f : Ty.T y56} (h : jo f) : ∀ x ∈ f.2.2.2, -9223372036854775808 <= x.2.2.2.2.2.2.2 /\ x.2.2.2.2.2.2.2 <= 9223372036854775807 := fun x hx => aaU (h.2.2 x hx).1 (h.2.2 x hx).2
theorem Yq {a0 : Ty.T af} (h : cur a0) : ka a0 = true /\ cur (cC a0).1 /\ jo (cC a0).2 := by
  have z := QP h
  have u := PK h
  obtain ⟨⟨s, l, e, c, cs⟩, hq⟩ : ∃ q, dx a0 = q := ⟨_, rfl⟩
  rw [hq] at u
  obtain ⟨⟨u1, u2⟩, u3, u4, u5⟩ := u
  dsimp only at u1 u2 u3 u4 u5
  have g1 : s.1.length <= 1048576 := by omega
  have g2 : s.2.1.length <= 1048576 := by omega
  have g3 : l.length <= 1048576 := Nat.le_trans u3.1 (by decide)
  have g4 : ∀ x ∈ l, x.2.2.2.2.2.2.1.2.2.2.2.2.2.length <= 1048576 := fun x hx => Nat.le_trans (u3.2 x hx).2.2.2.2.2.2.1.2.2.2.2.2.2.1 (by decide)
  have g5 : cs.length <= 1048576 := by omega
  obtain ⟨r1, -, r3, -⟩ := rewrite s l e cs g1 g2 g3 g4 g5
  obtain ⟨⟨b1, b2, b3⟩, -⟩ := U9 s l e cs g1 g2 g3 g4 g5
  have hcn := tO l 0 (by omega)
  have b4 : ∀ t ∈ (rwM s l e cs).2.2.2, 0 <= gn t /\ gn t <= 1048576 := fun t ht => by have := b3 t ht; omega
  have E0 : cA a0 = rwM s l e cs := by
    unfold cA
    rw [hq]
    exact r3
  obtain ⟨⟨L, T, C, U⟩, hM⟩ : ∃ q, rwM s l e cs = q := ⟨_, rfl⟩
  rw [hM] at E0 b1 b2 b4
  dsimp only at b1 b2 b4
  obtain ⟨bb, c1, p1, p2, p3⟩ : ∃ (bb : Bool) (c1 : Ty.T af), iJ (c, ([], [], [], []), L, T, C, U, ()) some = some (bb, c1) /\ cur c1 /\ (bb = true -> 0 < U.length) := by
    unfold iJ
    dsimp only
    by_cases hp : (U.length : Int) > 0
    · have o := once 4 c u4
      rw [decide_eq_true hp, cond_true, o.1]
      exact ⟨_, _, rfl, o.2, fun _ => by omega⟩
    · rw [decide_eq_false hp]
      exact ⟨false, c, rfl, u4, fun h => by cases h⟩
  have E1 : rS (c, ([], [], [], []), L, T, C, U, ()) = true /\ rY (c, ([], [], [], []), L, T, C, U, ()) = (bb, c1) := by
    unfold rS rY
    rw [p1]
    exact ⟨rfl, rfl⟩
  obtain ⟨c2, U2, q1, q2, q3, q4⟩ : ∃ (c2 : Ty.T af) (U2 : List (Ty.T y66)), iT (bb, c1, ([], [], [], []), L, T, C, U, ()) some = some (c2, U2) /\ cur c2 /\ U2.length <= 1048576 /\ ∀ t ∈ U2, 0 <= gn t /\ gn t <= 1048576 := by
    unfold iT
    dsimp only
    cases bb with
    | false => exact ⟨c1, U, rfl, p2, by omega, b4⟩
    | true =>
      have hU := p3 rfl
      have o := below (U.length : Int) c1 p2
      obtain ⟨i, hi⟩ : ∃ i, ab (U.length : Int) c1 = i := ⟨_, rfl⟩
      rw [hi] at o
      have o2 := o.2.1 (by omega)
      have hx : U[i.1.toNat]? = some (U[i.1.toNat]'(by omega)) := List.getElem?_eq_getElem (by omega)
      have hz : ∀ x : Ty.T y66, (U ++ [x]).length * 128 <= 140737488351232 := fun x => by
        simp only [List.length_append, List.length_cons, List.length_nil]
        omega
      have hT : jB (c1, ([], [], [], []), L, T, C, U, ()) some = some (U ++ [U[i.1.toNat]'(by omega)]) := by
        unfold jB
        dsimp only
        rw [o.1, cond_true, hi, if_pos o2.1, if_pos o2.2, hx]
        simp only [ay]
        rw [if_pos (hz _)]
      have hG : rP (c1, ([], [], [], []), L, T, C, U, ()) = true /\ sE (c1, ([], [], [], []), L, T, C, U, ()) = U ++ [U[i.1.toNat]'(by omega)] := by
        unfold rP sE
        rw [hT]
        exact ⟨rfl, rfl⟩
      rw [cond_true, hG.1, cond_true, hG.2, hi]
      refine ⟨_, _, rfl, o.2.2, by simp only [List.length_append, List.length_cons, List.length_nil]; omega, fun t ht => ?_⟩
      rcases List.mem_append.1 ht with ht | ht
      · exact b4 t ht
      · rw [List.mem_singleton.1 ht]
        exact b4 _ (List.getElem_mem _)
  have E2 : rv (bb, c1, ([], [], [], []), L, T, C, U, ()) = true /\ rZ (bb, c1, ([], [], [], []), L, T, C, U, ()) = (c2, U2) := by
    unfold rv rZ
    rw [q1]
    exact ⟨rfl, rfl⟩
  have F1 : kH a0 = (bb, c1) := by
    unfold kH
    rw [E0, hq]
    exact E1.2
  have F2 : sv a0 = (c2, U2) := by
    unfold sv
    rw [E0, F1]
    exact E2.2
  have key : qi a0 some = some (c2, L, T, C, U2) := by
    unfold qi
    rw [E0, F1, F2, hq]
    dsimp only
    rw [z, cond_true, r1, cond_true, E1.1, cond_true, E2.1]
    rfl
  have kv : cC a0 = (c2, L, T, C, U2) := by
    unfold cC
    rw [key]
    rfl
  rw [kv]
  refine ⟨?_, q2, by show L.length <= _; omega, q3, q4⟩
  unfold ka
  rw [key]
  rfl
theorem drC (a : List (Ty.T (.int .u8))) (h : cur (cO a)) (h1 : d116 a = true) : d61 a = true /\ jo (v61 a) := by
  obtain ⟨f1, f2, f3⟩ := Yq h
  unfold d61 v61 t61
  rw [h1, f1]
  exact ⟨rfl, f3⟩
theorem drN (a : List (Ty.T (.int .u8))) (h : cur (cO a)) (h1 : d116 a = true) : d62 a = true /\ jo (v62 a) := by
  obtain ⟨f1, f2, f3⟩ := Yq h
  unfold d62 v62
  rw [h1, f1]
  exact ⟨rfl, f3⟩
theorem drL (a : List (Ty.T (.int .u8))) (h : cur (cO a)) (h1 : d116 a = true) : d64 a = true /\ jo (v64 a).2 := by
  obtain ⟨f1, f2, f3⟩ := Yq h
  unfold d64 v64
  rw [h1, f1, (below 6 _ f2).1]
  exact ⟨rfl, f3⟩
theorem drU (a : List (Ty.T (.int .u8))) (h : cur (cO a)) (h1 : d116 a = true) : d63 a = true /\ (v63 a).length <= 1048576 := by
  have e1 : sM (cO a) = true := WI h
  have e0 := MO h
  obtain ⟨q, hq⟩ : ∃ q, aj (cO a) = q := ⟨_, rfl⟩
  rw [hq] at e0
  have e2 : Ew (q.2.2.1, q.2.2.2, q.1) q.2.1 = true := Wx e0
  have tv : Ty.few 12 (.sl 109 aa) (tK (q.2.2.1, q.2.2.2, q.1) q.2.1).2 := MU e0
  have e3 : t63 a some = some (tK (q.2.2.1, q.2.2.2, q.1) q.2.1).2 := by
    unfold t63
    rw [h1, e1, hq, e2]
    rfl
  unfold d63 v63
  rw [e3]
  exact ⟨rfl, Nat.le_trans tv.1 (by decide)⟩
theorem p90 (b : Bool) (l : List (Ty.T aa)) (kd : Int) (s : Ty.T y36) (e : Ty.T y27) (F1 X1 Y1 : List (Ty.T y27)) (u : List (Ty.T aa)) (Z1 : List (Ty.T y27)) (F2 X2 Y2 Z2 : List (Ty.T aa)) (F3 X3 Y3 Z3 : List (Ty.T (.int .i64))) (F4 X4 Y4 Z4 : List (Ty.T y66))
    (hx : jo (X1, X2, X3, X4)) (hy : jo (Y1, Y2, Y3, Y4)) (hz : jo (Z1, Z2, Z3, Z4)) (hf : jo (F1, F2, F3, F4)) (hu : u.length <= 1048576) (hl : l.length <= 1048576) (hd : ∀ t ∈ F4, 0 <= gn t /\ gn t + 1 <= l.foldl gK 0) (hn : F2.length = l.length) : Un (b, l, kd, s, e, F1, X1, Y1, u, Z1, F2, X2, Y2, Z2, F3, X3, Y3, Z3, F4, X4, Y4, Z4, ()) = true /\ SC (b, l, kd, s, e, F1, X1, Y1, u, Z1, F2, X2, Y2, Z2, F3, X3, Y3, Z3, F4, X4, Y4, Z4, ()) = false := by
  have c1 := Yo (X1, X2, X3, X4) hx.2.1 hx.rng
  have c2 := P4 (X1, X2, X3, X4) hx.2.1 hx.rng
  have n1 := ach (Y1, Y2, Y3, Y4) hy.2.1
  have n2 := acN (Y1, Y2, Y3, Y4) hy.2.1
  have w1 := aeQ u hu
  have w2 := aaj u hu
  have z1 := Zl (Z1, Z2, Z3, Z4) kd hz.1
  have z2 := ZP (Z1, Z2, Z3, Z4) kd hz.1
  have zr := WT (Z1.filter fun x => x.1 == kd) (Nat.le_trans (List.length_filter_le _ _) hz.1)
  have c3 := P4 (F1, F2, F3, F4) hf.2.1 hf.rng
  have w3 := aaj l hl
  have hcn := tO l 0 (by omega)
  have hc := Se F4 0 (l.foldl gK 0) (by omega) (by omega) hd
  have key : Hv (b, l, kd, s, e, F1, X1, Y1, u, Z1, F2, X2, Y2, Z2, F3, X3, Y3, Z3, F4, X4, Y4, Z4, ()) some = some false := by
    unfold Hv Wd VN
    dsimp only
    rw [c1.1, c1.2, c2.1, c2.2, n1.1, n1.2, n2.1, n2.2, w1.1, w1.2, w2.1, w2.2, z1.1, z1.2, z2.1, z2.2, c3.1, c3.2, w3.1, w3.2]
    dsimp only
    rw [zr.1, zr.2, decide_eq_false (show ¬ (F4.foldl chF 0 > l.foldl gK 0) by omega), hn]
    simp only [bne_self_eq_false, cond_true, cond_false, Bool.not_true]
  unfold Un SC
  rw [key]
  exact ⟨rfl, rfl⟩
theorem p91 (l : List (Ty.T aa)) (s : Ty.T y36) (e : Ty.T y27) (L : List (Ty.T y27)) (T : List (Ty.T aa)) (C : List (Ty.T (.int .i64))) (U : List (Ty.T y66)) (hl : l.length <= 1048576) (hv : ∀ x ∈ l, x.2.2.2.2.2.2.1.2.2.2.2.2.2.length <= 1048576) (h : aL LeU l T) :
    SJ false l 0 s e L T C U 0 = false /\ SJ false l 0 s e L T C U 1 = true /\ aaX false l 0 s e L T C U = (false, l, (l.length : Int), s, e, L, T, C, U, ()) := by
  obtain ⟨hlen, hat⟩ := aL.at h
  have h := nY (s := LV) (mk := fun i => (false, l, i, s, e, L, T, C, U, ())) (c := 1) (N := l.length) (fun i hi => by
    obtain ⟨v, hv1, hv2⟩ := hat i hi (by omega)
    have hT : T[i]? = some (R7 l[i] v) := by rw [← hv2]; exact List.getElem?_eq_getElem (by omega)
    have hL : l[i]? = some l[i] := List.getElem?_eq_getElem hi
    have r := Qn l[i] (hv _ (List.getElem_mem hi))
    have hw := aT (n := i) (by omega)
    have h3 : decide (v > (l[i]).2.2.2.2.2.2.2.2) = false := decide_eq_false (by unfold lf at hv1; omega)
    simp only [LV, MX, decide_eq_true (show (i : Int) < (l.length : Int) by omega), cond_true, cond_false, if_pos (show (0 : Int) <= (i : Int) by omega), if_pos (show (i : Int) < (T.length : Int) by omega), Int.toNat_natCast, hT, hL, ay, R7, h3, Prod.eta, r.1, r.2, Bool.not_true, hw]) (by simp [LV, MX]) l.length 0 (Pd (false, l, 0, s, e, L, T, C, U, ())) (by omega) (by simp only [Pd]; omega)
  exact ⟨aX h 0, aX h 1, bo h⟩
theorem p92 (b : Bool) (l : List (Ty.T aa)) (s : Ty.T y36) (e : Ty.T y27) (L : List (Ty.T y27)) (T : List (Ty.T aa)) (C : List (Ty.T (.int .i64))) (t : Ty.T y66) (ts : List (Ty.T y66)) (hb : s.1.length <= 1048576) (hs : s.2.1.length <= 1048576) (hl : l.length <= 1048576) (hv : ∀ x ∈ l, x.2.2.2.2.2.2.1.2.2.2.2.2.2.length <= 1048576)
    (h1 : t.2.2.2.2.1 = e) (h2 : @Eq Int t.2.2.2.2.2.2.2 0) (h3 : t.1 ∈ dS s l e []) : SF (b, l, s, e, L, T, C, t :: ts, ()) = true /\ TJ (b, l, s, e, L, T, C, t :: ts, ()) = true := by
  obtain ⟨o1, o2, o3, o4, -⟩ := options s l e [] hb hs hl (by simp) hv
  have hh := YJ (dS s l e []) t.1 (by omega)
  have ha : ((dS s l e []).any fun x => x == t.1) = true := List.any_eq_true.2 ⟨t.1, h3, beq_self_eq_true _⟩
  have h2' : (t.2.2.2.2.2.2.2 == (0 : Int)) = true := by rw [h2]; rfl
  have key : Fs (b, l, s, e, L, T, C, t :: ts, ()) some = some true := by
    unfold Fs
    dsimp only
    have hp : (0 : Int) < (((t :: ts).length : Nat) : Int) := by rw [List.length_cons]; omega
    rw [o2, o3]
    simp only [if_pos hp, List.getElem?_cons_zero, ay]
    subst h1
    rw [h2', hh.1, hh.2, ha]
    simp only [beq_self_eq_true, Bool.and_true, cond_true]
  unfold SF TJ
  rw [key]
  exact ⟨rfl, rfl⟩
theorem law (a0 : List (Ty.T (.int .u8))) (w0 : Ty.ok (.sl 5 (.int .u8)) a0) : d9 a0 = true /\ v9 a0 = true := by
  unfold d9 v9
  cases hb : v28 a0 with
  | true => exact ⟨rfl, rfl⟩
  | false =>
    have hl : a0.length <= 1048576 := by
      have : ¬ ((a0.length : Int) > 1048576) := of_decide_eq_false hb
      omega
    obtain ⟨n1, n2⟩ := aiC a0 (by omega)
    have z := QP n2
    have u := PK n2
    obtain ⟨⟨s, l, e, c, cs⟩, hq⟩ : ∃ q, dx (cO a0) = q := ⟨_, rfl⟩
    rw [hq] at u
    obtain ⟨⟨u1, u2⟩, u3, u4, u5⟩ := u
    dsimp only at u1 u2 u3 u4 u5
    have g1 : s.1.length <= 1048576 := by omega
    have g2 : s.2.1.length <= 1048576 := by omega
    have g3 : l.length <= 1048576 := Nat.le_trans u3.1 (by decide)
    have g4 : ∀ x ∈ l, x.2.2.2.2.2.2.1.2.2.2.2.2.2.length <= 1048576 := fun x hx => Nat.le_trans (u3.2 x hx).2.2.2.2.2.2.1.2.2.2.2.2.2.1 (by decide)
    have g5 : cs.length <= 1048576 := by omega
    obtain ⟨r1, r2, r3, r4, r5, r6, r7, r8, r9, r10⟩ := rewrite s l e cs g1 g2 g3 g4 g5
    obtain ⟨⟨b1, b2, b3⟩, ha, hnil, hcons⟩ := U9 s l e cs g1 g2 g3 g4 g5
    have hcn := tO l 0 (by omega)
    have e1 : d41 a0 = true /\ v41 a0 = (s, l, e, cs) := by
      simp only [d41, v41, t41, n1, z, hq, cond_true, Option.isSome_some, Option.getD_some]
      exact ⟨trivial, trivial⟩
    obtain ⟨⟨L, T, C, U⟩, hM⟩ : ∃ q, rwM s l e cs = q := ⟨_, rfl⟩
    rw [hM] at r4 r6 b1 b2 b3 ha hnil hcons
    dsimp only at r6 b1 b2 b3 ha hnil hcons
    obtain ⟨xd, xo⟩ := drC a0 n2 n1
    obtain ⟨yd, yo⟩ := drN a0 n2 n1
    obtain ⟨ud, uo⟩ := drU a0 n2 n1
    obtain ⟨zd, zo⟩ := drL a0 n2 n1
    have fo : jo (L, T, C, U) := ⟨by show L.length <= _; omega, by show U.length <= _; omega, fun t ht => by have := b3 t ht; omega⟩
    have q0 := p90 false l (v64 a0).1 s e L (v61 a0).1 (v62 a0).1 (v63 a0) (v64 a0).2.1 T (v61 a0).2.1 (v62 a0).2.1 (v64 a0).2.2.1 C (v61 a0).2.2.1 (v62 a0).2.2.1 (v64 a0).2.2.2.1 U (v61 a0).2.2.2 (v62 a0).2.2.2 (v64 a0).2.2.2.2 xo yo zo fo uo g3 b3 r6
    obtain ⟨k0, k1, kw⟩ := p91 l s e L T C U g3 g4 ha
    have E2 : en a0 = (false, l, (l.length : Int), s, e, L, T, C, U, ()) := by unfold en; rw [e1.2]; dsimp only; rw [r4]; exact kw
    have E3 : NR a0 = false := by unfold NR; rw [e1.2]; dsimp only; rw [r4]; exact k0
    have E4 : N2 a0 = true := by unfold N2; rw [e1.2]; dsimp only; rw [r4]; exact k1
    have E5 : Qg a0 = true := by unfold Qg; rw [e1.2]; dsimp only; rw [r4]; exact q0.1
    have E6 : Qr a0 = false := by unfold Qr; rw [e1.2]; dsimp only; rw [r4]; exact q0.2
    rw [E3, E4, E5, E6, E2, e1.1, e1.2, xd, yd, ud, zd]
    dsimp only
    rw [r2]
    cases U with
    | nil =>
      have hT : T = l := hnil rfl
      have tr := Wv l g3 g4
      rw [hT, tr.1, tr.2]
      exact ⟨rfl, rfl⟩
    | cons t ts =>
      obtain ⟨h1, h2, h3⟩ := hcons t ts rfl
      have q2 := p92 false l s e L T C t ts g1 g2 g3 g4 h1 h2 h3
      have E7 : QN a0 = true := by unfold QN; rw [E2]; exact q2.1
      have E8 : TE a0 = true := by unfold TE; rw [E2]; exact q2.2
      have hz : ((((t :: ts).length : Nat) : Int) == (0 : Int)) = false := by
        rw [List.length_cons]
        exact beq_eq_false_iff_ne.2 (by omega)
      rw [E7, E8, hz]
      exact ⟨rfl, rfl⟩
end Go.Proofs.YtahlaccdpmddbaaGreat.Vm
namespace Go.Proofs.YtahlaccdpmddbaaGreat.Pure
open Go Go.Proofs.YtahlaccdpmddbaaGreat.Lib Go.Proofs.YtahlaccdpmddbaaGreat.Vm
theorem fnUsed : Go.Proofs.YtahlaccdpmddbaaGreat.fnUsed.Pure := fun a0 w0 => by
  have h := law a0 w0
  show cond (d9 a0) (some (f9 (v9 a0))) none = _
  rw [h.1, h.2]
  rfl
end Go.Proofs.YtahlaccdpmddbaaGreat.Pure
