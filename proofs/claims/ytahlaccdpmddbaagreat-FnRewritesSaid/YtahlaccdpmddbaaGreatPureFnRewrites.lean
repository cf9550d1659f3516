/- FnRewrites: the law holds of the plain functions that the contracts name. No condition. -/
import Derived.Test.YtahlaccdpmddbaaGreatVmRowFnRewrites
import Derived.Test.YtahlaccdpmddbaaGreatVmLibThree
namespace Go.Proofs.YtahlaccdpmddbaaGreat.Vm
open Go Go.Proofs.YtahlaccdpmddbaaGreat.Lib
set_option maxRecDepth 100000
set_option linter.unusedVariables false
set_option linter.unusedSimpArgs false
theorem abS (a : Int) (b : Int) (c : Int) (d : Int) (n : Int) (z : Int) (t : Bool) : v53 ((a, b, c, d, n, z, t) : Ty.T y27) = cu ((a, b, c, d, n, z, t) : Ty.T y27) := by
 simp only [v53, t53, cu, t157, bj, cw, pE, lb, eK, mu, qN, wi]
 dsimp only [Ty.T]
 have cc : ∀ (p q r : Bool), cond p q r = true ↔ (p = true /\ q = true) ∨ (p = false /\ r = true) := by decide
 have cf : ∀ (p q r : Bool), cond p q r = false ↔ (p = true /\ q = false) ∨ (p = false /\ r = false) := by decide
 by_cases h1 : a = 1
 ·subst h1; rw [Bool.eq_iff_iff]; cases t <;> simp [cc, cf, *] <;> omega
 by_cases h2 : a = 2
 ·subst h2; rw [Bool.eq_iff_iff]; cases t <;> simp [cc, cf, *] <;> omega
 by_cases h3 : a = 3
 ·subst h3; rw [Bool.eq_iff_iff]; cases t <;> simp [cc, cf, *] <;> omega
 by_cases h4 : a = 4
 ·subst h4; rw [Bool.eq_iff_iff]; cases t <;> simp [cc, cf, *] <;> omega
 by_cases h5 : a = 5
 ·subst h5; rw [Bool.eq_iff_iff]; cases t <;> simp [cc, cf, *] <;> omega
 by_cases h6 : a = 6
 ·subst h6; rw [Bool.eq_iff_iff]; cases t <;> simp [cc, cf, *] <;> omega
 rw [Bool.eq_iff_iff]; cases t <;> simp [cc, cf, *] <;> omega
theorem Al (e : Ty.T y27) : v53 e = cu e := by
 obtain ⟨a, b, c, d, n, z, t⟩ := e
 exact abS a b c d n z t
theorem ZD (a b c d z : Int) (t : Bool) : cu ((a, b, c, d, -1, z, t) : Ty.T y27) = false := by
 simp only [cu, t157, bj]
 dsimp only [Ty.T]
 have cc : ∀ (p q r : Bool), cond p q r = true ↔ (p = true /\ q = true) ∨ (p = false /\ r = true) := by decide
 have cf : ∀ (p q r : Bool), cond p q r = false ↔ (p = true /\ q = false) ∨ (p = false /\ r = false) := by decide
 cases t <;> simp [cc, cf]
theorem Wj (e : Ty.T y27) : Mf e = mz e := by
 obtain ⟨a, b, c, d, n, z, t⟩ := e
 have h := ZD a b c d z t
 simp only [Mf, mz, Al]
 by_cases hn : n = (-1 : Int)
 ·subst hn
  rw [h]
  cases (a == (2 : Int)) <;> simp [bne, *]
 ·have h1 : (n == (-1 : Int)) = false := by simpa using hn
  simp only [h1]
  cases (cu (a, b, c, d, n, z, t)) <;> cases (a == (2 : Int)) <;> simp [bne, *]
theorem Xd (k : Int) (w : Int) (s : Int) (p : Int) (l : Int) (t : Int) (z : Int) : xK ((k, w, s, p, l, t, z) : Ty.T bT) = wg ((k, w, s, p, l, t, z) : Ty.T bT) := by
 simp only [xK, t283, wg, t297, bj, cw, pE, MW, MD]
 dsimp only [Ty.T]
 have cc : ∀ (p q r : Bool), cond p q r = true ↔ (p = true /\ q = true) ∨ (p = false /\ r = true) := by decide
 have cf : ∀ (p q r : Bool), cond p q r = false ↔ (p = true /\ q = false) ∨ (p = false /\ r = false) := by decide
 by_cases h1 : k = 1
 ·subst h1; rw [Bool.eq_iff_iff]; simp [cc, cf, *] <;> omega
 by_cases h2 : k = 2
 ·subst h2; rw [Bool.eq_iff_iff]; simp [cc, cf, *] <;> omega
 by_cases h3 : k = 3
 ·subst h3; rw [Bool.eq_iff_iff]; simp [cc, cf, *] <;> omega
 by_cases h4 : k = 4
 ·subst h4; rw [Bool.eq_iff_iff]; simp [cc, cf, *] <;> omega
 by_cases h5 : k = 5
 ·subst h5; rw [Bool.eq_iff_iff]; simp [cc, cf, *] <;> omega
 by_cases h6 : k = 6
 ·subst h6; rw [Bool.eq_iff_iff]; simp [cc, cf, *] <;> omega
 rw [Bool.eq_iff_iff]; simp [cc, cf, *] <;> omega
theorem VR (e : Ty.T bT) : xK e = wg e := by
 obtain ⟨k, w, s, p, l, t, z⟩ := e
 exact Xd k w s p l t z
theorem OE (k : Int) (n : Int) : zm ((k, n) : Ty.T aT) = xG ((k, n) : Ty.T aT) := by
 simp only [zm, t284, xG, t298, bj, cw, fG]
 dsimp only [Ty.T]
 have cc : ∀ (p q r : Bool), cond p q r = true ↔ (p = true /\ q = true) ∨ (p = false /\ r = true) := by decide
 have cf : ∀ (p q r : Bool), cond p q r = false ↔ (p = true /\ q = false) ∨ (p = false /\ r = false) := by decide
 by_cases h0 : k = 0
 ·subst h0; rw [Bool.eq_iff_iff]; simp [cc, cf, *] <;> omega
 by_cases h1 : k = 1
 ·subst h1; rw [Bool.eq_iff_iff]; simp [cc, cf, *] <;> omega
 by_cases h2 : k = 2
 ·subst h2; rw [Bool.eq_iff_iff]; simp [cc, cf, *] <;> omega
 by_cases h3 : k = 3
 ·subst h3; rw [Bool.eq_iff_iff]; simp [cc, cf, *] <;> omega
 by_cases h4 : k = 4
 ·subst h4; rw [Bool.eq_iff_iff]; simp [cc, cf, *] <;> omega
 by_cases h5 : k = 5
 ·subst h5; rw [Bool.eq_iff_iff]; simp [cc, cf, *] <;> omega
 rw [Bool.eq_iff_iff]; simp [cc, cf, *] <;> omega
theorem K0 (e : Ty.T aT) : zm e = xG e := by
 obtain ⟨k, n⟩ := e
 exact OE k n
theorem UW (a : Ty.T bm) (hb : a.2.2.2.2.2.2.length <= 1048576) : (a.2.2.2.2.2.2.any (fun x => !mz x) = true /\ yg false 0 a 0 = true /\ ∃ j : Nat, Ad false 0 a = (false, (j : Int), a, ())) ∨ (a.2.2.2.2.2.2.any (fun x => !mz x) = false /\ yg false 0 a 0 = false /\ yg false 0 a 1 = true /\ Ad false 0 a = (false, (a.2.2.2.2.2.2.length : Int), a, ())) := by
 have h := dp (s := tc) (mk := fun i => (false, i, a, ())) (fin := fun i => (false, (i : Int), a, ())) (p := fun i => match a.2.2.2.2.2.2[i]? with | some x => !mz x | none => false) (N := a.2.2.2.2.2.2.length) (fun i hi => by
  have h1 := List.getElem?_eq_getElem hi
  simp only [h1]
  skip
  cases ht : (mz a.2.2.2.2.2.2[i] : Bool) <;> simp [tc, tj, aA, hi, h1, ht,  aX (n := i) (by omega)]) (by simp [tc, tj]) a.2.2.2.2.2.2.length 0 (xr (false, 0, a, ())) (by omega) (by simp only [xr]; omega)
 have hf := fS (p := fun x => !mz x) (xs := a.2.2.2.2.2.2) (q := fun i => match a.2.2.2.2.2.2[i]? with | some x => !mz x | none => false) (fun i x h1 => by simp only [h1])
 revert h hf
 generalize first _ 0 a.2.2.2.2.2.2.length = o
 intro h hf
 cases o with
 | none => exact .inr ⟨hf.symm, aS h 0, aS h 1, bp h⟩
 | some j => exact .inl ⟨hf.symm, aS h 0, j, bp h⟩
theorem Rd (l : List (Ty.T y27)) (hb : l.length <= 1048576) : (l.any (fun x => !mz x) = true /\ fE l 0 ((l).length : Int) 0 0 = true /\ ∃ j : Nat, ru l 0 ((l).length : Int) 0 = (l, (j : Int), ((l).length : Int), (j : Int), ())) ∨ (l.any (fun x => !mz x) = false /\ fE l 0 ((l).length : Int) 0 0 = false /\ fE l 0 ((l).length : Int) 0 1 = true /\ ru l 0 ((l).length : Int) 0 = (l, 0, ((l).length : Int), (l.length : Int), ())) := by
 have h := dp (s := lh) (mk := fun i => (l, 0, ((l).length : Int), i, ())) (fin := fun i => (l, (i : Int), ((l).length : Int), (i : Int), ())) (p := fun i => match l[i]? with | some x => !mz x | none => false) (N := l.length) (fun i hi => by
  have h1 := List.getElem?_eq_getElem hi
  simp only [h1]
  skip
  cases ht : (mz l[i] : Bool) <;> simp [lh, kT, aA, hi, h1, ht, Tv, Wj, aX (n := i) (by omega)]) (by simp [lh, kT]) l.length 0 (mJ (l, 0, ((l).length : Int), 0, ())) (by omega) (by simp only [mJ]; omega)
 have hf := fS (p := fun x => !mz x) (xs := l) (q := fun i => match l[i]? with | some x => !mz x | none => false) (fun i x h1 => by simp only [h1])
 revert h hf
 generalize first _ 0 l.length = o
 intro h hf
 cases o with
 | none => exact .inr ⟨hf.symm, aS h 0, aS h 1, bp h⟩
 | some j => exact .inl ⟨hf.symm, aS h 0, j, bp h⟩
theorem Tq (l : List (Ty.T y27)) (hb : l.length <= 1048576) : xZ l = true /\ yy l = l.any (fun x => !mz x) := by
 unfold xZ yy tK zq
 rcases Rd l hb with ⟨hB, e0, j, hw⟩ | ⟨hB, e0, e1, hw⟩
 ·rw [e0, hw, hB]
  exact ⟨rfl, decide_eq_true (show ((j : Int)) ≥ 0 by omega)⟩
 ·rw [e0, e1, hB]
  exact ⟨rfl, rfl⟩
theorem NZ (k n p s z kind : Int) (b : Bool) (l : List (Ty.T y27)) : CQ ((k, n, p, s, z, b, l) : Ty.T bm) kind = mB ((k, n, p, s, z, b, l) : Ty.T bm) kind := by
 simp only [CQ, t286, mB, t271, bj, cw, MW]
 dsimp only [Ty.T]
 have cc : ∀ (p q r : Bool), cond p q r = true ↔ (p = true /\ q = true) ∨ (p = false /\ r = true) := by decide
 have cf : ∀ (p q r : Bool), cond p q r = false ↔ (p = true /\ q = false) ∨ (p = false /\ r = false) := by decide
 by_cases h1 : k = 1
 ·subst h1; rw [Bool.eq_iff_iff]; simp [cc, cf] <;> omega
 by_cases h2 : k = 2
 ·subst h2; rw [Bool.eq_iff_iff]; simp [cc, cf] <;> omega
 by_cases h3 : k = 3
 ·subst h3; rw [Bool.eq_iff_iff]; simp [cc, cf] <;> omega
 by_cases h4 : k = 4
 ·subst h4; rw [Bool.eq_iff_iff]; simp [cc, cf] <;> omega
 by_cases h5 : k = 5
 ·subst h5; rw [Bool.eq_iff_iff]; simp [cc, cf] <;> omega
 by_cases h6 : k = 6
 ·subst h6; rw [Bool.eq_iff_iff]; simp [cc, cf] <;> omega
 by_cases h7 : k = 7
 ·subst h7; rw [Bool.eq_iff_iff]; simp [cc, cf] <;> omega
 by_cases h8 : k = 8
 ·subst h8; rw [Bool.eq_iff_iff]; simp [cc, cf] <;> omega
 by_cases h9 : k = 9
 ·subst h9; rw [Bool.eq_iff_iff]; simp [cc, cf] <;> omega
 rw [Bool.eq_iff_iff]; simp [cc, cf, *] <;> omega
theorem LQ (a : Ty.T bm) (kind : Int) : CQ a kind = mB a kind := by
 obtain ⟨k, n, p, s, z, b, l⟩ := a
 exact NZ k n p s z kind b l
theorem W1 (k n p s z : Int) (b : Bool) (l : List (Ty.T y27)) (hb : l.length <= 1048576) : d299 ((k, n, p, s, z, b, l) : Ty.T bm) = true /\ d285 ((k, n, p, s, z, b, l) : Ty.T bm) = true /\ tx ((k, n, p, s, z, b, l) : Ty.T bm) = Ak ((k, n, p, s, z, b, l) : Ty.T bm) := by
 have hi := Tq l hb
 have hs := UW ((k, n, p, s, z, b, l) : Ty.T bm) hb
 dsimp only at hs
 have cc : ∀ (p q r : Bool), cond p q r = true ↔ (p = true /\ q = true) ∨ (p = false /\ r = true) := by decide
 have cf : ∀ (p q r : Bool), cond p q r = false ↔ (p = true /\ q = false) ∨ (p = false /\ r = false) := by decide
 rcases hs with ⟨hB, e0, j, hw⟩ | ⟨hB, e0, e1, hw⟩
 ·simp only [d299, t299, d285, t285, Ak, tx, CN, uE, DF, vh, Dh, uk, Du, vf, CC, u9, Cr, tH, Dl, s7, Cn, tk, xo, qd, Eu, tF, zR, nX, xO, id, nfs, MV, bj, cw, lb, mu, wi, hi.1, hi.2, hB, e0, hw]
  dsimp only [Ty.T]
  have hl : 0 <= (List.length (α := Ty.T y27) l : Int) := by omega
  generalize (List.length (α := Ty.T y27) l : Int) = m at hl
  by_cases h1 : k = 1
  ·subst h1; refine ⟨by simp, by simp, ?_⟩; rw [Bool.eq_iff_iff]; cases b <;> simp [cc, cf, *] <;> omega
  by_cases h2 : k = 2
  ·subst h2; refine ⟨by simp, by simp, ?_⟩; rw [Bool.eq_iff_iff]; cases b <;> simp [cc, cf, *] <;> omega
  by_cases h3 : k = 3
  ·subst h3; refine ⟨by simp, by simp, ?_⟩; rw [Bool.eq_iff_iff]; cases b <;> simp [cc, cf, *] <;> omega
  by_cases h4 : k = 4
  ·subst h4; refine ⟨by simp, by simp, ?_⟩; rw [Bool.eq_iff_iff]; cases b <;> simp [cc, cf, *] <;> omega
  by_cases h5 : k = 5
  ·subst h5; refine ⟨by simp, by simp, ?_⟩; rw [Bool.eq_iff_iff]; cases b <;> simp [cc, cf, *] <;> omega
  by_cases h6 : k = 6
  ·subst h6; refine ⟨by simp, by simp, ?_⟩; rw [Bool.eq_iff_iff]; cases b <;> simp [cc, cf, *] <;> omega
  by_cases h7 : k = 7
  ·subst h7; refine ⟨by simp, by simp, ?_⟩; rw [Bool.eq_iff_iff]; cases b <;> simp [cc, cf, *] <;> omega
  by_cases h8 : k = 8
  ·subst h8; refine ⟨by simp, by simp, ?_⟩; rw [Bool.eq_iff_iff]; cases b <;> simp [cc, cf, *] <;> omega
  by_cases h9 : k = 9
  ·subst h9; refine ⟨by simp, by simp, ?_⟩; rw [Bool.eq_iff_iff]; cases b <;> simp [cc, cf, *] <;> omega
  refine ⟨by simp [*], by simp [*], ?_⟩; rw [Bool.eq_iff_iff]; cases b <;> simp [cc, cf, *] <;> omega
 ·simp only [d299, t299, d285, t285, Ak, tx, CN, uE, DF, vh, Dh, uk, Du, vf, CC, u9, Cr, tH, Dl, s7, Cn, tk, xo, qd, Eu, tF, zR, nX, xO, id, nfs, MV, bj, cw, lb, mu, wi, hi.1, hi.2, hB, e0, e1, hw]
  dsimp only [Ty.T]
  have hl : 0 <= (List.length (α := Ty.T y27) l : Int) := by omega
  generalize (List.length (α := Ty.T y27) l : Int) = m at hl
  by_cases h1 : k = 1
  ·subst h1; refine ⟨by simp, by simp, ?_⟩; rw [Bool.eq_iff_iff]; cases b <;> simp [cc, cf, *] <;> omega
  by_cases h2 : k = 2
  ·subst h2; refine ⟨by simp, by simp, ?_⟩; rw [Bool.eq_iff_iff]; cases b <;> simp [cc, cf, *] <;> omega
  by_cases h3 : k = 3
  ·subst h3; refine ⟨by simp, by simp, ?_⟩; rw [Bool.eq_iff_iff]; cases b <;> simp [cc, cf, *] <;> omega
  by_cases h4 : k = 4
  ·subst h4; refine ⟨by simp, by simp, ?_⟩; rw [Bool.eq_iff_iff]; cases b <;> simp [cc, cf, *] <;> omega
  by_cases h5 : k = 5
  ·subst h5; refine ⟨by simp, by simp, ?_⟩; rw [Bool.eq_iff_iff]; cases b <;> simp [cc, cf, *] <;> omega
  by_cases h6 : k = 6
  ·subst h6; refine ⟨by simp, by simp, ?_⟩; rw [Bool.eq_iff_iff]; cases b <;> simp [cc, cf, *] <;> omega
  by_cases h7 : k = 7
  ·subst h7; refine ⟨by simp, by simp, ?_⟩; rw [Bool.eq_iff_iff]; cases b <;> simp [cc, cf, *] <;> omega
  by_cases h8 : k = 8
  ·subst h8; refine ⟨by simp, by simp, ?_⟩; rw [Bool.eq_iff_iff]; cases b <;> simp [cc, cf, *] <;> omega
  by_cases h9 : k = 9
  ·subst h9; refine ⟨by simp, by simp, ?_⟩; rw [Bool.eq_iff_iff]; cases b <;> simp [cc, cf, *] <;> omega
  refine ⟨by simp [*], by simp [*], ?_⟩; rw [Bool.eq_iff_iff]; cases b <;> simp [cc, cf, *] <;> omega
theorem VS (a : Ty.T bm) (hb : a.2.2.2.2.2.2.length <= 1048576) : d299 a = true /\ d285 a = true /\ tx a = Ak a := by
 obtain ⟨k, n, p, s, z, b, l⟩ := a
 exact W1 k n p s z b l hb
theorem Ng (i1 i2 i3 i4 : Int) (p : Ty.T bT) (g : Ty.T aT) (a : Ty.T bm) (u l : Int) (hb : a.2.2.2.2.2.2.length <= 1048576) : d242 ((i1, i2, i3, i4, p, g, a, u, l) : Ty.T ab) = true /\ d227 ((i1, i2, i3, i4, p, g, a, u, l) : Ty.T ab) = true /\ Am ((i1, i2, i3, i4, p, g, a, u, l) : Ty.T ab) = eg ((i1, i2, i3, i4, p, g, a, u, l) : Ty.T ab) := by
 have ha := VS a hb
 simp only [d242, t242, d227, t227, eg, Am, bj, cw, lb, mu, VR, K0, LQ, ha.1, ha.2.1, ha.2.2, nfs]
 generalize wg p = b1
 generalize xG g = b2
 generalize mB a p.1 = b3
 generalize Ak a = b4
 generalize (a.1 == (2 : Int)) = b5
 dsimp only [Ty.T]
 have cc : ∀ (p q r : Bool), cond p q r = true ↔ (p = true /\ q = true) ∨ (p = false /\ r = true) := by decide
 have cf : ∀ (p q r : Bool), cond p q r = false ↔ (p = true /\ q = false) ∨ (p = false /\ r = false) := by decide
 cases b5
 ·cases b1 <;> cases b2 <;> cases b3 <;> cases b4 <;> (refine ⟨by simp, by simp, ?_⟩; rw [Bool.eq_iff_iff]; simp [cc, cf] <;> omega)
 ·cases b1 <;> cases b2 <;> cases b3 <;> cases b4 <;> (refine ⟨by simp, by simp, ?_⟩; rw [Bool.eq_iff_iff]; simp [cc, cf] <;> omega)
theorem gw (e : Ty.T ab) (hb : e.2.2.2.2.2.2.1.2.2.2.2.2.2.length <= 1048576) : d242 e = true /\ d227 e = true /\ Am e = eg e := by
 obtain ⟨i1, i2, i3, i4, p, g, a, u, l⟩ := e
 exact Ng i1 i2 i3 i4 p g a u l hb
theorem zB {V W : Type} {s1 : V -> Option (Nat × V)} {s2 : W -> Option (Nat × W)} {mk1 : Int -> V} {mk2 : Int -> W} {fin1 : Nat -> V} {fin2 : Nat -> W} {N : Nat}
  (h : ∀ i : Nat, i < N -> (s1 (mk1 (i : Int)) = some (0, mk1 ((i + 1 : Nat) : Int)) /\ s2 (mk2 (i : Int)) = some (0, mk2 ((i + 1 : Nat) : Int))) ∨ (s1 (mk1 (i : Int)) = some (1, fin1 i) /\ s2 (mk2 (i : Int)) = some (1, fin2 i)))
  (e1 : s1 (mk1 (N : Int)) = some (2, mk1 (N : Int))) (e2 : s2 (mk2 (N : Int)) = some (2, mk2 (N : Int))) : ∀ (k i n m : Nat), i + k = N -> k < n -> k < m ->
  (∃ j, iter s1 n (mk1 (i : Int)) = some (0, fin1 j) /\ iter s2 m (mk2 (i : Int)) = some (0, fin2 j)) ∨ (iter s1 n (mk1 (i : Int)) = some (1, mk1 (N : Int)) /\ iter s2 m (mk2 (i : Int)) = some (1, mk2 (N : Int)))
 | 0, i, n, m, hk, hn, hm => by
  obtain ⟨n, rfl⟩ : ∃ x, n = x + 1 := ⟨n - 1, by omega⟩
  obtain ⟨m, rfl⟩ : ∃ x, m = x + 1 := ⟨m - 1, by omega⟩
  have : i = N := by omega
  subst this
  exact .inr ⟨by rw [iter, e1]; rfl, by rw [iter, e2]; rfl⟩
 | k + 1, i, n, m, hk, hn, hm => by
  obtain ⟨n, rfl⟩ : ∃ x, n = x + 1 := ⟨n - 1, by omega⟩
  obtain ⟨m, rfl⟩ : ∃ x, m = x + 1 := ⟨m - 1, by omega⟩
  rcases h i (by omega) with ⟨a, b⟩ | ⟨a, b⟩
  ·rw [iter, a, iter, b]
   exact zB h e1 e2 k (i + 1) n m (by omega) (by omega) (by omega)
  ·exact .inl ⟨i, by rw [iter, a]; rfl, by rw [iter, b]; rfl⟩
theorem lj (j : Nat) (h : (j : Int) <= 9223372036854775806) : IntKind.wrap .i64 (((j + 1 : Nat) : Int) - 1) = (j : Int) := by rw [bR (by omega) (by omega)]; omega
theorem OC (a : Int) (b : Int) (c : Int) (d : Int) (e : Int) (f : Int) (g : Int) (h : Int) (p : Int) (q : Int) (r : Int) (s : Bool) (t : Bool) : Ps ((a, b, c, d, e, f, g, h, p, q, r, s, t) : Ty.T y63) = my ((a, b, c, d, e, f, g, h, p, q, r, s, t) : Ty.T y63) := by
 simp only [Ps, t170, my, t240, bj, cw, lb, mu, wi, Mp, MD, pE]
 dsimp only [Ty.T]
 have cc : ∀ (p q r : Bool), cond p q r = true ↔ (p = true /\ q = true) ∨ (p = false /\ r = true) := by decide
 have cf : ∀ (p q r : Bool), cond p q r = false ↔ (p = true /\ q = false) ∨ (p = false /\ r = false) := by decide
 rw [Bool.eq_iff_iff]; cases s <;> cases t <;> simp [cc, cf, *] <;> omega
theorem D3 (e : Ty.T y63) : Ps e = my e := by
 obtain ⟨a, b, c, d, e, f, g, h, p, q, r, s, t⟩ := e
 exact OC a b c d e f g h p q r s t
theorem Pc (p : Ty.T y63) (h : my p = true) : (0 : Int) <= p.2.1 /\ (0 : Int) <= p.2.2.1 := by
 simp only [my, t240, bj] at h
 have cc : ∀ (p q r : Bool), cond p q r = true ↔ (p = true /\ q = true) ∨ (p = false /\ r = true) := by decide
 have cf : ∀ (p q r : Bool), cond p q r = false ↔ (p = true /\ q = false) ∨ (p = false /\ r = false) := by decide
 simp [cc, cf] at h
 dsimp only [Ty.T] at h ⊢
 omega
theorem Vp (x m : Int) (hx : 0 <= x) (hm : 0 <= m) (hm2 : m <= 1048576) : cw x 0 (IntKind.wrap .i64 (m - 1)) = !decide (x ≥ m) := by
 rw [bR (by omega) (by omega)]
 simp only [cw]
 rw [Bool.eq_iff_iff]
 have cc : ∀ (p q r : Bool), cond p q r = true ↔ (p = true /\ q = true) ∨ (p = false /\ r = true) := by decide
 have cf : ∀ (p q r : Bool), cond p q r = false ↔ (p = true /\ q = false) ∨ (p = false /\ r = false) := by decide
 simp [cc, cf]
 omega
theorem SY (a : Ty.T y36) (hb : a.1.length <= 1048576) (hl : a.2.1.length <= 1048576) : (∃ j : Nat, iter gP (oU (false, 0, a, ())) (false, 0, a, ()) = some (0, (false, (j : Int), a, ())) /\ iter pU (BF (false, a.1, ((a.1).length : Int), 0, a, ())) (false, a.1, ((a.1).length : Int), 0, a, ()) = some (0, (false, a.1, ((a.1).length : Int), (j : Int), a, ()))) ∨ (iter gP (oU (false, 0, a, ())) (false, 0, a, ()) = some (1, (false, (a.1.length : Int), a, ())) /\ iter pU (BF (false, a.1, ((a.1).length : Int), 0, a, ())) (false, a.1, ((a.1).length : Int), 0, a, ()) = some (1, (false, a.1, ((a.1).length : Int), (a.1.length : Int), a, ()))) := by
 refine zB (s1 := gP) (s2 := pU) (mk1 := fun i => (false, i, a, ())) (mk2 := fun i => (false, a.1, ((a.1).length : Int), i, a, ())) (fin1 := fun i => (false, (i : Int), a, ())) (fin2 := fun i => (false, a.1, ((a.1).length : Int), (i : Int), a, ())) (N := a.1.length) (fun i hi => ?_) (by simp [gP, lL]) (by simp [pU, vL]) a.1.length 0 _ _ (by omega) (by simp only [oU]; omega) (by simp only [BF]; omega)
 have h1 : a.1[i]? = some a.1[i] := List.getElem?_eq_getElem hi
 have h3 : (i : Int) < (a.1.length : Int) := by omega
 generalize a.1[i] = p at h1
 cases hp : my p with
 | false =>
  refine .inr ⟨?_, ?_⟩
  ·simp only [gP, lL, decide_eq_true h3, cond_true, if_pos (show (0 : Int) <= (i : Int) by omega), Int.toNat_natCast, h1, aA, hp, Bool.not_false]
  ·simp only [pU, vL, decide_eq_true h3, cond_true, if_pos (show (0 : Int) <= (i : Int) by omega), Int.toNat_natCast, h1, aA, D3, hp, Bool.not_false]
 | true =>
  have hlow := Pc p hp
  have hs1 := Vp p.2.1 (a.2.1.length : Int) hlow.1 (by omega) (by omega)
  have hs2 := Vp p.2.2.1 (a.2.1.length : Int) hlow.2 (by omega) (by omega)
  have hw := aX (n := i) (by omega)
  match i, hi, h1, h3, hw with
  | 0, hi, h1, h3, hw =>
   simp only [gP, lL, pU, vL, pF, decide_eq_true h3, cond_true, if_pos (show (0 : Int) <= ((0 : Nat) : Int) by omega), Int.toNat_natCast, h1, aA, D3, hp, Bool.not_true, cond_false, hs1, hs2, Bool.not_not, decide_eq_false (show ¬ ((0 : Nat) : Int) > 0 by omega), hw]
   cases decide (p.2.1 ≥ (a.2.1.length : Int)) <;> cases decide (p.2.2.1 ≥ (a.2.1.length : Int)) <;> cases decide (p.2.2.2.2.1 > a.2.2.2) <;> first | exact .inl ⟨rfl, rfl⟩ | exact .inr ⟨rfl, rfl⟩
  | j + 1, hi, h1, h3, hw =>
   have h2 : a.1[j]? = some a.1[j] := List.getElem?_eq_getElem (by omega)
   generalize a.1[j] = q at h2
   simp only [gP, lL, pU, vL, pF, decide_eq_true h3, cond_true, if_pos (show (0 : Int) <= ((j + 1 : Nat) : Int) by omega), Int.toNat_natCast, h1, h2, aA, D3, hp, Bool.not_true, cond_false, hs1, hs2, Bool.not_not, decide_eq_true (show ((j + 1 : Nat) : Int) > 0 by omega), lj j (by omega), if_pos (show (0 : Int) <= (j : Int) by omega), hw]
   cases decide (q.1 ≥ p.1) <;> cases decide (p.2.1 ≥ (a.2.1.length : Int)) <;> cases decide (p.2.2.1 ≥ (a.2.1.length : Int)) <;> cases decide (p.2.2.2.2.1 > a.2.2.2) <;> first | exact .inl ⟨rfl, rfl⟩ | exact .inr ⟨rfl, rfl⟩
theorem S6 (x y : Int) (t : Bool) : L7 ((x, y, t) : Ty.T bS) = !ly ((x, y, t) : Ty.T bS) := by
 simp only [L7, ly, bj, cw, fG, pE]
 try dsimp only [Ty.T]
 have cc : ∀ (p q r : Bool), cond p q r = true ↔ (p = true /\ q = true) ∨ (p = false /\ r = true) := by decide
 have cf : ∀ (p q r : Bool), cond p q r = false ↔ (p = true /\ q = false) ∨ (p = false /\ r = false) := by decide
 rw [Bool.eq_iff_iff]
 simp [cc, cf]
 omega
theorem WN (s : Ty.T bS) : L7 s = !ly s := S6 s.1 s.2.1 s.2.2
theorem Mg (a : Ty.T y36) (hb : a.2.1.length <= 1048576) : (a.2.1.any (fun x => !ly x) = true /\ zQ false 0 a 0 = true /\ ∃ j : Nat, JL false 0 a = (false, (j : Int), a, ())) ∨ (a.2.1.any (fun x => !ly x) = false /\ zQ false 0 a 0 = false /\ zQ false 0 a 1 = true /\ JL false 0 a = (false, (a.2.1.length : Int), a, ())) := by
 have h := dp (s := tf) (mk := fun i => (false, i, a, ())) (fin := fun i => (false, (i : Int), a, ())) (p := fun i => match a.2.1[i]? with | some x => !ly x | none => false) (N := a.2.1.length) (fun i hi => by
  have h1 := List.getElem?_eq_getElem hi
  simp only [h1]
  skip
  cases ht : (ly a.2.1[i] : Bool) <;> simp [tf, sV, aA, hi, h1, ht,  aX (n := i) (by omega)]) (by simp [tf, sV]) a.2.1.length 0 (zk (false, 0, a, ())) (by omega) (by simp only [zk]; omega)
 have hf := fS (p := fun x => !ly x) (xs := a.2.1) (q := fun i => match a.2.1[i]? with | some x => !ly x | none => false) (fun i x h1 => by simp only [h1])
 revert h hf
 generalize first _ 0 a.2.1.length = o
 intro h hf
 cases o with
 | none => exact .inr ⟨hf.symm, aS h 0, aS h 1, bp h⟩
 | some j => exact .inl ⟨hf.symm, aS h 0, j, bp h⟩
theorem I3 (l : List (Ty.T bS)) (hb : l.length <= 1048576) : (l.any (fun x => !ly x) = true /\ fo l 0 ((l).length : Int) 0 0 = true /\ ∃ j : Nat, rE l 0 ((l).length : Int) 0 = (l, (j : Int), ((l).length : Int), (j : Int), ())) ∨ (l.any (fun x => !ly x) = false /\ fo l 0 ((l).length : Int) 0 0 = false /\ fo l 0 ((l).length : Int) 0 1 = true /\ rE l 0 ((l).length : Int) 0 = (l, 0, ((l).length : Int), (l.length : Int), ())) := by
 have h := dp (s := kI) (mk := fun i => (l, 0, ((l).length : Int), i, ())) (fin := fun i => (l, (i : Int), ((l).length : Int), (i : Int), ())) (p := fun i => match l[i]? with | some x => !ly x | none => false) (N := l.length) (fun i hi => by
  have h1 := List.getElem?_eq_getElem hi
  simp only [h1]
  skip
  cases ht : (ly l[i] : Bool) <;> simp [kI, lu, aA, hi, h1, ht, WN, aX (n := i) (by omega)]) (by simp [kI, lu]) l.length 0 (mL (l, 0, ((l).length : Int), 0, ())) (by omega) (by simp only [mL]; omega)
 have hf := fS (p := fun x => !ly x) (xs := l) (q := fun i => match l[i]? with | some x => !ly x | none => false) (fun i x h1 => by simp only [h1])
 revert h hf
 generalize first _ 0 l.length = o
 intro h hf
 cases o with
 | none => exact .inr ⟨hf.symm, aS h 0, aS h 1, bp h⟩
 | some j => exact .inl ⟨hf.symm, aS h 0, j, bp h⟩
theorem Me (l : List (Ty.T bS)) (hb : l.length <= 1048576) : zw l = true /\ xa l = l.any (fun x => !ly x) := by
 unfold zw xa vj yF
 rcases I3 l hb with ⟨hB, e0, j, hw⟩ | ⟨hB, e0, e1, hw⟩
 ·rw [e0, hw, hB]
  exact ⟨rfl, decide_eq_true (show ((j : Int)) ≥ 0 by omega)⟩
 ·rw [e0, e1, hB]
  exact ⟨rfl, rfl⟩
theorem Ln (a : Ty.T y36) (hb : a.1.length <= 1048576) (hl : a.2.1.length <= 1048576) : d155 a = true /\ d56 a = true /\ v56 a = kj a := by
 have hi := Me a.2.1 hl
 unfold d155 d56 kj v56 t155 t56
 try simp only [nfs]
 simp only [pF, Mp, cw, bj]
 rcases SY a hb hl with ⟨j, x1, x2⟩ | ⟨x1, x2⟩
 ·have e0 : th false 0 a 0 = true := aS x1 0
  have f0 : FD false a.1 ((a.1).length : Int) 0 a 0 = true := aS x2 0
  have ew : kt false 0 a = _ := bp x1
  have fw : FL false a.1 ((a.1).length : Int) 0 a = _ := bp x2
  simp only [e0, f0, ew, fw]
  generalize decide ((a.1.length : Int) > (8 : Int)) = b1
  cases b1
  ·refine ⟨?_, ?_, ?_⟩ <;> simp
  ·exact ⟨rfl, rfl, rfl⟩
 ·have e0 : th false 0 a 0 = false := aS x1 0
  have e1 : th false 0 a 1 = true := aS x1 1
  have f0 : FD false a.1 ((a.1).length : Int) 0 a 0 = false := aS x2 0
  have f1 : FD false a.1 ((a.1).length : Int) 0 a 1 = true := aS x2 1
  have ew : kt false 0 a = _ := bp x1
  have fw : FL false a.1 ((a.1).length : Int) 0 a = _ := bp x2
  simp only [e0, e1, f0, f1, ew, fw, hi.1, hi.2]
  rcases Mg a hl with ⟨hB, y0, k, hw⟩ | ⟨hB, y0, y1, hw⟩
  ·simp only [y0, hw, hB]
   generalize decide ((a.1.length : Int) > (8 : Int)) = b1
   cases b1
   ·refine ⟨?_, ?_, ?_⟩ <;> simp
   ·exact ⟨rfl, rfl, rfl⟩
  ·simp only [y0, y1, hw, hB]
   generalize decide ((a.1.length : Int) > (8 : Int)) = b1
   cases b1
   ·refine ⟨?_, ?_, ?_⟩ <;> simp
   ·exact ⟨rfl, rfl, rfl⟩
theorem Ki (l : List (Ty.T ab)) (hb : l.length <= 1048576) (hv : ∀ x ∈ l, x.2.2.2.2.2.2.1.2.2.2.2.2.2.length <= 1048576) : (∃ j : Nat, iter fz (tg (l, false, 0, ())) (l, false, 0, ()) = some (0, (l, false, (j : Int), ())) /\ iter mc (uh (l, false, l, ((l).length : Int), 0, ())) (l, false, l, ((l).length : Int), 0, ()) = some (0, (l, false, l, ((l).length : Int), (j : Int), ()))) ∨ (iter fz (tg (l, false, 0, ())) (l, false, 0, ()) = some (1, (l, false, (l.length : Int), ())) /\ iter mc (uh (l, false, l, ((l).length : Int), 0, ())) (l, false, l, ((l).length : Int), 0, ()) = some (1, (l, false, l, ((l).length : Int), (l.length : Int), ()))) := by
 refine zB (s1 := fz) (s2 := mc) (mk1 := fun i => (l, false, i, ())) (mk2 := fun i => (l, false, l, ((l).length : Int), i, ())) (fin1 := fun i => (l, false, (i : Int), ())) (fin2 := fun i => (l, false, l, ((l).length : Int), (i : Int), ())) (N := l.length) (fun i hi => ?_) (by simp [fz, lS]) (by simp [mc, q5]) l.length 0 _ _ (by omega) (by simp only [tg]; omega) (by simp only [uh]; omega)
 have h1 : l[i]? = some l[i] := List.getElem?_eq_getElem hi
 have h3 : (i : Int) < (l.length : Int) := by omega
 have hq := gw l[i] (hv _ (List.getElem_mem hi))
 generalize l[i] = p at h1 hq
 have hw := aX (n := i) (by omega)
 match i, hi, h1, h3, hw with
 | 0, hi, h1, h3, hw =>
  simp only [fz, lS, mc, q5, decide_eq_true h3, cond_true, if_pos (show (0 : Int) <= ((0 : Nat) : Int) by omega), Int.toNat_natCast, h1, aA, hq.1, hq.2.1, hq.2.2, decide_eq_false (show ¬ ((0 : Nat) : Int) > 0 by omega), cond_false, hw]
  cases eg p <;> first | exact .inl ⟨rfl, rfl⟩ | exact .inr ⟨rfl, rfl⟩
 | j + 1, hi, h1, h3, hw =>
  have h2 : l[j]? = some l[j] := List.getElem?_eq_getElem (by omega)
  generalize l[j] = q at h2
  simp only [fz, lS, mc, q5, decide_eq_true h3, cond_true, if_pos (show (0 : Int) <= ((j + 1 : Nat) : Int) by omega), Int.toNat_natCast, h1, h2, aA, hq.1, hq.2.1, hq.2.2, decide_eq_true (show ((j + 1 : Nat) : Int) > 0 by omega), lj j (by omega), if_pos (show (0 : Int) <= (j : Int) by omega), hw]
  cases eg p <;> cases decide (q.1 ≥ p.1) <;> first | exact .inl ⟨rfl, rfl⟩ | exact .inr ⟨rfl, rfl⟩
theorem TQ (l : List (Ty.T ab)) (hb : l.length <= 1048576) (hv : ∀ x ∈ l, x.2.2.2.2.2.2.1.2.2.2.2.2.2.length <= 1048576) : d156 l = true /\ d136 l = true /\ Qq l = pD l := by
 unfold d156 d136 pD Qq
 rcases Ki l hb hv with ⟨j, x1, x2⟩ | ⟨x1, x2⟩
 ·have e0 : fL l false 0 0 = true := aS x1 0
  have f0 : l4 l false l ((l).length : Int) 0 0 = true := aS x2 0
  have ew : lB l false 0 = _ := bp x1
  have fw : s5 l false l ((l).length : Int) 0 = _ := bp x2
  simp only [e0, f0, ew, fw]
  first | exact ⟨rfl, rfl, rfl⟩ | simp
 ·have e0 : fL l false 0 0 = false := aS x1 0
  have e1 : fL l false 0 1 = true := aS x1 1
  have f0 : l4 l false l ((l).length : Int) 0 0 = false := aS x2 0
  have f1 : l4 l false l ((l).length : Int) 0 1 = true := aS x2 1
  have ew : lB l false 0 = _ := bp x1
  have fw : s5 l false l ((l).length : Int) 0 = _ := bp x2
  simp only [e0, e1, f0, f1, ew, fw]
  first | exact ⟨rfl, rfl, rfl⟩ | simp
theorem ads (u : List (Ty.T (.int .i64))) (n : Int) (hb : u.length <= 1048576) : d300 u n = true /\ Gv u n = (u.any fun x => x == n) := by
 have h := dp (s := vr) (mk := fun i => (u, n, false, i, ())) (fin := fun i => (u, n, true, (i : Int), ())) (p := fun i => match u[i]? with | some x => (x == n) | none => false) (N := u.length) (fun i hi => by
  have h1 := List.getElem?_eq_getElem hi
  simp only [h1]
  skip
  cases ht : ((u[i] : Int) == n) <;> simp [vr, uV, aA, hi, h1, ht,  aX (n := i) (by omega)]) (by simp [vr, uV]) u.length 0 (zf (u, n, false, 0, ())) (by omega) (by simp [zf]; omega)
 have hf := fS (p := fun x => (x == n)) (xs := u) (q := fun i => match u[i]? with | some x => (x == n) | none => false) (fun i x h1 => by simp only [h1])
 unfold d300 Gv
 revert h hf
 generalize first _ 0 u.length = o
 intro h hf
 cases o with
 | none =>
  have e0 : lR u n false 0 0 = false := aS h 0
  have e1 : lR u n false 0 1 = true := aS h 1
  rw [e0, e1, ← hf]
  exact ⟨rfl, rfl⟩
 | some j =>
  have e0 : lR u n false 0 0 = true := aS h 0
  have hw : JR u n false 0 = _ := bp h
  rw [e0, hw, ← hf]
  exact ⟨rfl, rfl⟩
theorem adQ (u : List (Ty.T (.int .i64))) (n : Int) (hb : u.length <= 1048576) : d252 u n = true /\ M8 u n = (match first (fun i => match u[i]? with | some x => (n == x) | none => false) 0 u.length with | some j => (j : Int) | none => -1) := by
 have h := dp (s := tT) (mk := fun i => (u, n, 0, ((u).length : Int), i, ())) (fin := fun i => (u, n, (i : Int), ((u).length : Int), (i : Int), ())) (p := fun i => match u[i]? with | some x => (n == x) | none => false) (N := u.length) (fun i hi => by
  have h1 := List.getElem?_eq_getElem hi
  simp only [h1]
  skip
  cases ht : ((n == (u[i] : Int)) : Bool) <;> simp [tT, vi, aA, hi, h1, ht,  aX (n := i) (by omega)]) (by simp [tT, vi]) u.length 0 (xu (u, n, 0, ((u).length : Int), 0, ())) (by omega) (by simp [xu]; omega)
 unfold d252 M8
 revert h
 generalize first _ 0 u.length = o
 intro h
 cases o with
 | none =>
  have e0 : mg u n 0 ((u).length : Int) 0 0 = false := aS h 0
  have e1 : mg u n 0 ((u).length : Int) 0 1 = true := aS h 1
  rw [e0, e1]
  exact ⟨rfl, rfl⟩
 | some j =>
  have e0 : mg u n 0 ((u).length : Int) 0 0 = true := aS h 0
  have hw : Im u n 0 ((u).length : Int) 0 = _ := bp h
  rw [e0, hw]
  exact ⟨rfl, rfl⟩
theorem aeC (u : List (Ty.T (.int .i64))) (n : Int) (hb : u.length <= 1048576) : d75 u n = true /\ v75 u n = u.any fun x => x == n := by
 have h := adQ u n hb
 have e : (first (fun i => match u[i]? with | some x => n == x | none => false) 0 u.length).isSome = u.any fun x => n == x := fS (fun i x h => by simp only [h])
 have e2 : (u.any fun x => n == x) = u.any fun x => x == n := by congr 1; funext x; exact Bool.beq_comm
 unfold d75 v75 d181 N6
 rw [h.1, h.2, ← e2, ← e]
 cases first (fun i => match u[i]? with | some x => n == x | none => false) 0 u.length with
 | none => exact ⟨by simp, by simp⟩
 | some j => exact ⟨by simp, by simp⟩
theorem Vq (l : List (Ty.T y27)) (hb : l.length <= 1048576) : d177 l = true := decide_eq_true (show List.length l * _ <= _ by omega)
theorem KZ (l : List (Ty.T (.int .i64))) (hb : l.length <= 1048576) : d135 l = true := decide_eq_true (show List.length l * _ <= _ by omega)
theorem cpI (e : Ty.T ab) (hb : e.2.2.2.2.2.2.1.2.2.2.2.2.2.length <= 1048576) : d226 e = true /\ cy e = ((e.1, e.2.1, e.2.2.1, e.2.2.2.1, e.2.2.2.2.1, e.2.2.2.2.2.1, e.2.2.2.2.2.2.1.1, e.2.2.2.2.2.2.1.2.1, e.2.2.2.2.2.2.1.2.2.1, e.2.2.2.2.2.2.1.2.2.2.1, e.2.2.2.2.2.2.1.2.2.2.2.1, e.2.2.2.2.2.2.1.2.2.2.2.2.1), e.2.2.2.2.2.2.2, e.2.2.2.2.2.2.1.2.2.2.2.2.2) := by
 have h := Vq _ hb
 unfold d226 cy t226
 try simp only [nfs]
 rw [h]
 exact ⟨rfl, rfl⟩
theorem cpS (e : Ty.T ab) (hb : e.2.2.2.2.2.2.1.2.2.2.2.2.2.length <= 1048576) : d238 e = true /\ cO e = ((e.1, e.2.1, e.2.2.1, e.2.2.2.1, e.2.2.2.2.1, e.2.2.2.2.2.1, e.2.2.2.2.2.2.1.1, e.2.2.2.2.2.2.1.2.1, e.2.2.2.2.2.2.1.2.2.1, e.2.2.2.2.2.2.1.2.2.2.1, e.2.2.2.2.2.2.1.2.2.2.2.1, e.2.2.2.2.2.2.1.2.2.2.2.2.1), e.2.2.2.2.2.2.2, e.2.2.2.2.2.2.1.2.2.2.2.2.2) := by
 have h : d296 e.2.2.2.2.2.2.1 = true := by
  unfold d296
  simp only [List.nil_append, Bool.and_true]
  exact decide_eq_true (by omega)
 unfold d238 cO t238
 try simp only [nfs]
 rw [h]
 exact ⟨rfl, rfl⟩
theorem ctI (l : List (Ty.T ab)) (hb : l.length <= 1048576) (hv : ∀ x ∈ l, x.2.2.2.2.2.2.1.2.2.2.2.2.2.length <= 1048576) : d134 l = true /\ nu l = l := by
 have h := ee (s := tJ) (f := fun i => ([], l, ((l).length : Int), (i : Int), l.take i, ())) (c := 0) (N := l.length) (v' := ([], l, ((l).length : Int), (l.length : Int), l.take l.length, ())) (fun i hi => by
  have h1 : l[i]? = some l[i] := List.getElem?_eq_getElem hi
  have hw := aX (n := i) (by omega)
  have hc := cpI l[i] (hv _ (List.getElem_mem hi))
  have hz : ∀ x : Ty.T ab, (l.take i ++ [x]).length * 192 <= 140737488351232 := fun x => by simp only [List.length_append, List.length_cons, List.length_nil, List.length_take]; omega
  rw [dU h1]
  simp only [tJ, uj, decide_eq_true (show (i : Int) < (l.length : Int) by omega), cond_true, if_pos (show (0 : Int) <= (i : Int) by omega), Int.toNat_natCast, h1, aA, hw, hc.1, hc.2, if_pos (hz _)] <;> rfl) (by simp [tJ, uj]) l.length 0 (xm ([], l, ((l).length : Int), 0, [], ())) (by omega) (by simp only [xm]; omega)
 have hk : DL [] l ((l).length : Int) 0 [] 0 = true := aS h 0
 have hw : Je [] l ((l).length : Int) 0 [] = _ := bp h
 unfold d134 nu
 rw [hk, hw]
 exact ⟨rfl, by simp⟩
theorem ctS (l : List (Ty.T ab)) (hb : l.length <= 1048576) (hv : ∀ x ∈ l, x.2.2.2.2.2.2.1.2.2.2.2.2.2.length <= 1048576) : d154 l = true /\ kL l = l := by
 have h := ee (s := sY) (f := fun i => (l, [], (i : Int), l.take i, ())) (c := 0) (N := l.length) (v' := (l, [], (l.length : Int), l.take l.length, ())) (fun i hi => by
  have h1 : l[i]? = some l[i] := List.getElem?_eq_getElem hi
  have hw := aX (n := i) (by omega)
  have hc := cpS l[i] (hv _ (List.getElem_mem hi))
  have hz : ∀ x : Ty.T ab, (l.take i ++ [x]).length * 192 <= 140737488351232 := fun x => by simp only [List.length_append, List.length_cons, List.length_nil, List.length_take]; omega
  rw [dU h1]
  simp only [sY, ui, decide_eq_true (show (i : Int) < (l.length : Int) by omega), cond_true, if_pos (show (0 : Int) <= (i : Int) by omega), Int.toNat_natCast, h1, aA, hw, hc.1, hc.2, if_pos (hz _)] <;> rfl) (by simp [sY, ui]) l.length 0 (yh (l, [], 0, [], ())) (by omega) (by simp only [yh]; omega)
 have hk : D1 l [] 0 [] 0 = true := aS h 0
 have hw : IZ l [] 0 [] = _ := bp h
 unfold d154 kL
 rw [hk, hw]
 exact ⟨rfl, by simp⟩
theorem cuI (l : List (Ty.T y66)) (hb : l.length <= 1048576) (hv : ∀ x ∈ l, x.2.2.2.2.2.1.length <= 1048576) : d141 l = true /\ PN l = l := by
 have h := ee (s := uY) (f := fun i => ([], l, ((l).length : Int), (i : Int), l.take i, ())) (c := 0) (N := l.length) (v' := ([], l, ((l).length : Int), (l.length : Int), l.take l.length, ())) (fun i hi => by
  have h1 : l[i]? = some l[i] := List.getElem?_eq_getElem hi
  have hw := aX (n := i) (by omega)
  have hc := Vq _ (hv _ (List.getElem_mem hi))
  have hz : ∀ x : Ty.T y66, (l.take i ++ [x]).length * 128 <= 140737488351232 := fun x => by simp only [List.length_append, List.length_cons, List.length_nil, List.length_take]; omega
  rw [dU h1]
  simp only [uY, uQ, decide_eq_true (show (i : Int) < (l.length : Int) by omega), cond_true, if_pos (show (0 : Int) <= (i : Int) by omega), Int.toNat_natCast, h1, aA, hw, hc, R1, if_pos (hz _)] <;> rfl) (by simp [uY, uQ]) l.length 0 (zW ([], l, ((l).length : Int), 0, [], ())) (by omega) (by simp only [zW]; omega)
 have hk : Ey [] l ((l).length : Int) 0 [] 0 = true := aS h 0
 have hw : KG [] l ((l).length : Int) 0 [] = _ := bp h
 unfold d141 PN
 rw [hk, hw]
 exact ⟨rfl, by simp⟩
theorem pa (s : Ty.T y36) (id : Int) (hb : s.1.length <= 1048576) : d279 s id = true /\ kl s id = (match first (fun i => match s.1[i]? with | some x => (x.1 == id) | none => false) 0 s.1.length with | some j => (j : Int) | none => -1) := by
 have h := dp (s := uv) (mk := fun i => (id, 0, i, s, ())) (fin := fun i => (id, (i : Int), (i : Int), s, ())) (p := fun i => match s.1[i]? with | some x => (x.1 == id) | none => false) (N := s.1.length) (fun i hi => by
  have h1 := List.getElem?_eq_getElem hi
  simp only [h1]
  skip
  cases ht : (((s.1[i]).1 == id) : Bool) <;> simp [uv, tL, aA, hi, h1, ht,  aX (n := i) (by omega)]) (by simp [uv, tL]) s.1.length 0 (xF (id, 0, 0, s, ())) (by omega) (by simp [xF]; omega)
 unfold d279 kl
 revert h
 generalize first _ 0 s.1.length = o
 intro h
 cases o with
 | none =>
  have e0 : me id 0 0 s 0 = false := aS h 0
  have e1 : me id 0 0 s 1 = true := aS h 1
  rw [e0, e1]
  exact ⟨rfl, rfl⟩
 | some j =>
  have e0 : me id 0 0 s 0 = true := aS h 0
  have hw : Kk id 0 0 s = _ := bp h
  rw [e0, hw]
  exact ⟨rfl, rfl⟩
theorem ia (s : List (Ty.T y63)) (id : Int) (hb : s.length <= 1048576) : qO s id = true /\ tS s id = (match first (fun i => match s[i]? with | some x => (x.1 == id) | none => false) 0 s.length with | some j => (j : Int) | none => -1) := by
 have h := dp (s := kA) (mk := fun i => (s, id, 0, ((s).length : Int), i, ())) (fin := fun i => (s, id, (i : Int), ((s).length : Int), (i : Int), ())) (p := fun i => match s[i]? with | some x => (x.1 == id) | none => false) (N := s.length) (fun i hi => by
  have h1 := List.getElem?_eq_getElem hi
  simp only [h1]
  skip
  cases ht : (((s[i]).1 == id) : Bool) <;> simp [kA, kE, aA, hi, h1, ht, D8, aX (n := i) (by omega)]) (by simp [kA, kE]) s.length 0 (nv (s, id, 0, ((s).length : Int), 0, ())) (by omega) (by simp [nv]; omega)
 unfold qO tS
 revert h
 generalize first _ 0 s.length = o
 intro h
 cases o with
 | none =>
  have e0 : ff s id 0 ((s).length : Int) 0 0 = false := aS h 0
  have e1 : ff s id 0 ((s).length : Int) 0 1 = true := aS h 1
  rw [e0, e1]
  exact ⟨rfl, rfl⟩
 | some j =>
  have e0 : ff s id 0 ((s).length : Int) 0 0 = true := aS h 0
  have hw : yr s id 0 ((s).length : Int) 0 = _ := bp h
  rw [e0, hw]
  exact ⟨rfl, rfl⟩
theorem pi (s : Ty.T y36) (id : Int) (hb : s.1.length <= 1048576) : d326 s id = true /\ qk s id = kl s id := by
 have h1 := pa s id hb
 have h2 := ia s.1 id hb
 unfold d326 qk
 rw [h2.1, h2.2, h1.2]
 exact ⟨rfl, rfl⟩
theorem paR (s : Ty.T y36) (id : Int) (hb : s.1.length <= 1048576) : kl s id < 0 ∨ (0 <= kl s id /\ ∃ p, s.1[(kl s id).toNat]? = some p /\ p.1 = id) := by
 rw [(pa s id hb).2]
 cases h : first (fun i => match s.1[i]? with | some x => (x.1 == id) | none => false) 0 s.1.length with
 | none => exact .inl (by decide)
 | some j =>
  obtain ⟨_, hj, hp⟩ := iY h
  have e : s.1[j]? = some s.1[j] := List.getElem?_eq_getElem (by omega)
  refine .inr ⟨by show (0 : Int) <= (j : Int); omega, s.1[j], by show s.1[((j : Nat) : Int).toNat]? = _; rw [Int.toNat_natCast]; exact e, ?_⟩
  simp only [e] at hp
  exact eq_of_beq hp
theorem src (s : Ty.T y36) (e : Ty.T y27) (hb : s.1.length <= 1048576) : d315 s e = true /\ d329 s e = true /\ IL s e = Kf s e := by
 have h1 := pa s e.2.1 hb
 have h2 := pi s e.2.1 hb
 have key : d315 s e = true := by
  unfold d315 FX
  try simp only [nfs]
  rw [h1.1]
  rcases paR s e.2.1 hb with h | ⟨h, p, hp, _⟩
  ·cases (e.1 != (1 : Int)) <;> simp [h]
  ·cases (e.1 != (1 : Int)) <;> simp [hp, pB, h]
 refine ⟨key, ?_, ?_⟩
 ·rw [← key]
  unfold d315 d329 FX Jq
  try simp only [nfs]
  rw [h1.1, h2.1, h2.2]
 ·unfold Kf IL FX Jq
  try simp only [nfs]
  rw [h1.1, h2.1, h2.2]
theorem RY (s : Ty.T y36) (x : Int) : pF s x = bj x 0 (IntKind.wrap .i64 (((s.2.1).length : Int) - (1 : Int))) := by
 simp only [pF, bj, cw]
theorem tgt (s : Ty.T y36) (e : Ty.T y27) (hb : s.1.length <= 1048576) : d270 s e = true /\ d292 s e = true /\ vk s e = lI s e := by
 have h1 := pa s e.2.2.1 hb
 have h2 := pi s e.2.2.1 hb
 unfold d270 d292 lI vk
 rw [h1.1, h2.1, h2.2, RY]
 cases (e.2.2.1 == (0 : Int))
 ·rcases paR s e.2.2.1 hb with h | ⟨h, p, hp, _⟩
  ·simp [h]
  ·simp [hp, pB, h]
 ·cases bj e.2.2.2.1 0 (IntKind.wrap .i64 (((s.2.1).length : Int) - (1 : Int))) <;> exact ⟨rfl, rfl, rfl⟩
theorem aiG (s : Ty.T y36) (x : Int) (p : Ty.T bT) (e : Ty.T y27) (hb : s.1.length <= 1048576) : d333 s x p e = true /\ d304 s x p e = true /\ MN s x p e = Mw s x p e := by
 have h := tgt s e hb
 unfold d333 d304 Mw MN KI t304
 try simp only [nfs]
 rw [h.1, h.2.1, h.2.2]
 refine ⟨?_, ?_, rfl⟩ <;> simp
theorem ajk (s : Ty.T y36) (p : Ty.T bT) (e : Ty.T y27) (hb : s.1.length <= 1048576) : d334 s p e = true /\ d305 s p e = true /\ Io s p e = Iv s p e := by
 have h := src s e hb
 unfold d334 d305 Iv Io
 rw [h.1, h.2.1, h.2.2]
 refine ⟨?_, ?_, rfl⟩ <;> simp
theorem ahb (s : Ty.T y36) (x : Int) (p : Ty.T bT) (e : Ty.T y27) (hb : s.1.length <= 1048576) : d312 s x p e = true /\ d256 s x p e = true /\ Ma s x p e = MJ s x p e := by
 have h1 := aiG s x p e hb
 have h2 := ajk s p e hb
 unfold d312 d256 MJ Ma
 rw [h1.1, h1.2.1, h1.2.2, h2.1, h2.2.1, h2.2.2, VR, Al]
 refine ⟨?_, ?_, rfl⟩ <;> simp
theorem gone (e : Ty.T y27) : v54 e = mA e := rfl
theorem ZU (e : Ty.T ab) (t : Int) : Mm e t = Ga e t := rfl
theorem afZ (e : Ty.T ab) (v : Ty.T y27) : Nk e v = L3 e v := rfl
theorem Va (s : Ty.T y36) (e : Ty.T y27) (hb : s.1.length <= 1048576) : d213 s e = true /\ d230 s e = true /\ SC s e = we s e := by
 have h := tgt s e hb
 unfold d213 d230 we SC
 rw [h.1, h.2.1, h.2.2]
 cases hc : (lI s e == (-1 : Int)) <;> simp [bne, hc]
def Gd (side : Int) (k : Int) (x : Ty.T y63) : Int := cond (x.2.2.2.1 == (2 : Int)) (cond (x.2.2.1 == side) (IntKind.wrap .i64 (k + 1)) k) k
def AA (side : Int) (k : Int) (x : Ty.T y63) : Int := cond (x.2.2.2.1 == (2 : Int)) (cond (x.2.2.1 == side) (cond x.2.2.2.2.2.2.2.2.2.2.2.2 (IntKind.wrap .i64 (k + 1)) k) k) k
theorem aaD (s : Ty.T y36) (side : Int) (hb : s.1.length <= 1048576) : d331 s side = true /\ N5 s side = s.1.foldl (Gd side) 0 := by
 have h := fold_iter (s := uz) (mk := fun (k : Int) i => (side, 0, k, i, s, ())) (xs := s.1) (f := (Gd side)) (Inv := fun _ _ => True) (fun i x k hx hI => by
  obtain ⟨hi, rfl⟩ := List.getElem?_eq_some_iff.1 hx
  refine ⟨?_, trivial⟩
  skip
  cases c1 : ((s.1[i]).2.2.2.1 == (2 : Int)) <;> cases c2 : ((s.1[i]).2.2.1 == side) <;> cases c3 : (s.1[i]).2.2.2.2.2.2.2.2.2.2.2.2 <;> simp [uz, uy, aA, hi, Gd, c1, c2, c3, aX (n := i) (by omega)]) (fun k => by simp [uz, uy]) s.1.length 0 0 (xn (side, 0, 0, 0, s, ())) (by omega) (by simp [xn]; omega) trivial
 have hk : ED side 0 0 0 s 0 = true := aS h 0
 have hw : Kg side 0 0 0 s = _ := bp h
 unfold d331 N5
 rw [hk, hw]
 exact ⟨rfl, rfl⟩
theorem abu (s : Ty.T y36) (side : Int) (hb : s.1.length <= 1048576) : d332 s side = true /\ NY s side = s.1.foldl (AA side) 0 := by
 have h := fold_iter (s := uH) (mk := fun (k : Int) i => (side, 0, k, i, s, ())) (xs := s.1) (f := (AA side)) (Inv := fun _ _ => True) (fun i x k hx hI => by
  obtain ⟨hi, rfl⟩ := List.getElem?_eq_some_iff.1 hx
  refine ⟨?_, trivial⟩
  skip
  cases c1 : ((s.1[i]).2.2.2.1 == (2 : Int)) <;> cases c2 : ((s.1[i]).2.2.1 == side) <;> cases c3 : (s.1[i]).2.2.2.2.2.2.2.2.2.2.2.2 <;> simp [uH, uT, aA, hi, AA, c1, c2, c3, aX (n := i) (by omega)]) (fun k => by simp [uH, uT]) s.1.length 0 0 (y5 (side, 0, 0, 0, s, ())) (by omega) (by simp [y5]; omega) trivial
 have hk : DC side 0 0 0 s 0 = true := aS h 0
 have hw : JK side 0 0 0 s = _ := bp h
 unfold d332 NY
 rw [hk, hw]
 exact ⟨rfl, rfl⟩
theorem ZW (s : Ty.T y36) (side : Int) (hb : s.1.length <= 1048576) : d303 s side = true /\ M4 s side = s.1.foldl (AA side) 0 := by
 have h := fold_iter (s := uB) (mk := fun (k : Int) i => (side, 0, k, s.1, ((s.1).length : Int), i, ())) (xs := s.1) (f := (AA side)) (Inv := fun _ _ => True) (fun i x k hx hI => by
  obtain ⟨hi, rfl⟩ := List.getElem?_eq_some_iff.1 hx
  refine ⟨?_, trivial⟩
  skip
  cases c1 : ((s.1[i]).2.2.2.1 == (2 : Int)) <;> cases c2 : ((s.1[i]).2.2.1 == side) <;> cases c3 : (s.1[i]).2.2.2.2.2.2.2.2.2.2.2.2 <;> simp [uB, u6, aA, hi, AA, c1, c2, c3, aX (n := i) (by omega)]) (fun k => by simp [uB, u6]) s.1.length 0 0 (wQ (side, 0, 0, s.1, ((s.1).length : Int), 0, ())) (by omega) (by simp [wQ]; omega) trivial
 have hk : Ek side 0 0 s.1 ((s.1).length : Int) 0 0 = true := aS h 0
 have hw : Ka side 0 0 s.1 ((s.1).length : Int) 0 = _ := bp h
 unfold d303 M4
 rw [hk, hw]
 exact ⟨rfl, rfl⟩
theorem MB (side : Int) (l : List (Ty.T y63)) : ∀ k : Int, 0 <= k -> k + l.length <= 9223372036854775807 -> l.foldl (Gd side) k = k + (((l.filter fun x => (x.2.2.2.1 == (2 : Int)) && (x.2.2.1 == side)).length : Nat) : Int) := by
 induction l with
 | nil => intro k _ _; simp
 | cons x l ih =>
  intro k h0 hk
  simp only [List.length_cons] at hk
  have e : IntKind.wrap .i64 (k + 1) = k + 1 := bR (by omega) (by omega)
  simp only [List.foldl_cons, Gd, List.filter_cons, e]
  cases c1 : (x.2.2.2.1 == (2 : Int)) <;> cases c2 : (x.2.2.1 == side) <;> simp only [cond_true, cond_false, Bool.and_true, Bool.and_false, if_true, Bool.false_eq_true, if_false, List.length_cons]
  ·exact ih k h0 (by omega)
  ·exact ih k h0 (by omega)
  ·exact ih k h0 (by omega)
  ·rw [ih (k + 1) (by omega) (by omega)]; omega
theorem onF (s : Ty.T y36) (side : Int) (hs : ¬ side = -1) (hb : s.1.length <= 1048576) : d302 s side = true /\ Mj s side = (s.1.filter fun x => (x.2.2.2.1 == (2 : Int)) && (x.2.2.1 == side)).map (·.1) := by
 have h := ee (s := uA) (f := fun i => (side, [], s.1, ((s.1).length : Int), (i : Int), ((s.1.take i).filter fun x => (x.2.2.2.1 == (2 : Int)) && (x.2.2.1 == side)).map (·.1), ())) (c := 0) (N := s.1.length) (v' := (side, [], s.1, ((s.1).length : Int), (s.1.length : Int), ((s.1.take s.1.length).filter fun x => (x.2.2.2.1 == (2 : Int)) && (x.2.2.1 == side)).map (·.1), ())) (fun i hi => by
  have h1 : s.1[i]? = some s.1[i] := List.getElem?_eq_getElem hi
  have hw := aX (n := i) (by omega)
  have hn : (side == (-1 : Int)) = false := by simpa using hs
  have hz : ∀ x : Int, (@HAppend.hAppend (List Int) (List Int) (List Int) _ (((s.1.take i).filter fun x => (x.2.2.2.1 == (2 : Int)) && (x.2.2.1 == side)).map (·.1)) [x]).length * 8 <= 140737488351232 := fun x => by
   have := List.length_filter_le (fun x : Ty.T y63 => (x.2.2.2.1 == (2 : Int)) && (x.2.2.1 == side)) (s.1.take i)
   simp only [List.length_append, List.length_cons, List.length_nil, List.length_map, List.length_take] at this ⊢
   omega
  rw [e9 h1]
  cases c1 : ((s.1[i]).2.2.2.1 == (2 : Int)) <;> cases c2 : ((s.1[i]).2.2.1 == side) <;> simp only [uA, tN, decide_eq_true (show (i : Int) < (s.1.length : Int) by omega), cond_true, cond_false, if_pos (show (0 : Int) <= (i : Int) by omega), Int.toNat_natCast, h1, aA, hw, hn, c1, c2, Bool.and_true, Bool.and_false, if_pos (hz _), List.append_nil, List.map_append, List.map_cons, List.map_nil] <;> rfl) (by simp [uA, tN]) s.1.length 0 (yd (side, [], s.1, ((s.1).length : Int), 0, [], ())) (by omega) (by simp only [yd]; omega)
 have hk : DY side [] s.1 ((s.1).length : Int) 0 [] 0 = true := aS h 0
 have hw : Jg side [] s.1 ((s.1).length : Int) 0 [] = _ := bp h
 unfold d302 Mj
 rw [hk, hw]
 exact ⟨rfl, by simp⟩
theorem holds (s : Ty.T y36) (x : Int) (g : Ty.T aT) (hb : s.1.length <= 1048576) (hl : s.2.1.length <= 1048576) : d311 s x g = true /\ d255 s x g = true /\ I9 s x g = M3 s x g := by
 have h1 := aaD s x hb
 have h2 := abu s x hb
 have h3 := ZW s x hb
 unfold d311 d255 M3 I9 t311
 try simp only [nfs]
 rw [K0, RY, h1.1, h1.2, h2.1, h2.2, h3.1, h3.2]
 cases xG g
 ·exact ⟨rfl, rfl, rfl⟩
 ·cases hS : bj x 0 (IntKind.wrap .i64 (((s.2.1).length : Int) - (1 : Int)))
  ·exact ⟨rfl, rfl, rfl⟩
  ·rw [bR (by omega) (by omega)] at hS
   simp only [bj] at hS
   have cc : ∀ (p q r : Bool), cond p q r = true ↔ (p = true /\ q = true) ∨ (p = false /\ r = true) := by decide
   have cf : ∀ (p q r : Bool), cond p q r = false ↔ (p = true /\ q = false) ∨ (p = false /\ r = false) := by decide
   simp [cc, cf] at hS
   have h0 : 0 <= x := hS.1
   have hx : ∃ y, s.2.1[x.toNat]? = some y := ⟨s.2.1[x.toNat]'(by omega), List.getElem?_eq_getElem _⟩
   obtain ⟨y, hy⟩ := hx
   have h4 := onF s x (by omega) hb
   have h5 := MB x s.1 0 (by omega) (by omega)
   rw [h4.1, h4.2, hy, h5]
   simp only [pB, rV, h0, decide_true, Bool.true_and, Bool.not_true, cond_false, cond_true, List.length_map, Int.zero_add]
   refine ⟨?_, ?_, rfl⟩ <;> simp
theorem bound (a : Int) : fG a = jL a := by
 unfold fG jL
 by_cases h1 : (2147483647 : Int) < a <;> by_cases h2 : a < (-2147483647 : Int) <;> simp only [h1, h2, gt_iff_lt, decide_true, decide_false, if_true, if_false, cond_true, cond_false] <;> (try split) <;> omega
theorem ke (a b : Int) : kP a b = ey a b := by
 unfold kP ey
 by_cases h1 : b < a <;> simp only [h1, gt_iff_lt, decide_true, decide_false, if_true, if_false, cond_true, cond_false]
 ·by_cases h2 : b < 0 <;> simp only [h2, decide_true, decide_false, cond_true, cond_false] <;> split <;> omega
 ·by_cases h2 : a < 0 <;> simp only [h2, decide_true, decide_false, cond_true, cond_false] <;> split <;> omega
theorem plus (a b : Int) : MI a b = ML a b := by unfold MI ML; simp only [bound]
theorem less (a b : Int) : Qn a b = PT a b := by unfold Qn PT; simp only [bound]
theorem abU (a : Int) : Mk a = Nu a := by unfold Mk Nu; simp only [bound]
theorem half (a : Int) : L2 a = Nr a := by unfold L2 Nr; simp only [bound]
theorem pH (e : Ty.T y27) (n : Int) : HE e n = Cf e n := by unfold HE Cf; rw [ke]
theorem ko (a : Ty.T bm) (n : Int) : J5 a n = Jr a n := by unfold J5 Jr; simp only [ke, plus, abU, half]
noncomputable def pP (e x : Ty.T y27) : Ty.T y27 := cond (x.2.2.2.2.1 == (-1 : Int)) (x.1, x.2.1, x.2.2.1, x.2.2.2.1, ey e.2.2.2.2.1 2147483647, x.2.2.2.2.2) x
theorem SU (a : Ty.T bm) (h : ¬ a.1 = 9) (e : Ty.T y27) : d273 a e = true /\ Dd a e = [] := by
 have hb : (a.1 == (9 : Int)) = false := by simpa using h
 have h : iter lC (lM ([], 0, a, e, [], ())) ([], 0, a, e, [], ()) = some (0, ([], 0, a, e, [], ())) := by
  rw [show lM ([], 0, a, e, [], ()) = (lM ([], 0, a, e, [], ()) - 1) + 1 by simp only [lM]; omega]
  have : lC ([], 0, a, e, [], ()) = some (1, ([], 0, a, e, [], ())) := by
   simp only [lC, q9, hb, cond_false]
   cases decide ((0 : Int) < (a.2.2.2.2.2.2.length : Int)) <;> rfl
  rw [iter, this]
  rfl
 have hk : wO [] 0 a e [] 0 = true := aS h 0
 have hw : Cl [] 0 a e [] = _ := bp h
 unfold d273 Dd
 rw [hk, hw]
 exact ⟨rfl, rfl⟩
theorem Vx (a : Ty.T bm) (h9 : a.1 = 9) (e : Ty.T y27) (hb : a.2.2.2.2.2.2.length <= 1048576) : d273 a e = true /\ Dd a e = a.2.2.2.2.2.2.map (pP e) := by
 have h := ee (s := lC) (f := fun i => ([], (i : Int), a, e, (a.2.2.2.2.2.2.take i).map (pP e), ())) (c := 0) (N := a.2.2.2.2.2.2.length) (v' := ([], (a.2.2.2.2.2.2.length : Int), a, e, (a.2.2.2.2.2.2.take a.2.2.2.2.2.2.length).map (pP e), ())) (fun i hi => by
  have h1 : a.2.2.2.2.2.2[i]? = some a.2.2.2.2.2.2[i] := List.getElem?_eq_getElem hi
  have hw := aX (n := i) (by omega)
  have hz : ∀ x : Ty.T y27, (@HAppend.hAppend (List (Ty.T y27)) (List (Ty.T y27)) (List (Ty.T y27)) _ ((a.2.2.2.2.2.2.take i).map (pP e)) [x]).length * 56 <= 140737488351232 := fun x => by
   simp only [List.length_append, List.length_cons, List.length_nil, List.length_map, List.length_take]
   omega
  rw [dU h1, List.map_append, List.map_cons, List.map_nil]
  cases c1 : ((a.2.2.2.2.2.2[i]).2.2.2.2.1 == (-1 : Int)) <;> simp only [lC, q9, decide_eq_true (show (i : Int) < (a.2.2.2.2.2.2.length : Int) by omega), cond_true, cond_false, if_pos (show (0 : Int) <= (i : Int) by omega), Int.toNat_natCast, h1, aA, hw, c1, h9, beq_self_eq_true, if_pos (hz _), pP] <;> rfl) (by simp [lC, q9]) a.2.2.2.2.2.2.length 0 (lM ([], 0, a, e, [], ())) (by omega) (by simp only [lM]; omega)
 have hk : wO [] 0 a e [] 0 = true := aS h 0
 have hw : Cl [] 0 a e [] = _ := bp h
 unfold d273 Dd
 rw [hk, hw]
 exact ⟨rfl, by simp⟩
theorem XB (a : Ty.T bm) (h : ¬ a.1 = 9) (e : Ty.T y27) : d325 a e = true /\ Aj a e = [] := by
 have hb : (a.1 != (9 : Int)) = true := by simpa using h
 unfold d325 Aj
 rw [hb]
 exact ⟨rfl, rfl⟩
theorem aa9 (a : Ty.T bm) (h9 : a.1 = 9) (e : Ty.T y27) (hb : a.2.2.2.2.2.2.length <= 1048576) : d325 a e = true /\ Aj a e = a.2.2.2.2.2.2.map (pP e) := by
 have hb9 : (a.1 != (9 : Int)) = false := by rw [h9]; rfl
 have h := ee (s := tD) (f := fun i => ([], a.2.2.2.2.2.2, ((a.2.2.2.2.2.2).length : Int), (i : Int), e, (a.2.2.2.2.2.2.take i).map (pP e), ())) (c := 0) (N := a.2.2.2.2.2.2.length) (v' := ([], a.2.2.2.2.2.2, ((a.2.2.2.2.2.2).length : Int), (a.2.2.2.2.2.2.length : Int), e, (a.2.2.2.2.2.2.take a.2.2.2.2.2.2.length).map (pP e), ())) (fun i hi => by
  have h1 : a.2.2.2.2.2.2[i]? = some a.2.2.2.2.2.2[i] := List.getElem?_eq_getElem hi
  have hw := aX (n := i) (by omega)
  have hz : ∀ x : Ty.T y27, (@HAppend.hAppend (List (Ty.T y27)) (List (Ty.T y27)) (List (Ty.T y27)) _ ((a.2.2.2.2.2.2.take i).map (pP e)) [x]).length * 56 <= 140737488351232 := fun x => by
   simp only [List.length_append, List.length_cons, List.length_nil, List.length_map, List.length_take]
   omega
  rw [dU h1, List.map_append, List.map_cons, List.map_nil]
  cases c1 : ((a.2.2.2.2.2.2[i]).2.2.2.2.1 == (-1 : Int)) <;> simp only [tD, tP, decide_eq_true (show (i : Int) < (a.2.2.2.2.2.2.length : Int) by omega), cond_true, cond_false, if_pos (show (0 : Int) <= (i : Int) by omega), Int.toNat_natCast, h1, aA, hw, c1, ke, if_pos (hz _), pP] <;> rfl) (by simp [tD, tP]) a.2.2.2.2.2.2.length 0 (wN ([], a.2.2.2.2.2.2, ((a.2.2.2.2.2.2).length : Int), 0, e, [], ())) (by omega) (by simp only [wN]; omega)
 have hk : Dv [] a.2.2.2.2.2.2 ((a.2.2.2.2.2.2).length : Int) 0 e [] 0 = true := aS h 0
 have hw : Km [] a.2.2.2.2.2.2 ((a.2.2.2.2.2.2).length : Int) 0 e [] = _ := bp h
 unfold d325 Aj
 rw [hk, hw]
 rw [hb9]
 exact ⟨rfl, by simp⟩
theorem parts (a : Ty.T bm) (e : Ty.T y27) (hb : a.2.2.2.2.2.2.length <= 1048576) : d273 a e = true /\ d325 a e = true /\ Aj a e = Dd a e := by
 by_cases h : a.1 = 9
 ·have h1 := Vx a h e hb
  have h2 := aa9 a h e hb
  exact ⟨h1.1, h2.1, by rw [h1.2, h2.2]⟩
 ·have h1 := SU a h e
  have h2 := XB a h e
  exact ⟨h1.1, h2.1, by rw [h1.2, h2.2]⟩
theorem Ic (a : Ty.T bm) (e : Ty.T y27) (hb : a.2.2.2.2.2.2.length <= 1048576) : (Dd a e).length <= a.2.2.2.2.2.2.length := by
 by_cases h : a.1 = 9
 ·rw [(Vx a h e hb).2]; simp
 ·rw [(SU a h e).2]; simp
theorem fits (s : Ty.T y36) (x : Ty.T ab) (e : Ty.T y27) (hb : s.1.length <= 1048576) (hl : s.2.1.length <= 1048576) (hv : x.2.2.2.2.2.2.1.2.2.2.2.2.2.length <= 1048576) : d269 s x e = true /\ d182 s x e = true /\ O9 s x e = gV s x e := by
 have h1 := gw x hv
 have h2 := holds s x.2.1 x.2.2.2.2.2.1 hb hl
 have h3 := ahb s x.2.1 x.2.2.2.2.1 e hb
 unfold d269 d182 gV O9
 rw [h1.1, h1.2.1, h1.2.2, ZU, afZ, h2.1, h2.2.1, h2.2.2, h3.1, h3.2.1, h3.2.2]
 refine ⟨?_, ?_, rfl⟩ <;> simp
theorem CX (s : Ty.T y36) (x : Ty.T ab) (e : Ty.T y27) (hv : x.2.2.2.2.2.2.1.2.2.2.2.2.2.length <= 1048576) (h : gV s x e = true) : eg x = true := by
 unfold gV at h
 rw [(gw x hv).1] at h
 cases hc : eg x with
 | true => rfl
 | false => rw [hc] at h; cases h
theorem Lj (x : Ty.T ab) (h : eg x = true) : @LE.le Int _ 0 x.2.2.2.1 /\ @LE.le Int _ x.2.2.2.1 4 := by
 cases hc : bj x.2.2.2.1 0 4 with
 | true =>
  simp only [bj] at hc
  have cc : ∀ (p q r : Bool), cond p q r = true ↔ (p = true /\ q = true) ∨ (p = false /\ r = true) := by decide
  have cf : ∀ (p q r : Bool), cond p q r = false ↔ (p = true /\ q = false) ∨ (p = false /\ r = false) := by decide
  simpa [cc, cf] using hc
 | false =>
  exfalso
  simp only [eg, t242, hc, nfs] at h
  cases h1 : bj x.1 1 99 <;> cases h2 : bj x.2.1 0 2 <;> cases h3 : bj x.2.2.1 0 99 <;> simp [h1, h2, h3] at h
theorem ea (l : List (Ty.T ab)) (id : Int) (hb : l.length <= 1048576) : d246 l id = true /\ mr l id = (match first (fun i => match l[i]? with | some x => (x.1 == id) | none => false) 0 l.length with | some j => (j : Int) | none => -1) := by
 have h := dp (s := s6) (mk := fun i => (l, id, 0, i, ())) (fin := fun i => (l, id, (i : Int), (i : Int), ())) (p := fun i => match l[i]? with | some x => (x.1 == id) | none => false) (N := l.length) (fun i hi => by
  have h1 := List.getElem?_eq_getElem hi
  simp only [h1]
  skip
  cases ht : (((l[i]).1 == id) : Bool) <;> simp [s6, tu, aA, hi, h1, ht,  aX (n := i) (by omega)]) (by simp [s6, tu]) l.length 0 (zr (l, id, 0, 0, ())) (by omega) (by simp [zr]; omega)
 unfold d246 mr
 revert h
 generalize first _ 0 l.length = o
 intro h
 cases o with
 | none =>
  have e0 : l7 l id 0 0 0 = false := aS h 0
  have e1 : l7 l id 0 0 1 = true := aS h 1
  rw [e0, e1]
  exact ⟨rfl, rfl⟩
 | some j =>
  have e0 : l7 l id 0 0 0 = true := aS h 0
  have hw : Jz l id 0 0 = _ := bp h
  rw [e0, hw]
  exact ⟨rfl, rfl⟩
theorem eia (l : List (Ty.T ab)) (id : Int) (hb : l.length <= 1048576) : qC l id = true /\ s9 l id = (match first (fun i => match l[i]? with | some x => (x.1 == id) | none => false) 0 l.length with | some j => (j : Int) | none => -1) := by
 have h := dp (s := la) (mk := fun i => (l, id, 0, ((l).length : Int), i, ())) (fin := fun i => (l, id, (i : Int), ((l).length : Int), (i : Int), ())) (p := fun i => match l[i]? with | some x => (x.1 == id) | none => false) (N := l.length) (fun i hi => by
  have h1 := List.getElem?_eq_getElem hi
  simp only [h1]
  skip
  cases ht : (((l[i]).1 == id) : Bool) <;> simp [la, lq, aA, hi, h1, ht, EM, aX (n := i) (by omega)]) (by simp [la, lq]) l.length 0 (ny (l, id, 0, ((l).length : Int), 0, ())) (by omega) (by simp [ny]; omega)
 unfold qC s9
 revert h
 generalize first _ 0 l.length = o
 intro h
 cases o with
 | none =>
  have e0 : fe l id 0 ((l).length : Int) 0 0 = false := aS h 0
  have e1 : fe l id 0 ((l).length : Int) 0 1 = true := aS h 1
  rw [e0, e1]
  exact ⟨rfl, rfl⟩
 | some j =>
  have e0 : fe l id 0 ((l).length : Int) 0 0 = true := aS h 0
  have hw : yI l id 0 ((l).length : Int) 0 = _ := bp h
  rw [e0, hw]
  exact ⟨rfl, rfl⟩
theorem ei (l : List (Ty.T ab)) (id : Int) (hb : l.length <= 1048576) : d229 l id = true /\ As l id = mr l id := by
 have h1 := ea l id hb
 have h2 := eia l id hb
 unfold d229 As
 rw [h2.1, h2.2, h1.2]
 exact ⟨rfl, rfl⟩
theorem op5 {c : Int} (h : c <= 4) : ¬ c > 5 /\ c < 5 := by omega
theorem ahP {c b : Int} (h1 : c <= 4) (h2 : b = 5) (h4 : ¬ c < b) : False := by omega
theorem ad6 {c b : Int} (h : c > b) : (c == b) = false := by simp; omega
theorem adt {c b : Int} (h1 : ¬ c > b) (h2 : ¬ c < b) : (c == b) = true := by simp; omega
noncomputable def gZ (s : Ty.T y36) (e : Ty.T y27) (u : List (Ty.T (.int .i64))) (p : Int × List (Ty.T (.int .i64))) (x : Ty.T ab) : Int × List (Ty.T (.int .i64)) :=
 cond (u.any fun y => y == x.1) p (cond (!gV s x e) p (cond (decide (x.2.2.2.1 > p.1)) p (cond (decide (x.2.2.2.1 < p.1)) (x.2.2.2.1, [x.1]) (p.1, p.2 ++ [x.1]))))
structure OptI (l : List (Ty.T ab)) (u : List (Ty.T (.int .i64))) (n : Nat) (p : Int × List (Ty.T (.int .i64))) : Prop where
 len : p.2.length <= n
 top : (p.2 = [] /\ p.1 = 5) ∨ (p.2.length ≠ 0 /\ p.1 <= 4)
 mem : ∀ y ∈ p.2, (∃ x ∈ l, x.1 = y) /\ (u.any fun z => z == y) = false
theorem Uz {s : Ty.T y36} {e : Ty.T y27} {l : List (Ty.T ab)} {u : List (Ty.T (.int .i64))} {n : Nat} {p : Int × List (Ty.T (.int .i64))} {x : Ty.T ab} (hx : x ∈ l) (hv : x.2.2.2.2.2.2.1.2.2.2.2.2.2.length <= 1048576) (h : OptI l u n p) : OptI l u (n + 1) (gZ s e u p x) := by
 unfold gZ
 cases h1 : u.any fun y => y == x.1
 ·cases h2 : gV s x e
  ·exact ⟨Nat.le_succ_of_le h.len, h.top, h.mem⟩
  ·have hc := Lj x (CX s x e hv h2)
   by_cases h3 : x.2.2.2.1 > p.1
   ·simp only [h3, decide_true, Bool.not_true, cond_false, cond_true]
    exact ⟨Nat.le_succ_of_le h.len, h.top, h.mem⟩
   ·by_cases h4 : x.2.2.2.1 < p.1
    ·simp only [h3, h4, decide_true, decide_false, Bool.not_true, cond_false, cond_true]
     refine ⟨by simp, .inr ⟨by simp, by simpa using hc.2⟩, fun y hy => ?_⟩
     rw [List.mem_singleton] at hy
     subst hy
     exact ⟨⟨x, hx, rfl⟩, h1⟩
    ·simp only [h3, h4, decide_false, Bool.not_true, cond_false]
     refine ⟨by simp only [List.length_append, List.length_cons, List.length_nil]; have := h.len; omega, .inr ⟨by simp, ?_⟩, fun y hy => ?_⟩
     ·show p.1 <= 4
      rcases h.top with h5 | h5
      ·exact (ahP hc.2 h5.2 h4).elim
      ·exact h5.2
     ·rcases List.mem_append.1 hy with hy | hy
      ·exact h.mem y hy
      ·rw [List.mem_singleton] at hy
       subst hy
       exact ⟨⟨x, hx, rfl⟩, h1⟩
 ·exact ⟨Nat.le_succ_of_le h.len, h.top, h.mem⟩
theorem EA (s : Ty.T y36) (e : Ty.T y27) (l : List (Ty.T ab)) (u : List (Ty.T (.int .i64))) (hv : ∀ x ∈ l, x.2.2.2.2.2.2.1.2.2.2.2.2.2.length <= 1048576) : ∀ n, n <= l.length -> OptI l u n ((l.take n).foldl (gZ s e u) (5, []))
 | 0, _ => ⟨by simp, .inl ⟨rfl, rfl⟩, fun y hy => by cases hy⟩
 | n + 1, h => by
  rw [qe (List.getElem?_eq_getElem (l := l) (i := n) (by omega))]
  exact Uz (List.getElem_mem _) (hv _ (List.getElem_mem _)) (EA s e l u hv n (by omega))
theorem Ql (s : Ty.T y36) (l : List (Ty.T ab)) (e : Ty.T y27) (u : List (Ty.T (.int .i64))) (hb : s.1.length <= 1048576) (hs : s.2.1.length <= 1048576) (hn : l.length <= 1048576) (hu : u.length <= 1048576) (hv : ∀ x ∈ l, x.2.2.2.2.2.2.1.2.2.2.2.2.2.length <= 1048576) : d243 s l e u = true /\ ej s l e u = (l.foldl (gZ s e u) (5, [])).2 := by
 have h := ee (s := vq) (f := fun i => (l, u, [], ((l.take i).foldl (gZ s e u) (5, [])).1, (i : Int), s, e, ((l.take i).foldl (gZ s e u) (5, [])).2, ())) (c := 0) (N := l.length) (v' := (l, u, [], ((l.take l.length).foldl (gZ s e u) (5, [])).1, (l.length : Int), s, e, ((l.take l.length).foldl (gZ s e u) (5, [])).2, ())) (fun i hi => by
  have h1 : l[i]? = some l[i] := List.getElem?_eq_getElem hi
  have hw := aX (n := i) (by omega)
  have hf := fits s l[i] e hb hs (hv _ (List.getElem_mem hi))
  have hh := ads u (l[i]).1 hu
  have hI := EA s e l u hv i (by omega)
  rw [qe h1]
  revert hI
  generalize (l.take i).foldl (gZ s e u) (5, []) = p
  obtain ⟨b, o⟩ := p
  intro hI
  have hz : ∀ x : Int, (@HAppend.hAppend (List Int) (List Int) (List Int) _ o [x]).length * 8 <= 140737488351232 := fun x => by
   have : o.length <= i := hI.len
   simp only [List.length_append, List.length_cons, List.length_nil]
   omega
  have hz2 : (o.length + 1) * 8 <= 140737488351232 := by
   have : o.length <= i := hI.len
   omega
  cases c1 : u.any fun y => y == (l[i]).1 <;> cases c2 : gV s l[i] e <;> by_cases c3 : (l[i]).2.2.2.1 > b <;> by_cases c4 : (l[i]).2.2.2.1 < b <;> simp [vq, tW, hi, h1, aA, hw, hh.1, hh.2, hf.1, hf.2.1, hf.2.2, c1, c2, c3, c4, gZ, hz2]) (by simp [vq, tW]) l.length 0 (xd (l, u, [], 5, 0, s, e, [], ())) (by omega) (by simp only [xd]; omega)
 have hk : CZ l u [] 5 0 s e [] 0 = true := aS h 0
 have hw : JS l u [] 5 0 s e [] = _ := bp h
 unfold d243 ej
 rw [hk, hw]
 exact ⟨rfl, by simp⟩
def Ul (p : Int × List (Ty.T (.int .i64))) : Int := match p.2 with | [] => 0 | _ :: _ => p.1
theorem aeK (s : Ty.T y36) (l : List (Ty.T ab)) (e : Ty.T y27) (u : List (Ty.T (.int .i64))) (hb : s.1.length <= 1048576) (hs : s.2.1.length <= 1048576) (hn : l.length <= 1048576) (hu : u.length <= 1048576) (hv : ∀ x ∈ l, x.2.2.2.2.2.2.1.2.2.2.2.2.2.length <= 1048576) : d76 s l e u = true /\ v76 s l e u = (l.foldl (gZ s e u) (5, [])).2 := by
 have h := ee (s := wY) (f := fun i => (u, [], (Ul ((l.take i).foldl (gZ s e u) (5, []))), l, ((l).length : Int), (i : Int), s, e, ((l.take i).foldl (gZ s e u) (5, [])).2, ())) (c := 0) (N := l.length) (v' := (u, [], (Ul ((l.take l.length).foldl (gZ s e u) (5, []))), l, ((l).length : Int), (l.length : Int), s, e, ((l.take l.length).foldl (gZ s e u) (5, [])).2, ())) (fun i hi => by
  have h1 : l[i]? = some l[i] := List.getElem?_eq_getElem hi
  have hw := aX (n := i) (by omega)
  have hf := fits s l[i] e hb hs (hv _ (List.getElem_mem hi))
  have hh := aeC u (l[i]).1 hu
  have hI := EA s e l u hv i (by omega)
  rw [qe h1]
  revert hI
  generalize (l.take i).foldl (gZ s e u) (5, []) = p
  obtain ⟨b, o⟩ := p
  intro hI
  have hz : ∀ x : Int, (@HAppend.hAppend (List Int) (List Int) (List Int) _ o [x]).length * 8 <= 140737488351232 := fun x => by
   have : o.length <= i := hI.len
   simp only [List.length_append, List.length_cons, List.length_nil]
   omega
  have hz2 : (o.length + 1) * 8 <= 140737488351232 := by
   have : o.length <= i := hI.len
   omega
  have hcl : gV s l[i] e = true -> (l[i]).2.2.2.1 <= 4 := fun h => (Lj _ (CX s _ e (hv _ (List.getElem_mem hi)) h)).2
  cases o with
  | nil =>
   have h5 : b = 5 := by
    rcases hI.top with h | h
    ·exact h.2
    ·exact absurd rfl h.1
   subst h5
   cases c1 : u.any fun y => y == (l[i]).1 <;> cases c2 : gV s l[i] e <;> try (have c3 := hcl c2)
   all_goals simp [wY, wS, hi, h1, aA, hw, hh.1, hh.2, hf.1, hf.2.1, hf.2.2, c1, c2, gZ, Ul]
   all_goals simp [(op5 (hcl c2)).1, (op5 (hcl c2)).2]
  | cons y o =>
   have hl : ((((y :: o).length : Nat) : Int) == (0 : Int)) = false := by simp; omega
   have hl2 : (((o.length : Nat) : Int) + 1 == (0 : Int)) = false := by simp; omega
   cases c1 : u.any fun y => y == (l[i]).1 <;> cases c2 : gV s l[i] e <;> by_cases c3 : (l[i]).2.2.2.1 > b <;> by_cases c4 : (l[i]).2.2.2.1 < b <;> try exact (Int.lt_asymm c3 c4).elim
   all_goals (try (have c5 := ad6 c3))
   all_goals (try (have c5 := adt c3 c4))
   all_goals simp [wY, wS, hi, h1, aA, hw, hh.1, hh.2, hf.1, hf.2.1, hf.2.2, c1, c2, c3, c4, gZ, Ul, hl, hl2]
   all_goals try simp [hl2, c5]
   all_goals try (simp only [List.length_cons] at hz2; simp [hz2])
   all_goals try omega) (by simp [wY, wS]) l.length 0 (Fz (u, [], 0, l, ((l).length : Int), 0, s, e, [], ())) (by omega) (by simp only [Fz]; omega)
 have hk : K9 u [] 0 l ((l).length : Int) 0 s e [] 0 = true := aS h 0
 have hw : OW u [] 0 l ((l).length : Int) 0 s e [] = _ := bp h
 unfold d76 v76
 rw [hk, hw]
 exact ⟨rfl, by simp⟩
theorem options (s : Ty.T y36) (l : List (Ty.T ab)) (e : Ty.T y27) (u : List (Ty.T (.int .i64))) (hb : s.1.length <= 1048576) (hs : s.2.1.length <= 1048576) (hn : l.length <= 1048576) (hu : u.length <= 1048576) (hv : ∀ x ∈ l, x.2.2.2.2.2.2.1.2.2.2.2.2.2.length <= 1048576) : d243 s l e u = true /\ d76 s l e u = true /\ v76 s l e u = ej s l e u /\ (ej s l e u).length <= l.length /\ (∀ y ∈ ej s l e u, (∃ x ∈ l, x.1 = y) /\ (u.any fun z => z == y) = false) := by
 have h1 := Ql s l e u hb hs hn hu hv
 have h2 := aeK s l e u hb hs hn hu hv
 have h3 := EA s e l u hv l.length (Nat.le_refl _)
 rw [List.take_length] at h3
 rw [h1.2, h2.2]
 exact ⟨h1.1, h2.1, rfl, h3.len, h3.mem⟩
theorem dix (l : List (Ty.T y27)) (hb : l.length <= 1048576) : y9 l = true /\ bw l = (match first (fun i => match l[i]? with | some x => (gM x) | none => false) 0 l.length with | some j => (j : Int) | none => -1) := by
 have h := dp (s := kG) (mk := fun i => (l, 0, ((l).length : Int), i, ())) (fin := fun i => (l, (i : Int), ((l).length : Int), (i : Int), ())) (p := fun i => match l[i]? with | some x => (gM x) | none => false) (N := l.length) (fun i hi => by
  have h1 := List.getElem?_eq_getElem hi
  simp only [h1]
  skip
  cases ht : ((gM l[i]) : Bool) <;> simp [kG, kB, aA, hi, h1, ht,  aX (n := i) (by omega)]) (by simp [kG, kB]) l.length 0 (nQ (l, 0, ((l).length : Int), 0, ())) (by omega) (by simp [nQ]; omega)
 unfold y9 bw
 revert h
 generalize first _ 0 l.length = o
 intro h
 cases o with
 | none =>
  have e0 : fm l 0 ((l).length : Int) 0 0 = false := aS h 0
  have e1 : fm l 0 ((l).length : Int) 0 1 = true := aS h 1
  rw [e0, e1]
  exact ⟨rfl, rfl⟩
 | some j =>
  have e0 : fm l 0 ((l).length : Int) 0 0 = true := aS h 0
  have hw : ym l 0 ((l).length : Int) 0 = _ := bp h
  rw [e0, hw]
  exact ⟨rfl, rfl⟩
theorem afm (l : List (Ty.T y27)) (hb : l.length <= 1048576) : zg l = true /\ Ah l = l.filter fun x => !gM x := by
 have h0 := dix l hb
 cases hf : first (fun i => match l[i]? with | some x => (gM x) | none => false) 0 l.length with
 | none =>
  rw [hf] at h0
  have hk := Bx (p := gM) (xs := l) (j := l.length) (fun t x ht hx => by have := lF hf t (by omega) (by omega); simpa only [hx] using this) (Nat.le_refl _)
  rw [List.take_length] at hk
  unfold zg Ah qj
  try simp only [nfs]
  rw [h0.1, h0.2, ← hk]
  exact ⟨rfl, rfl⟩
 | some j =>
  rw [hf] at h0
  obtain ⟨_, hj, hp⟩ := iY hf
  have hk := Bx (p := gM) (xs := l) (j := j) (fun t x ht hx => by have := BY hf t (by omega) (by omega); simpa only [hx] using this) (by omega)
  have hx : l[j]? = some l[j] := List.getElem?_eq_getElem (by omega)
  simp only [hx] at hp
  have hw1 := aX (n := j) (by omega)
  have h := xB (s := jr) (mk := fun k : List (Ty.T y27) × Nat × Nat => ([], (k.2.1 : Int), (k.2.2 : Int), k.1, ()))
   (Inv := fun t k => k.2.2 = t /\ k.2.1 < t /\ k.1.length = l.length /\ k.1.take k.2.1 = (l.take t).filter (fun x => !gM x) /\ ∀ r, t <= r -> k.1[r]? = l[r]?)
   (Q := fun v => ∃ (i : Nat) (m : List (Ty.T y27)), v = ([], (i : Int), (l.length : Int), m, ()) /\ i <= m.length /\ m.take i = l.filter fun x => !gM x)
   (c := 0) (N := l.length) (fun t k ht hI => by
    obtain ⟨m, i, r⟩ := k
    obtain ⟨hr, hi, hl, htk, hd⟩ := hI
    dsimp only at hr hi hl htk hd
    subst hr
    have hx : l[r]? = some l[r] := List.getElem?_eq_getElem ht
    have hm : m[r]? = some l[r] := by rw [hd r (Nat.le_refl _), hx]
    obtain ⟨y, hy⟩ : ∃ y, m[i]? = some y := ⟨m[i]'(by omega), List.getElem?_eq_getElem _⟩
    have g1 : (r : Int) < (m.length : Int) := by omega
    have g2 : (i : Int) < (m.length : Int) := by omega
    have g3 := aX (n := r) (by omega)
    have g4 := aX (n := i) (by omega)
    have g5 : (0 : Int) <= (r : Int) := by omega
    have g6 : (0 : Int) <= (i : Int) := by omega
    cases hq : gM l[r] with
    | false =>
     have h := MO (q := fun x => !gM x) hx hi hl htk hd (by rw [hq]; rfl)
     refine ⟨(m.set i l[r], i + 1, r + 1), ?_, rfl, h⟩
     simp only [jr, iC, decide_eq_true g1, cond_true, if_pos g5, if_pos g1, Int.toNat_natCast, hm, aA, hq, Bool.not_false, if_pos g6, if_pos g2, hy, g3, g4]
    | true =>
     have h := Ni (q := fun x => !gM x) hx hi htk hd (by rw [hq]; rfl)
     refine ⟨(m, i, r + 1), ?_, rfl, h.1, hl, h.2⟩
     simp only [jr, iC, decide_eq_true g1, cond_true, if_pos g5, if_pos g1, Int.toNat_natCast, hm, aA, hq, Bool.not_true, cond_false, g3])
   (fun k hI => by
    obtain ⟨m, i, r⟩ := k
    obtain ⟨hr, hi, hl, htk, hd⟩ := hI
    dsimp only at hr hi hl htk hd
    subst hr
    refine ⟨_, ?_, i, m, rfl, by omega, by rw [htk, List.take_length]⟩
    have g1 : ¬ ((l.length : Int) < (m.length : Int)) := by omega
    simp only [jr, iC, decide_eq_false g1, cond_false])
   (l.length - (j + 1)) (j + 1) (nL ([], (j : Int), ((j + 1 : Nat) : Int), l, ())) (l, j, j + 1) (by omega) (by simp only [nL]; omega) ⟨rfl, Nat.lt_succ_self j, rfl, by rw [e9 hx, ← hk]; simp [hp], fun _ _ => rfl⟩
  obtain ⟨v', hv, i, m, rfl, hi, hm⟩ := h
  have hkk : Gt [] (j : Int) ((j + 1 : Nat) : Int) l 0 = true := aS hv 0
  have hww : cg [] (j : Int) ((j + 1 : Nat) : Int) l = _ := bp hv
  have e1 : (((j : Nat) : Int) == (-1 : Int)) = false := by simp
  have e2 : ∀ R D : List (Ty.T y27), ((m.take i ++ R ++ D).take i) = m.take i := fun R D => by rw [List.append_assoc, List.take_append_of_le_length (by simp; omega), List.take_take, Nat.min_self]
  have g0 : (0 : Int) <= (i : Int) := by omega
  have g1 : (i : Int) <= (m.length : Int) := by omega
  have g2 : ∀ R D : List (Ty.T y27), (i : Int) <= ((m.take i ++ R ++ D).length : Int) := fun R D => by simp only [List.length_append, List.length_take]; omega
  unfold zg Ah qj
  try simp only [nfs]
  rw [h0.1, h0.2]
  simp only [e1, hw1, hkk, hww, cond_true, cond_false, if_pos g0, if_pos g1, if_pos (g2 _ _), decide_eq_true g0, decide_eq_true g1, decide_eq_true (g2 _ _), Bool.and_true, Int.toNat_natCast, e2]
  rw [hm]
  exact ⟨trivial, rfl⟩
theorem V8 (e : Ty.T ab) (n : Int) (hb : e.2.2.2.2.2.2.1.2.2.2.2.2.2.length <= 1048576) : d275 e n = true /\ d289 e n = true /\ Md e n = wc e n := by
 have h1 := cpS e hb
 have h2 := cpI e hb
 unfold d275 d289 wc Md t275 t289
 try simp only [nfs]
 rw [h1.1, h1.2, h2.1, h2.2]
 simp only [cond_true, ke, less]
 cases (e.2.2.2.2.2.2.1.1 == (2 : Int)) <;> cases decide (e.2.2.2.2.2.2.2.2 > (0 : Int)) <;> simp
theorem aas (i1 i2 i3 i4 : Int) (p : Ty.T bT) (g : Ty.T aT) (k n po t z : Int) (b : Bool) (l : List (Ty.T y27)) (u lf : Int) (v : Ty.T y27) (e : Ty.T ab) (he : e = (i1, i2, i3, i4, p, g, (k, n, po, t, z, b, l), u, lf)) (hb : l.length <= 1048576) : fx ([], 0, 0, e.2.2.2.2.2.2.1.1, (e.2.2.2.2.2.2.1.1 == (1 : Int)), e, v, (0, 0, 0, 0, (0, 0, 0, 0, 0, 0, 0), (0, 0), (0, 0, 0, 0, 0, false, []), 0, 0), [], ()) = true /\ d287 e v = true /\ fP e v = bN ([], 0, 0, e.2.2.2.2.2.2.1.1, (e.2.2.2.2.2.2.1.1 == (1 : Int)), e, v, (0, 0, 0, 0, (0, 0, 0, 0, 0, 0, 0), (0, 0), (0, 0, 0, 0, 0, false, []), 0, 0), [], ()) := by
 have hp := parts (k, n, po, t, z, b, l) v hb
 subst he
 by_cases k1 : k = 1
 ·subst k1
  simp [fx, bN, dN, fP, t287, d287, uF, t274, ke, pH, ko, hp.1, hp.2.1, hp.2.2, eu, nfs]
  try (cases (v.1 == (1 : Int)) <;> simp)
 by_cases k2 : k = 2
 ·subst k2
  simp [fx, bN, dN, fP, t287, d287, uF, t274, ke, pH, ko, hp.1, hp.2.1, hp.2.2, eu, nfs]
  try (skip)
 by_cases k3 : k = 3
 ·subst k3
  simp [fx, bN, dN, fP, t287, d287, uF, t274, ke, pH, ko, hp.1, hp.2.1, hp.2.2, eu, nfs]
  try (skip)
 by_cases k4 : k = 4
 ·subst k4
  simp [fx, bN, dN, fP, t287, d287, uF, t274, ke, pH, ko, hp.1, hp.2.1, hp.2.2, eu, nfs]
  try (skip)
 by_cases k5 : k = 5
 ·subst k5
  simp [fx, bN, dN, fP, t287, d287, uF, t274, ke, pH, ko, hp.1, hp.2.1, hp.2.2, eu, nfs]
  try (skip)
 by_cases k6 : k = 6
 ·subst k6
  simp [fx, bN, dN, fP, t287, d287, uF, t274, ke, pH, ko, hp.1, hp.2.1, hp.2.2, eu, nfs]
  try (skip)
 by_cases k7 : k = 7
 ·subst k7
  simp [fx, bN, dN, fP, t287, d287, uF, t274, ke, pH, ko, hp.1, hp.2.1, hp.2.2, eu, nfs]
  try (cases (z != (2 : Int)) <;> simp)
 by_cases k8 : k = 8
 ·subst k8
  simp [fx, bN, dN, fP, t287, d287, uF, t274, ke, pH, ko, hp.1, hp.2.1, hp.2.2, eu, nfs]
  try (cases (v.2.2.2.2.2.1 == (2 : Int)) <;> cases v.2.2.2.2.2.2 <;> simp)
 by_cases k9 : k = 9
 ·subst k9
  simp [fx, bN, dN, fP, t287, d287, uF, t274, ke, pH, ko, hp.1, hp.2.1, hp.2.2, eu, nfs]
  try (skip)
 have j1 : (k == (1 : Int)) = false := by simpa using k1
 have j2 : (k == (2 : Int)) = false := by simpa using k2
 have j3 : (k == (3 : Int)) = false := by simpa using k3
 have j4 : (k == (4 : Int)) = false := by simpa using k4
 have j5 : (k == (5 : Int)) = false := by simpa using k5
 have j6 : (k == (6 : Int)) = false := by simpa using k6
 have j7 : (k == (7 : Int)) = false := by simpa using k7
 have j8 : (k == (8 : Int)) = false := by simpa using k8
 have j9 : (k == (9 : Int)) = false := by simpa using k9
 simp [fx, bN, dN, fP, t287, d287, uF, t274, ke, pH, ko, hp.1, hp.2.1, hp.2.2, eu, j1, j2, j3, j4, j5, j6, j7, j8, j9, nfs]
theorem WU (e : Ty.T ab) (v : Ty.T y27) (hb : e.2.2.2.2.2.2.1.2.2.2.2.2.2.length <= 1048576) : fx ([], 0, 0, e.2.2.2.2.2.2.1.1, (e.2.2.2.2.2.2.1.1 == (1 : Int)), e, v, (0, 0, 0, 0, (0, 0, 0, 0, 0, 0, 0), (0, 0), (0, 0, 0, 0, 0, false, []), 0, 0), [], ()) = true /\ d287 e v = true /\ fP e v = bN ([], 0, 0, e.2.2.2.2.2.2.1.1, (e.2.2.2.2.2.2.1.1 == (1 : Int)), e, v, (0, 0, 0, 0, (0, 0, 0, 0, 0, 0, 0), (0, 0), (0, 0, 0, 0, 0, false, []), 0, 0), [], ()) := by
 obtain ⟨i1, i2, i3, i4, p, g, ⟨k, n, po, t, z, b, l⟩, u, lf⟩ := e
 exact aas i1 i2 i3 i4 p g k n po t z b l u lf v _ rfl hb
theorem Dw (e : Ty.T ab) (v : Ty.T y27) (hb : e.2.2.2.2.2.2.1.2.2.2.2.2.2.length <= 1048576) : (bN ([], 0, 0, e.2.2.2.2.2.2.1.1, (e.2.2.2.2.2.2.1.1 == (1 : Int)), e, v, (0, 0, 0, 0, (0, 0, 0, 0, 0, 0, 0), (0, 0), (0, 0, 0, 0, 0, false, []), 0, 0), [], ())).2.length <= 1048576 := by
 have hp := parts e.2.2.2.2.2.2.1 v hb
 have hl := Ic e.2.2.2.2.2.2.1 v hb
 simp only [bN, dN, hp.1]
 cases h1 : (e.2.2.2.2.2.2.1.1 == (1 : Int)) <;> cases h2 : (v.1 == (1 : Int)) <;> cases h3 : (e.2.2.2.2.2.2.1.1 == (2 : Int)) <;> cases h4 : (e.2.2.2.2.2.2.1.1 == (9 : Int)) <;> simp <;> omega
theorem MC (n po t z : Int) (b : Bool) (l : List (Ty.T y27)) (h : tx ((9, n, po, t, z, b, l) : Ty.T bm) = true) : l.length <= 3 := by
 rcases Nat.lt_or_ge 3 l.length with hl | hl
 ·exfalso
  have hf : cw (l.length : Int) 1 3 = false := by simp [cw]; omega
  simp [tx, t285, xo, qd, zR, nX, xO, hf, nfs] at h
 ·exact hl
theorem Tp (e : Ty.T ab) (hb : e.2.2.2.2.2.2.1.2.2.2.2.2.2.length <= 1048576) (h : eg e = true) (h9 : e.2.2.2.2.2.2.1.1 = 9) : e.2.2.2.2.2.2.1.2.2.2.2.2.2.length <= 3 := by
 rw [← (gw e hb).2.2] at h
 have ha : tx e.2.2.2.2.2.2.1 = true := by
  cases hc : tx e.2.2.2.2.2.2.1 with
  | true => rfl
  | false =>
   exfalso
   have hd := (VS e.2.2.2.2.2.2.1 hb).2.1
   simp [Am, t227, hc, hd, nfs] at h
 obtain ⟨i1, i2, i3, i4, p, g, ⟨k, n, po, t, z, b, l⟩, u, lf⟩ := e
 dsimp only at h9 ha ⊢
 subst h9
 exact MC n po t z b l ha
theorem UC (e : Ty.T ab) (v : Ty.T y27) (hb : e.2.2.2.2.2.2.1.2.2.2.2.2.2.length <= 1048576) (h : eg e = true) : (bN ([], 0, 0, e.2.2.2.2.2.2.1.1, (e.2.2.2.2.2.2.1.1 == (1 : Int)), e, v, (0, 0, 0, 0, (0, 0, 0, 0, 0, 0, 0), (0, 0), (0, 0, 0, 0, 0, false, []), 0, 0), [], ())).2.length <= 3 := by
 have hp := parts e.2.2.2.2.2.2.1 v hb
 have hl := Ic e.2.2.2.2.2.2.1 v hb
 by_cases h9 : e.2.2.2.2.2.2.1.1 = 9
 ·have h3 := Tp e hb h h9
  simp only [bN, dN, hp.1, h9]
  simp
  omega
 ·have h4 : (e.2.2.2.2.2.2.1.1 == (9 : Int)) = false := by simpa using h9
  simp only [bN, dN, hp.1, h4]
  cases h1 : (e.2.2.2.2.2.2.1.1 == (1 : Int)) <;> cases h2 : (v.1 == (1 : Int)) <;> cases h3 : (e.2.2.2.2.2.2.1.1 == (2 : Int)) <;> simp
theorem aaY (x : Ty.T y27) : (!gM x) = cond (cu x) (!mA x) false := by
 unfold gM
 rw [Al, gone]
 cases cu x <;> rfl
theorem KU (e : Ty.T ab) (r : Int) (l : List (Ty.T y27)) (hb : l.length <= 1048576) : iter qa (xf ([], 0, r, 0, e, (0, 0, 0, 0, (0, 0, 0, 0, 0, 0, 0), (0, 0), (0, 0, 0, 0, 0, false, []), 0, 0), l, [], ())) ([], 0, r, 0, e, (0, 0, 0, 0, (0, 0, 0, 0, 0, 0, 0), (0, 0), (0, 0, 0, 0, 0, false, []), 0, 0), l, [], ()) = some (0, ([], 0, r, (l.length : Int), e, (0, 0, 0, 0, (0, 0, 0, 0, 0, 0, 0), (0, 0), (0, 0, 0, 0, 0, false, []), 0, 0), l, (l.filter fun x => !gM x), ())) := by
 refine ee (s := qa) (f := fun i => ([], 0, r, (i : Int), e, (0, 0, 0, 0, (0, 0, 0, 0, 0, 0, 0), (0, 0), (0, 0, 0, 0, 0, false, []), 0, 0), l, ((l.take i).filter fun x => !gM x), ())) (c := 0) (N := l.length) (fun i hi => ?_) ?_ l.length 0 _ (by omega) (by simp only [xf]; omega)
 ·have h1 : l[i]? = some l[i] := List.getElem?_eq_getElem hi
  have hw := aX (n := i) (by omega)
  have hz : ∀ x : Ty.T y27, ((l.take i).filter (fun x => !gM x) ++ [x]).length * 56 <= 140737488351232 := fun x => by
   have := List.length_filter_le (fun x => !gM x) (l.take i)
   simp only [List.length_append, List.length_cons, List.length_nil, List.length_take] at this ⊢
   omega
  have g5 : (0 : Int) <= (i : Int) := by omega
  have g6 : (i : Int) < (l.length : Int) := by omega
  have hk := aaY l[i]
  rw [e9 h1, hk]
  cases c1 : cu l[i] <;> cases c2 : mA l[i] <;> simp only [qa, sZ, IV, pY, lW, J8, IC, I4, vm, decide_eq_true g6, cond_true, cond_false, if_pos g5, if_pos g6, Int.toNat_natCast, h1, aA, c1, c2, hw, Bool.not_true, Bool.not_false, if_pos (hz _), decide_eq_true (hz _), decide_eq_true g5, Bool.and_true, List.append_nil, Option.getD_some, Option.isSome_some]
 ·simp [qa, sZ]
theorem PV (e : Ty.T ab) (v : Ty.T y27) (hb : e.2.2.2.2.2.2.1.2.2.2.2.2.2.length <= 1048576) : d214 e v = true /\ d228 e v = true /\ du e v = ct e v /\ (ct e v).2.2.2.1.length <= 3 /\ (ct e v).2.2.2.2 = e.2.2.2.2.2.2.1.2.2.2.2.2.2 /\ (ct e v).2.1 = (((e.1, e.2.1, e.2.2.1, e.2.2.2.1, e.2.2.2.2.1, e.2.2.2.2.2.1, e.2.2.2.2.2.2.1.1, e.2.2.2.2.2.2.1.2.1, e.2.2.2.2.2.2.1.2.2.1, e.2.2.2.2.2.2.1.2.2.2.1, e.2.2.2.2.2.2.1.2.2.2.2.1, e.2.2.2.2.2.2.1.2.2.2.2.2.1), e.2.2.2.2.2.2.2, e.2.2.2.2.2.2.1.2.2.2.2.2.2)).1 := by
 have h1 := gw e hb
 have h2 := WU e v hb
 have h3 := KU e (bN ([], 0, 0, e.2.2.2.2.2.2.1.1, (e.2.2.2.2.2.2.1.1 == (1 : Int)), e, v, (0, 0, 0, 0, (0, 0, 0, 0, 0, 0, 0), (0, 0), (0, 0, 0, 0, 0, false, []), 0, 0), [], ())).1 (bN ([], 0, 0, e.2.2.2.2.2.2.1.1, (e.2.2.2.2.2.2.1.1 == (1 : Int)), e, v, (0, 0, 0, 0, (0, 0, 0, 0, 0, 0, 0), (0, 0), (0, 0, 0, 0, 0, false, []), 0, 0), [], ())).2 (Dw e v hb)
 have h4 := cpS e hb
 have h5 := cpI e hb
 have h6 := V8 e (bN ([], 0, 0, e.2.2.2.2.2.2.1.1, (e.2.2.2.2.2.2.1.1 == (1 : Int)), e, v, (0, 0, 0, 0, (0, 0, 0, 0, 0, 0, 0), (0, 0), (0, 0, 0, 0, 0, false, []), 0, 0), [], ())).1 hb
 have h7 := afm (bN ([], 0, 0, e.2.2.2.2.2.2.1.1, (e.2.2.2.2.2.2.1.1 == (1 : Int)), e, v, (0, 0, 0, 0, (0, 0, 0, 0, 0, 0, 0), (0, 0), (0, 0, 0, 0, 0, false, []), 0, 0), [], ())).2 (Dw e v hb)
 have h8 := Dw e v hb
 have hk : JB [] 0 (bN ([], 0, 0, e.2.2.2.2.2.2.1.1, (e.2.2.2.2.2.2.1.1 == (1 : Int)), e, v, (0, 0, 0, 0, (0, 0, 0, 0, 0, 0, 0), (0, 0), (0, 0, 0, 0, 0, false, []), 0, 0), [], ())).1 0 e (0, 0, 0, 0, (0, 0, 0, 0, 0, 0, 0), (0, 0), (0, 0, 0, 0, 0, false, []), 0, 0) (bN ([], 0, 0, e.2.2.2.2.2.2.1.1, (e.2.2.2.2.2.2.1.1 == (1 : Int)), e, v, (0, 0, 0, 0, (0, 0, 0, 0, 0, 0, 0), (0, 0), (0, 0, 0, 0, 0, false, []), 0, 0), [], ())).2 [] 0 = true := aS h3 0
 have hw : KH [] 0 (bN ([], 0, 0, e.2.2.2.2.2.2.1.1, (e.2.2.2.2.2.2.1.1 == (1 : Int)), e, v, (0, 0, 0, 0, (0, 0, 0, 0, 0, 0, 0), (0, 0), (0, 0, 0, 0, 0, false, []), 0, 0), [], ())).1 0 e (0, 0, 0, 0, (0, 0, 0, 0, 0, 0, 0), (0, 0), (0, 0, 0, 0, 0, false, []), 0, 0) (bN ([], 0, 0, e.2.2.2.2.2.2.1.1, (e.2.2.2.2.2.2.1.1 == (1 : Int)), e, v, (0, 0, 0, 0, (0, 0, 0, 0, 0, 0, 0), (0, 0), (0, 0, 0, 0, 0, false, []), 0, 0), [], ())).2 [] = _ := bp h3
 have hs : (wc e (bN ([], 0, 0, e.2.2.2.2.2.2.1.1, (e.2.2.2.2.2.2.1.1 == (1 : Int)), e, v, (0, 0, 0, 0, (0, 0, 0, 0, 0, 0, 0), (0, 0), (0, 0, 0, 0, 0, false, []), 0, 0), [], ())).1).2.2 = e.2.2.2.2.2.2.1.2.2.2.2.2.2 /\ (wc e (bN ([], 0, 0, e.2.2.2.2.2.2.1.1, (e.2.2.2.2.2.2.1.1 == (1 : Int)), e, v, (0, 0, 0, 0, (0, 0, 0, 0, 0, 0, 0), (0, 0), (0, 0, 0, 0, 0, false, []), 0, 0), [], ())).1).1 = (((e.1, e.2.1, e.2.2.1, e.2.2.2.1, e.2.2.2.2.1, e.2.2.2.2.2.1, e.2.2.2.2.2.2.1.1, e.2.2.2.2.2.2.1.2.1, e.2.2.2.2.2.2.1.2.2.1, e.2.2.2.2.2.2.1.2.2.2.1, e.2.2.2.2.2.2.1.2.2.2.2.1, e.2.2.2.2.2.2.1.2.2.2.2.2.1), e.2.2.2.2.2.2.2, e.2.2.2.2.2.2.1.2.2.2.2.2.2)).1 := by
  unfold wc t275
  try simp only [nfs]
  rw [h4.1, h4.2]
  simp only [cond_true]
  cases (e.2.2.2.2.2.2.1.1 == (2 : Int)) <;> cases decide (e.2.2.2.2.2.2.2.2 > (0 : Int)) <;> exact ⟨rfl, rfl⟩
 have hg : uJ ([], 0, e, v, (0, 0, 0, 0, (0, 0, 0, 0, 0, 0, 0), (0, 0), (0, 0, 0, 0, 0, false, []), 0, 0), ()) = true /\ um ([], 0, e, v, (0, 0, 0, 0, (0, 0, 0, 0, 0, 0, 0), (0, 0), (0, 0, 0, 0, 0, false, []), 0, 0), ()) = cond (!eg e) true (cond (!cu v) true (!mB e.2.2.2.2.2.2.1 v.1)) := by
  simp only [uJ, um, qE, h1.1, cond_true]
  cases eg e <;> cases cu v <;> exact ⟨rfl, rfl⟩
 unfold d214 d228 ct du t214 t228
 try simp only [nfs]
 rw [hg.1, hg.2, h1.2.1, h1.2.2, Al, LQ]
 cases c1 : eg e
 ·rw [h4.1, h4.2, h5.1, h5.2]
  simp
 cases c2 : cu v
 ·rw [h4.1, h4.2, h5.1, h5.2]
  simp
 cases c3 : mB e.2.2.2.2.2.2.1 v.1
 ·rw [h4.1, h4.2, h5.1, h5.2]
  simp
 have h9 : ((bN ([], 0, 0, e.2.2.2.2.2.2.1.1, (e.2.2.2.2.2.2.1.1 == (1 : Int)), e, v, (0, 0, 0, 0, (0, 0, 0, 0, 0, 0, 0), (0, 0), (0, 0, 0, 0, 0, false, []), 0, 0), [], ())).2.filter fun x => !gM x).length <= 3 := Nat.le_trans (List.length_filter_le _ _) (UC e v hb c1)
 simp only [tZ, gO]
 rw [h2.1, h2.2.1, h2.2.2, hk, hw]
 simp only [h7.1, h7.2, h6.1, h6.2.1, h6.2.2, hs.1, hs.2, h9, cond_true, cond_false, Bool.not_true, Option.getD_some, Option.isSome_some, and_true, true_and]
theorem eaR (l : List (Ty.T ab)) (id : Int) (hb : l.length <= 1048576) : (mr l id < 0 /\ ∀ x ∈ l, ¬ x.1 = id) ∨ (∃ (j : Nat) (p : Ty.T ab), mr l id = (j : Int) /\ j < l.length /\ l[j]? = some p /\ p.1 = id) := by
 rw [(ea l id hb).2]
 cases h : first (fun i => match l[i]? with | some x => (x.1 == id) | none => false) 0 l.length with
 | none =>
  refine .inl ⟨by decide, fun x hx => ?_⟩
  obtain ⟨i, hi, rfl⟩ := List.mem_iff_getElem.1 hx
  have := lF h i (by omega) (by omega)
  simp only [List.getElem?_eq_getElem hi] at this
  simpa using this
 | some j =>
  obtain ⟨_, hj, hp⟩ := iY h
  have e : l[j]? = some l[j] := List.getElem?_eq_getElem (by omega)
  simp only [e] at hp
  exact .inr ⟨j, l[j], rfl, by omega, e, eq_of_beq hp⟩
theorem update (T : List (Ty.T ab)) (n : Ty.T ab) (hb : T.length <= 1048576) (hv : ∀ x ∈ T, x.2.2.2.2.2.2.1.2.2.2.2.2.2.length <= 1048576) (hn : n.2.2.2.2.2.2.1.2.2.2.2.2.2.length <= 1048576) : d247 T n = true /\ d231 T n = true /\ Uv T n = Ap T n /\ (Ap T n).map (·.1) = T.map (·.1) /\ ∀ x ∈ Ap T n, x.2.2.2.2.2.2.1.2.2.2.2.2.2.length <= 1048576 := by
 have h1 := ctS T hb hv
 have h2 := ctI T hb hv
 have h3 := cpS n hn
 have h4 := cpI n hn
 have h5 := ei T n.1 hb
 have h6 := ea T n.1 hb
 unfold d247 d231 Ap Uv t247 t231
 try simp only [nfs]
 rw [h1.1, h1.2, h2.1, h2.2, h3.1, h3.2, h4.1, h4.2, h5.1, h5.2, h6.1]
 rcases eaR T n.1 hb with ⟨h, _⟩ | ⟨j, p, hj, hl, hp, hi⟩
 ·have e : ¬ mr T n.1 ≥ 0 := by omega
  rw [decide_eq_false e]
  exact ⟨rfl, rfl, rfl, rfl, hv⟩
 ·have g0 : (0 : Int) <= (j : Int) := by omega
  have g1 : (j : Int) < (T.length : Int) := by omega
  have g2 : (j : Int) ≥ 0 := g0
  rw [hj]
  simp only [decide_eq_true g2, decide_eq_true g0, decide_eq_true g1, cond_true, if_pos g0, if_pos g1, Int.toNat_natCast, hp, aA, pB, rV, Option.getD_some, Option.isSome_some, Bool.and_true, true_and, and_true]
  refine ⟨?_, fun x hx => ?_⟩
  ·rw [List.map_set]
   apply List.ext_getElem?
   intro i
   by_cases hij : j = i
   ·subst hij
    simp [hl, hp, hi]
    rw [(List.getElem?_eq_some_iff.1 hp).2]
    exact hi.symm
   ·rw [List.getElem?_set_ne hij]
  ·rcases List.mem_or_eq_of_mem_set hx with h | rfl
   ·exact hv x h
   ·exact hn
theorem aao (h0 : List (Ty.T (.int .i64))) (h1 : List (Ty.T (.int .i64))) (h4 : Int) (h5 : List (Ty.T (.int .i64))) (h6 : Int) (h7 : Bool) (h8 : List (Ty.T (.int .i64))) (h9 : Int) (h10 : Int) (h11 : Int) (h12 : Bool) (h13 : Int) (i : Nat) (l : List (Ty.T (.int .i64))) (x : Ty.T (.int .i64)) (hx : h0[i]? = some x) (hb : l.length <= 2097152) : ∃ p : Nat, p <= l.length /\ iter ot (tU (h0, h1, (i : Int), (l.length : Int), h4, h5, h6, h7, h8, h9, h10, h11, h12, h13, l, ())) (h0, h1, (i : Int), (l.length : Int), h4, h5, h6, h7, h8, h9, h10, h11, h12, h13, l, ()) = some (0, (h0, h1, (i : Int), (p : Int), h4, h5, h6, h7, h8, h9, h10, h11, h12, h13, l, ())) := by
 obtain ⟨v', h1, p, hp, rfl⟩ := sA (s := ot) (Q := fun v => ∃ p : Nat, p <= l.length /\ v = (h0, h1, (i : Int), (p : Int), h4, h5, h6, h7, h8, h9, h10, h11, h12, h13, l, ())) (fun k v => k <= l.length /\ v = (h0, h1, (i : Int), (k : Int), h4, h5, h6, h7, h8, h9, h10, h11, h12, h13, l, ())) (fun k v hI => by
  obtain ⟨hk, rfl⟩ := hI
  cases k with
  | zero =>
   refine .inl ⟨_, ?_, 0, Nat.zero_le _, rfl⟩
   simp [ot, qV, yE, y8, lO]
  | succ k =>
   have hw : IntKind.wrap .i64 (((k + 1 : Nat) : Int) - 1) = (k : Int) := lj k (by omega)
   obtain ⟨y, hy⟩ : ∃ y, l[k]? = some y := ⟨l[k]'(by omega), List.getElem?_eq_getElem _⟩
   have g0 : ((k + 1 : Nat) : Int) > 0 := by omega
   have g1 : (0 : Int) <= (k : Int) := by omega
   have g2 : (k : Int) < (l.length : Int) := by omega
   have g3 : (0 : Int) <= (i : Int) := by omega
   by_cases hc : y > x
   ·exact .inr ⟨k, _, rfl, by simp only [ot, qV, yE, y8, lO, decide_eq_true g0, cond_true, hw, if_pos g1, if_pos g2, decide_eq_true g1, decide_eq_true g2, Int.toNat_natCast, hy, aA, if_pos g3, decide_eq_true g3, hx, pB, rV, Option.isSome_some, Option.getD_some, Bool.and_true, decide_eq_true hc], by omega, rfl⟩
   ·exact .inl ⟨_, by simp only [ot, qV, yE, y8, lO, decide_eq_true g0, cond_true, hw, if_pos g1, if_pos g2, decide_eq_true g1, decide_eq_true g2, Int.toNat_natCast, hy, aA, if_pos g3, decide_eq_true g3, hx, pB, rV, Option.isSome_some, Option.getD_some, Bool.and_true, decide_eq_false hc, cond_false], k + 1, hk, rfl⟩) l.length (h0, h1, (i : Int), (l.length : Int), h4, h5, h6, h7, h8, h9, h10, h11, h12, h13, l, ()) (tU (h0, h1, (i : Int), (l.length : Int), h4, h5, h6, h7, h8, h9, h10, h11, h12, h13, l, ())) ⟨Nat.le_refl _, rfl⟩ (by simp only [tU]; omega)
 exact ⟨p, hp, h1⟩
theorem Yb (h0 : List (Ty.T (.int .i64))) (h1 : List (Ty.T (.int .i64))) (h4 : Int) (h5 : List (Ty.T (.int .i64))) (h6 : Int) (h7 : Bool) (h8 : List (Ty.T (.int .i64))) (h9 : Int) (h10 : Int) (h11 : Int) (h12 : Bool) (h13 : Int) (i : Nat) (l : List (Ty.T (.int .i64))) (x : Ty.T (.int .i64)) (hx : h0[i]? = some x) (hb : l.length <= 2097152) : ∃ p : Nat, p <= l.length /\ PL h0 h1 (i : Int) (l.length : Int) h4 h5 h6 h7 h8 h9 h10 h11 h12 h13 l 0 = true /\ RM h0 h1 (i : Int) (l.length : Int) h4 h5 h6 h7 h8 h9 h10 h11 h12 h13 l = (h0, h1, (i : Int), (p : Int), h4, h5, h6, h7, h8, h9, h10, h11, h12, h13, l, ()) := by
 obtain ⟨p, h1, h2⟩ := aao h0 h1 h4 h5 h6 h7 h8 h9 h10 h11 h12 h13 i l x hx hb
 exact ⟨p, h1, aS h2 0, bp h2⟩
theorem J0 {xs : List (Ty.T (.int .i64))} (hn : xs.Nodup) {t : Nat} (ht : t < xs.length) : (xs.take t).any (fun y => y == xs[t]) = false := by
 rw [List.any_eq_false]
 intro y hy he
 obtain ⟨j, hj, rfl⟩ := List.mem_iff_getElem.1 hy
 rw [List.length_take] at hj
 have := List.pairwise_iff_getElem.1 hn j t (by omega) ht (by omega)
 rw [List.getElem_take] at he
 exact this (eq_of_beq he)
theorem setOf (xs : List (Ty.T (.int .i64))) (hn : xs.Nodup) (hb : xs.length <= 1048577) : d301 xs = true /\ (NI xs).Perm xs := by
 have h := xB (s := ur) (mk := fun k : Nat × List (Ty.T (.int .i64)) => (xs, [], (k.1 : Int), k.2, ())) (Inv := fun t k => k.1 = t /\ k.2.Perm (xs.take t)) (Q := fun v => ∃ l : List (Ty.T (.int .i64)), v = (xs, [], (xs.length : Int), l, ()) /\ l.Perm xs) (c := 0) (N := xs.length) (fun t k ht hI => by
  obtain ⟨r, l⟩ := k
  obtain ⟨hr, hp⟩ := hI
  dsimp only at hr hp
  subst hr
  have hx : xs[r]? = some xs[r] := List.getElem?_eq_getElem ht
  have hlen : l.length = r := by rw [hp.length_eq, List.length_take]; omega
  have hh := ads l xs[r] (by omega)
  have hany : (l.any fun y => y == xs[r]) = false := by
   rw [List.any_eq_false]
   intro y hy
   have := List.any_eq_false.1 (J0 hn ht) y (hp.mem_iff.1 hy)
   exact this
  have g5 : (0 : Int) <= (r : Int) := by omega
  have g6 : (r : Int) < (xs.length : Int) := by omega
  have hw1 := aX (n := r) (by omega)
  obtain ⟨p, hpl, hk, hw⟩ := Yb xs [] (r : Int) xs (xs.length : Int) true xs (r : Int) xs[r] xs[r] false (l.length : Int) r l xs[r] hx (by omega)
  have g7 : (0 : Int) <= (p : Int) := by omega
  have g8 : (p : Int) <= (l.length : Int) := by omega
  have z1 : ([] ++ ((l.drop 0).take p) : List (Ty.T (.int .i64))).length * 8 <= 140737488351232 := by simp only [List.nil_append, List.length_take, List.length_drop]; omega
  have z2 : (([] ++ ((l.drop 0).take p)) ++ [xs[r]] : List (Ty.T (.int .i64))).length * 8 <= 140737488351232 := by simp only [List.nil_append, List.length_append, List.length_cons, List.length_nil, List.length_take, List.length_drop]; omega
  have z3 : ((([] ++ ((l.drop 0).take p)) ++ [xs[r]]) ++ ((l.drop p).take (l.length - p)) : List (Ty.T (.int .i64))).length * 8 <= 140737488351232 := by simp only [List.nil_append, List.length_append, List.length_cons, List.length_nil, List.length_take, List.length_drop]; omega
  refine ⟨(r + 1, (([] ++ ((l.drop 0).take p)) ++ [xs[r]]) ++ ((l.drop p).take (l.length - p))), ?_, rfl, ?_⟩
  ·simp only [ur, tp, cr, decide_eq_true g6, cond_true, if_pos g5, Int.toNat_natCast, hx, aA, hh.1, hh.2, hany, cond_false, hk, hw]
   simp only [JH, Ky, p5, if_pos g5, if_pos g7, if_pos g8, decide_eq_true g5, decide_eq_true g7, decide_eq_true g8, Int.toNat_natCast, hx, aA, pB, rV, if_pos z1, if_pos z2, if_pos z3, decide_eq_true z1, decide_eq_true z2, decide_eq_true z3, Bool.and_true, Option.isSome_some, Option.getD_some, cond_true, hw1]
  ·show List.Perm _ (xs.take (r + 1))
   rw [dU hx]
   have e : (([] ++ ((l.drop 0).take p)) ++ [xs[r]]) ++ ((l.drop p).take (l.length - p)) = l.take p ++ xs[r] :: l.drop p := by
    rw [List.take_of_length_le (l := l.drop p) (by rw [List.length_drop]; omega)]
    simp
   rw [e]
   have h3 : (l.take p ++ xs[r] :: l.drop p).Perm (xs[r] :: (l.take p ++ l.drop p)) := List.perm_middle
   rw [List.take_append_drop] at h3
   exact h3.trans ((List.Perm.cons _ hp).trans (List.perm_append_singleton _ _).symm))
  (fun k hI => by
   obtain ⟨r, l⟩ := k
   obtain ⟨hr, hp⟩ := hI
   dsimp only at hr hp
   subst hr
   rw [List.take_length] at hp
   refine ⟨_, ?_, l, rfl, hp⟩
   simp [ur, tp])
  xs.length 0 (wH (xs, [], ((0 : Nat) : Int), [], ())) (0, []) (by omega) (by simp only [wH]; omega) ⟨rfl, by simp⟩
 obtain ⟨v', h1, l, rfl, hp⟩ := h
 have hk : QV xs [] 0 [] 0 = true := aS h1 0
 have hw : PE xs [] 0 [] = _ := bp h1
 unfold d301 NI t301
 try simp only [nfs]
 rw [hk, hw]
 exact ⟨rfl, hp⟩
theorem VA (u : List (Ty.T (.int .i64))) (n : Int) (hn : u.Nodup) (hu : (u.any fun y => y == n) = false) (hb : u.length <= 1048576) : d248 u n = true /\ (yN u n).Perm (u ++ [n]) := by
 have hd : (u ++ [n]).Nodup := by
  rw [List.nodup_append]
  refine ⟨hn, by simp, fun a ha b hb2 e => ?_⟩
  rw [List.mem_singleton] at hb2
  subst e hb2
  have := List.any_eq_false.1 hu _ ha
  simp at this
 have h := setOf (u ++ [n]) hd (by simp only [List.length_append, List.length_cons, List.length_nil]; omega)
 unfold d248 yN
 simp only [List.nil_append]
 rw [h.1]
 refine ⟨?_, h.2⟩
 have z1 : (u : List (Ty.T (.int .i64))).length * 8 <= 140737488351232 := by omega
 have z2 : (u ++ [n] : List (Ty.T (.int .i64))).length * 8 <= 140737488351232 := by simp only [List.length_append, List.length_cons, List.length_nil]; omega
 rw [decide_eq_true z1, decide_eq_true z2]
 rfl
theorem SZ (s : Ty.T y36) (l : List (Ty.T ab)) (e : Ty.T y27) (u w : List (Ty.T (.int .i64))) (hb : s.1.length <= 1048576) (hs : s.2.1.length <= 1048576) (hn : l.length <= 1048576) (hu : u.length <= 1048576) (hv : ∀ x ∈ l, x.2.2.2.2.2.2.1.2.2.2.2.2.2.length <= 1048576) (hp : u.Perm w) : ej s l e u = ej s l e w := by
 rw [(Ql s l e u hb hs hn hu hv).2, (Ql s l e w hb hs hn (by rw [← hp.length_eq]; exact hu) hv).2]
 have : gZ s e u = gZ s e w := by
  funext p x
  unfold gZ
  rw [hp.any_eq]
 rw [this]
theorem pick (cs : List (Ty.T (.int .i64))) (n : Nat) (h1 : 0 < n) (hn : n <= 1048576) (hc : cs.length <= 1048576) : d245 cs (n : Int) = true /\ d138 cs (n : Int) = true /\ GK cs (n : Int) = gR cs (n : Int) /\ @LE.le Int _ 0 (gR cs (n : Int)).1 /\ @LT.lt Int _ (gR cs (n : Int)).1 (n : Int) /\ (gR cs (n : Int)).2 = (if n < 2 then cs else cs.tail) /\ (cs = [] -> (gR cs (n : Int)).1 = (0 : Int)) /\ (n < 2 -> (gR cs (n : Int)).1 = (0 : Int)) := by
 have hcl := KZ cs (by omega)
 have z1 : cs.length * 8 <= 140737488351232 := by omega
 by_cases h2 : n < 2
 ·have b1 : decide ((n : Int) < 2) = true := decide_eq_true (by omega)
  simp only [d245, t245, gR, d138, t138, GK, b1, cond_true, List.nil_append, if_pos z1, hcl, fV, if_pos h2, Option.isSome_some, Option.getD_some, nfs]
  refine ⟨trivial, trivial, trivial, ?_, ?_, trivial, fun _ => trivial, fun _ => trivial⟩ <;> omega
 ·have b1 : decide ((n : Int) < 2) = false := decide_eq_false (by omega)
  cases cs with
  | nil =>
   have b2 : (((([] : List (Ty.T (.int .i64))).length : Nat) : Int) == (0 : Int)) = true := rfl
   simp only [d245, t245, gR, d138, t138, GK, b1, b2, cond_true, cond_false, List.nil_append, if_pos z1, hcl, fV, if_neg h2, Option.isSome_some, Option.getD_some, List.tail_nil, nfs]
   refine ⟨trivial, trivial, trivial, ?_, ?_, trivial, fun _ => trivial, fun _ => trivial⟩ <;> omega
  | cons x cs =>
   have b2 : ((((x :: cs : List (Ty.T (.int .i64))).length : Nat) : Int) == (0 : Int)) = false := by simp; omega
   have b3 : ¬ (n : Int) = 0 := by omega
   have b4 : (1 : Int) <= ((x :: cs : List (Ty.T (.int .i64))).length : Int) := by simp only [List.length_cons]; omega
   have e1 : ((x :: cs : List (Ty.T (.int .i64))).take (x :: cs : List (Ty.T (.int .i64))).length).drop 1 = cs := by rw [List.take_length]; rfl
   have hl : cs.length <= 1048576 := by simp only [List.length_cons] at hc; omega
   have z2 : cs.length * 8 <= 140737488351232 := by omega
   have hcl2 := KZ cs (by omega)
   have m1 : Int.tmod x (n : Int) < (n : Int) := Int.tmod_lt_of_pos x (by omega)
   have m2 : -(n : Int) < Int.tmod x (n : Int) := Int.lt_tmod_of_pos x (by omega)
   have h0 : ((x :: cs : List (Ty.T (.int .i64)))[0]?) = some x := rfl
   by_cases h3 : Int.tmod x (n : Int) < 0
   ·have hw : IntKind.wrap .i64 (Int.tmod x (n : Int) + (n : Int)) = Int.tmod x (n : Int) + (n : Int) := bR (by omega) (by omega)
    simp only [d245, t245, gR, d138, t138, GK, b1, b2, cond_true, cond_false, h0, aA, if_neg b3, decide_eq_true h3, if_pos b4, e1, List.nil_append, if_pos z2, hcl2, fV, if_neg h2, Option.isSome_some, Option.getD_some, hw, List.tail_cons, nfs]
    refine ⟨trivial, trivial, trivial, ?_, ?_, trivial, (fun h => by cases h), (fun h => absurd h (by omega))⟩ <;> omega
   ·simp only [d245, t245, gR, d138, t138, GK, b1, b2, cond_true, cond_false, h0, aA, if_neg b3, decide_eq_false h3, if_pos b4, e1, List.nil_append, if_pos z2, hcl2, fV, if_neg h2, Option.isSome_some, Option.getD_some, List.tail_cons, nfs]
    refine ⟨trivial, trivial, trivial, ?_, ?_, trivial, (fun h => by cases h), (fun h => absurd h (by omega))⟩ <;> omega
def kO (f : Ty.T y27 -> List (Ty.T ab) -> List (Ty.T (.int .i64)) -> List (Ty.T ab) × List (Ty.T y27) × List (Ty.T (.int .i64)) × List (Ty.T y66)) : List (Ty.T y27) -> List (Ty.T ab) -> List (Ty.T (.int .i64)) -> List (Ty.T ab) × List (Ty.T y27) × List (Ty.T (.int .i64)) × List (Ty.T y66)
 | [], T, cs => (T, [], cs, [])
 | y :: L, T, cs => ((kO f L (f y T cs).1 (f y T cs).2.2.1).1, (f y T cs).2.1 ++ (kO f L (f y T cs).1 (f y T cs).2.2.1).2.1, (kO f L (f y T cs).1 (f y T cs).2.2.1).2.2.1, (f y T cs).2.2.2 ++ (kO f L (f y T cs).1 (f y T cs).2.2.1).2.2.2)
noncomputable def tA (r : (Int) × (Ty.T q0) × (Ty.T aT) × (List (Ty.T y27)) × (List (Ty.T y27))) : Ty.T ab := (r.2.1.1, r.2.1.2.1, r.2.1.2.2.1, r.2.1.2.2.2.1, r.2.1.2.2.2.2.1, r.2.1.2.2.2.2.2.1, (r.2.1.2.2.2.2.2.2.1, r.2.1.2.2.2.2.2.2.2.1, r.2.1.2.2.2.2.2.2.2.2.1, r.2.1.2.2.2.2.2.2.2.2.2.1, r.2.1.2.2.2.2.2.2.2.2.2.2.1, r.2.1.2.2.2.2.2.2.2.2.2.2.2, r.2.2.2.2), r.2.2.1)
noncomputable def xJ (s : Ty.T y36) (p : Ty.T ab) (x : Ty.T y27) (k : Int) (n : Nat) (u : List (Ty.T (.int .i64))) : Ty.T y66 := (p.1, we s x, k, (n : Int), x, (ct p x).2.2.2.1, (ct p x).1, (u.length : Int))
noncomputable def atW (T : List (Ty.T ab)) (id : Int) : Ty.T ab := (T[(mr T id).toNat]?).getD (Ty.zero ab)
noncomputable def mwC (f : Ty.T y27 -> List (Ty.T (.int .i64)) -> List (Ty.T ab) -> List (Ty.T (.int .i64)) -> List (Ty.T ab) × List (Ty.T y27) × List (Ty.T (.int .i64)) × List (Ty.T y66)) (s : Ty.T y36) (x : Ty.T y27) (u : List (Ty.T (.int .i64))) (T : List (Ty.T ab)) (cs : List (Ty.T (.int .i64))) (oo : List (Ty.T (.int .i64))) : List (Ty.T ab) × List (Ty.T y27) × List (Ty.T (.int .i64)) × List (Ty.T y66) :=
 let k1 := gR cs (oo.length : Int)
 let p := atW T (oo.getD k1.1.toNat 0)
 let z := kO (fun y => f y (u ++ [p.1])) (ct p x).2.2.2.1 (Ap T (tA (ct p x))) k1.2
 (z.1, z.2.1, z.2.2.1, xJ s p x k1.1 oo.length u :: z.2.2.2)
noncomputable def mw (s : Ty.T y36) : Nat -> Ty.T y27 -> List (Ty.T (.int .i64)) -> List (Ty.T ab) -> List (Ty.T (.int .i64)) -> List (Ty.T ab) × List (Ty.T y27) × List (Ty.T (.int .i64)) × List (Ty.T y66)
 | 0, _, _, T, cs => (T, [], cs, [])
 | k + 1, x, u, T, cs =>
  match ej s T x u with
  | [] => (T, cond (mA x) [] [x], cs, [])
  | o :: os => mwC (mw s k) s x u T cs (o :: os)
structure Gk (c : Nat) (ids : List (Ty.T (.int .i64))) (T : List (Ty.T ab)) (out : List (Ty.T y27)) (cs : List (Ty.T (.int .i64))) (made : List (Ty.T y66)) : Prop where
 tb : T.length <= 1048576
 tv : ∀ x ∈ T, x.2.2.2.2.2.2.1.2.2.2.2.2.2.length <= 1048576
 ti : T.map (·.1) = ids
 ob : out.length + c <= 1048576
 mb : made.length + c <= 1048576
 cb : cs.length <= 1048576
 mv : ∀ t ∈ made, t.2.2.2.2.2.1.length <= 1048576
theorem Gk.XR {c c' : Nat} {ids : List (Ty.T (.int .i64))} {T : List (Ty.T ab)} {out : List (Ty.T y27)} {cs : List (Ty.T (.int .i64))} {made : List (Ty.T y66)} (h : Gk c ids T out cs made) (hc : c' <= c) : Gk c' ids T out cs made :=
 ⟨h.tb, h.tv, h.ti, by have := h.ob; omega, by have := h.mb; omega, h.cb, h.mv⟩
def K2 (w : Nat) (RS : aW) (RI : bD) (M : Ty.T y27 -> List (Ty.T ab) -> List (Ty.T (.int .i64)) -> List (Ty.T ab) × List (Ty.T y27) × List (Ty.T (.int .i64)) × List (Ty.T y66)) (uS uI : List (Ty.T (.int .i64))) (s : Ty.T y36) (ids : List (Ty.T (.int .i64))) : Prop :=
 ∀ x T out cs made c, Gk (c + w) ids T out cs made -> RS x uS s T cs out made = (true, (s, (M x T cs).1, (M x T cs).2.2.1, out ++ (M x T cs).2.1, made ++ (M x T cs).2.2.2)) /\ RI x uI s out T cs made = (true, (true, s, out ++ (M x T cs).2.1, (M x T cs).1, (M x T cs).2.2.1, made ++ (M x T cs).2.2.2)) /\ Gk c ids (M x T cs).1 (out ++ (M x T cs).2.1) (M x T cs).2.2.1 (made ++ (M x T cs).2.2.2)
theorem Vh {w : Nat} {RS : aW} {RI : bD} {M : Ty.T y27 -> List (Ty.T ab) -> List (Ty.T (.int .i64)) -> List (Ty.T ab) × List (Ty.T y27) × List (Ty.T (.int .i64)) × List (Ty.T y66)} {uS uI : List (Ty.T (.int .i64))} {s : Ty.T y36} {ids : List (Ty.T (.int .i64))} (hG : K2 w RS RI M uS uI s ids) (L : List (Ty.T y27)) (hL : L.length <= 1048576) :
  ∀ (rem i n1 n2 c : Nat) (T : List (Ty.T ab)) (out : List (Ty.T y27)) (cs : List (Ty.T (.int .i64))) (made : List (Ty.T y66)) (z : List (Ty.T ab) × List (Ty.T y27) × List (Ty.T (.int .i64)) × List (Ty.T y66)), kO M (L.drop i) T cs = z -> i + rem = L.length -> rem < n1 -> rem < n2 -> Gk (c + rem * w) ids T out cs made ->
   iter (gv RS) n1 (uS, (i : Int), s, L, T, cs, out, made, ()) = some (0, (uS, (L.length : Int), s, L, z.1, z.2.2.1, out ++ z.2.1, made ++ z.2.2.2, ())) /\
    iter (gF RI) n2 (uI, false, L, (L.length : Int), (i : Int), s, T, out, cs, made, ()) = some (1, (uI, false, L, (L.length : Int), (L.length : Int), s, z.1, out ++ z.2.1, z.2.2.1, made ++ z.2.2.2, ())) /\ Gk c ids z.1 (out ++ z.2.1) z.2.2.1 (made ++ z.2.2.2)
 | 0, i, n1, n2, c, T, out, cs, made, z, hz, hi, hn1, hn2, hT => by
  obtain ⟨n1, rfl⟩ : ∃ n', n1 = n' + 1 := ⟨n1 - 1, by omega⟩
  obtain ⟨n2, rfl⟩ : ∃ n', n2 = n' + 1 := ⟨n2 - 1, by omega⟩
  have : i = L.length := by omega
  subst this
  rw [List.drop_length] at hz
  subst hz
  have e1 : gv RS (uS, (L.length : Int), s, L, T, cs, out, made, ()) = some (1, (uS, (L.length : Int), s, L, T, cs, out, made, ())) := by simp [gv, lv]
  have e2 : gF RI (uI, false, L, (L.length : Int), (L.length : Int), s, T, out, cs, made, ()) = some (2, (uI, false, L, (L.length : Int), (L.length : Int), s, T, out, cs, made, ())) := by simp [gF, kF]
  simp only [kO, List.append_nil]
  refine ⟨?_, ?_, hT.XR (by omega)⟩
  ·rw [iter, e1]; rfl
  ·rw [iter, e2]; rfl
 | rem + 1, i, n1, n2, c, T, out, cs, made, z, hz, hi, hn1, hn2, hT => by
  obtain ⟨n1, rfl⟩ : ∃ n', n1 = n' + 1 := ⟨n1 - 1, by omega⟩
  obtain ⟨n2, rfl⟩ : ∃ n', n2 = n' + 1 := ⟨n2 - 1, by omega⟩
  have h1 : L[i]? = some (L[i]'(by omega)) := List.getElem?_eq_getElem (by omega)
  have g5 : (0 : Int) <= (i : Int) := by omega
  have g6 : (i : Int) < (L.length : Int) := by omega
  have hw := aX (n := i) (by omega)
  rw [List.drop_eq_getElem_cons (by omega)] at hz
  generalize L[i]'(by omega) = y at h1 hz
  obtain ⟨hS, hI, hT1⟩ := hG y T out cs made (c + rem * w) (hT.XR (by rw [Nat.succ_mul]; omega))
  obtain ⟨⟨T1, o1, c1, t1⟩, hm⟩ : ∃ q, M y T cs = q := ⟨_, rfl⟩
  simp only [kO, hm] at hz
  rw [hm] at hS hI hT1
  dsimp only at hS hI hT1
  obtain ⟨⟨T2, o2, c2, t2⟩, hf⟩ : ∃ q, kO M (L.drop (i + 1)) T1 c1 = q := ⟨_, rfl⟩
  rw [hf] at hz
  subst hz
  have e1 : gv RS (uS, (i : Int), s, L, T, cs, out, made, ()) = some (0, (uS, ((i + 1 : Nat) : Int), s, L, T1, c1, out ++ o1, made ++ t1, ())) := by
   simp only [gv, lv, decide_eq_true g6, cond_true, if_pos g5, if_pos g6, Int.toNat_natCast, h1, aA, hS, hw]
  have e2 : gF RI (uI, false, L, (L.length : Int), (i : Int), s, T, out, cs, made, ()) = some (0, (uI, false, L, (L.length : Int), ((i + 1 : Nat) : Int), s, T1, out ++ o1, c1, made ++ t1, ())) := by
   simp only [gF, kF, decide_eq_true g6, cond_true, if_pos g5, Int.toNat_natCast, h1, aA, hI, Bool.not_true, cond_false, hw]
  obtain ⟨h3, h4, h5⟩ := Vh hG L hL rem (i + 1) n1 n2 c T1 (out ++ o1) c1 (made ++ t1) _ hf (by omega) (by omega) (by omega) hT1
  simp only [← List.append_assoc]
  refine ⟨?_, ?_, h5⟩
  ·rw [iter, e1]; exact h3
  ·rw [iter, e2]; exact h4
theorem Y8 {RS : aW} {x : Ty.T y27} {u : List (Ty.T (.int .i64))} {s : Ty.T y36} {T : List (Ty.T ab)} {cs : List (Ty.T (.int .i64))} {out : List (Ty.T y27)} {made : List (Ty.T y66)} {r} (h : kr RS x u s T cs out made some = some r) : (sh RS x u s T cs out made, rF RS x u s T cs out made) = (true, r) := by
 unfold sh rF
 rw [h]
 rfl
theorem YL {RI : bD} {x : Ty.T y27} {u : List (Ty.T (.int .i64))} {s : Ty.T y36} {T : List (Ty.T ab)} {out : List (Ty.T y27)} {cs : List (Ty.T (.int .i64))} {made : List (Ty.T y66)} {r} (h : kn RI x u s out T cs made some = some r) : (sd RI x u s out T cs made, sF RI x u s out T cs made) = (true, r) := by
 unfold sd sF
 rw [h]
 rfl
theorem V1 {w k : Nat} {RS : aW} {RI : bD} {uS uI : List (Ty.T (.int .i64))} {s : Ty.T y36} {ids : List (Ty.T (.int .i64))} (hb : s.1.length <= 1048576) (hs : s.2.1.length <= 1048576) (hp : uS.Perm uI) (hn : uS.Nodup) (hu : uS.length <= 1048576)
  (hG : ∀ y, y ∈ ids -> (uS.any fun z => z == y) = false -> K2 w RS RI (fun x => mw s k x (uI ++ [y])) (yN uS y) (uI ++ [y]) s ids) :
  K2 (1 + 3 * w) (fun a0 a1 a2 a3 a4 a5 a6 => (sh RS a0 a1 a2 a3 a4 a5 a6, rF RS a0 a1 a2 a3 a4 a5 a6)) (fun a0 a1 a2 a3 a4 a5 a6 => (sd RI a0 a1 a2 a3 a4 a5 a6, sF RI a0 a1 a2 a3 a4 a5 a6)) (fun x => mw s (k + 1) x uI) uS uI s ids := by
 intro x T out cs made c hT
 have hul : uI.length = uS.length := hp.length_eq.symm
 have ho := options s T x uS hb hs hT.tb hu hT.tv
 have hi := options s T x uI hb hs hT.tb (by omega) hT.tv
 have he := SZ s T x uS uI hb hs hT.tb hu hT.tv hp
 obtain ⟨hd, -, -, hlen, hmem⟩ := ho
 obtain ⟨-, hdI, hvI, -, -⟩ := hi
 have hvM := he.symm
 rw [← he] at hvI
 clear he
 obtain ⟨o, hoe⟩ : ∃ o, ej s T x uS = o := ⟨_, rfl⟩
 rw [hoe] at hlen hmem hvI hvM
 have hob := hT.ob
 have hmb := hT.mb
 cases o with
 | nil =>
  have hmw : mw s (k + 1) x uI T cs = (T, cond (mA x) [] [x], cs, []) := by
   rw [mw, hvM]
  dsimp only
  rw [hmw]
  have z1 : (out ++ [x] : List (Ty.T y27)).length * 56 <= 140737488351232 := by simp only [List.length_append, List.length_cons, List.length_nil]; omega
  have z2 : (out.length + 1) * 56 <= 140737488351232 := by omega
  cases hgn : mA x
  ·simp only [cond_false, List.append_nil]
   refine ⟨Y8 ?_, YL ?_, ⟨hT.tb, hT.tv, hT.ti, by simp only [List.length_append, List.length_cons, List.length_nil]; omega, by omega, hT.cb, hT.mv⟩⟩
   ·simp [kr, hd, hoe, hgn, rO, rJ, iL, rG, iP, z2]
   ·simp [kn, hdI, hvI, gone, hgn, rl, ry, jD, sn, iw, z2]
  ·simp only [cond_true, List.append_nil]
   refine ⟨Y8 ?_, YL ?_, hT.XR (by omega)⟩
   ·simp [kr, hd, hoe, hgn, rO, rJ, iL, rG, iP]
   ·simp [kn, hdI, hvI, gone, hgn, rl, ry, jD, sn, iw]
 | cons y0 o =>
  have hne : ((((y0 :: o).length : Nat) : Int) == (0 : Int)) = false := by simp; omega
  have hmw : mw s (k + 1) x uI T cs = mwC (mw s k) s x uI T cs (y0 :: o) := by rw [mw, hvM]
  obtain ⟨oo, hoo⟩ : ∃ oo, oo = y0 :: o := ⟨_, rfl⟩
  rw [← hoo] at hoe hvI hne hmem hlen hmw
  have hol : oo.length <= 1048576 := Nat.le_trans hlen hT.tb
  have hpos : 0 < oo.length := by rw [hoo]; simp
  obtain ⟨pd, pdI, pvI, pk0, pkn, pcs, -, -⟩ := pick cs oo.length hpos hol hT.cb
  obtain ⟨⟨kk, cs1⟩, hpk⟩ : ∃ q, gR cs (oo.length : Int) = q := ⟨_, rfl⟩
  rw [hpk] at pvI pk0 pkn pcs
  dsimp only at pk0 pkn pcs
  have hcb1 : cs1.length <= 1048576 := by
   rw [pcs]
   have := hT.cb
   split
   ·exact this
   ·rw [List.length_tail]; omega
  obtain ⟨ch, hch⟩ : ∃ ch : Nat, @Eq Int kk (ch : Int) := ⟨Int.toNat kk, (Int.toNat_of_nonneg pk0).symm⟩
  have hcl : ch < oo.length := by have := pkn; rw [hch] at this; omega
  have hy : oo[ch]? = some (oo[ch]'hcl) := List.getElem?_eq_getElem hcl
  obtain ⟨⟨p0, hp0, hid0⟩, hun⟩ := hmem (oo[ch]'hcl) (List.getElem_mem _)
  obtain ⟨y, hyy⟩ : ∃ y, oo[ch]'hcl = y := ⟨_, rfl⟩
  rw [hyy] at hy hid0 hun
  rcases eaR T y hT.tb with ⟨_, h⟩ | ⟨j, p, hj, hjl, hpj, hpid⟩
  ·exact absurd hid0 (h p0 hp0)
  subst hpid
  have hpm : p ∈ T := List.mem_of_getElem? hpj
  have hat : atW T p.1 = p := by
   unfold atW
   rw [hj, Int.toNat_natCast, hpj]
   rfl
  obtain ⟨hda1, hda2, hda3, hda4, hda5, hda6⟩ := PV p x (hT.tv p hpm)
  have hei := ei T p.1 hT.tb
  have hea := (ea T p.1 hT.tb).1
  have hcs := Va s x hb
  have hgd : oo.getD ch 0 = p.1 := by rw [List.getD_eq_getElem?_getD, hy]; rfl
  unfold mwC at hmw
  simp only [hpk, hch, Int.toNat_natCast, hgd, hat] at hmw
  have htn' : ∃ tn : Ty.T y66, xJ s p x (ch : Int) oo.length uI = tn := ⟨_, rfl⟩
  obtain ⟨tn, htn⟩ := htn'
  rw [htn] at hmw
  unfold xJ at htn
  unfold tA at hmw
  obtain ⟨⟨rn, q, gd, L, pl⟩, hdo⟩ : ∃ z, ct p x = z := ⟨_, rfl⟩
  rw [hdo] at hda3 hda4 hda5 hda6 htn hmw
  dsimp only at hda4 hda5 hda6 htn hmw
  have b3 : (0 : Int) <= (made.length : Int) := by omega
  have g0 : (0 : Int) <= (ch : Int) := by omega
  have g1 : (ch : Int) < (oo.length : Int) := by omega
  have j0 : (0 : Int) <= (j : Int) := by omega
  have j1 : (j : Int) < (T.length : Int) := by omega
  have z4 : L.length * 56 <= 140737488351232 := by omega
  have hulS : (uS.length : Int) = (uI.length : Int) := by omega
  have hw := VA uS p.1 hn hun hu
  obtain ⟨hu1, hu2, hu3, hu4, hu5⟩ := update T ((q.1, q.2.1, q.2.2.1, q.2.2.2.1, q.2.2.2.2.1, q.2.2.2.2.2.1, (q.2.2.2.2.2.2.1, q.2.2.2.2.2.2.2.1, q.2.2.2.2.2.2.2.2.1, q.2.2.2.2.2.2.2.2.2.1, q.2.2.2.2.2.2.2.2.2.2.1, q.2.2.2.2.2.2.2.2.2.2.2, pl), gd) : Ty.T ab) hT.tb hT.tv (show pl.length <= 1048576 by rw [hda5]; exact hT.tv p hpm)
  have hG1 := hG p.1 (by rw [← hT.ti]; exact List.mem_map.2 ⟨p, hpm, rfl⟩) hun
  obtain ⟨T1, hT1⟩ : ∃ T1, Ap T ((q.1, q.2.1, q.2.2.1, q.2.2.2.1, q.2.2.2.2.1, q.2.2.2.2.2.1, (q.2.2.2.2.2.2.1, q.2.2.2.2.2.2.2.1, q.2.2.2.2.2.2.2.2.1, q.2.2.2.2.2.2.2.2.2.1, q.2.2.2.2.2.2.2.2.2.2.1, q.2.2.2.2.2.2.2.2.2.2.2, pl), gd) : Ty.T ab) = T1 := ⟨_, rfl⟩
  rw [hT1] at hu3 hu4 hu5 hmw
  have hlw : L.length * w <= 3 * w := Nat.mul_le_mul_right w hda4
  have hTab : Gk (c + L.length * w) ids T1 out cs1 (made ++ [tn]) := by
   refine ⟨?_, hu5, by rw [hu4]; exact hT.ti, by omega, ?_, hcb1, fun t ht => ?_⟩
   ·have := congrArg List.length hu4
    rw [List.length_map, List.length_map] at this
    have := hT.tb
    omega
   ·simp only [List.length_append, List.length_cons, List.length_nil]; omega
   ·rcases List.mem_append.1 ht with h | h
    ·exact hT.mv t h
    ·rw [List.mem_singleton] at h
     subst h
     rw [← htn]
     show L.length <= 1048576
     omega
  obtain ⟨⟨T2, o2, c2, t2⟩, hf⟩ : ∃ q, kO (fun x => mw s k x (uI ++ [p.1])) L T1 cs1 = q := ⟨_, rfl⟩
  rw [hf] at hmw
  dsimp only at hmw
  obtain ⟨hl1, hl2, hT2⟩ := Vh hG1 L (by omega) L.length 0 (n8 (yN uS p.1, ((0 : Nat) : Int), s, L, T1, cs1, out, made ++ [tn], ())) (oD (uI ++ [p.1], false, L, (L.length : Int), ((0 : Nat) : Int), s, T1, out, cs1, made ++ [tn], ())) c T1 out cs1 (made ++ [tn]) (T2, o2, c2, t2) (by rw [List.drop_zero, hf]) (by omega) (by simp only [n8]; omega) (by simp only [oD]; omega) hTab
  dsimp only at hl1 hl2 hT2
  have hkS : G4 RS (yN uS p.1) 0 s L T1 cs1 out (made ++ [tn]) 0 = true := aS hl1 0
  have hwS : ET RS (yN uS p.1) 0 s L T1 cs1 out (made ++ [tn]) = _ := bp hl1
  have hk0 : sv RI (uI ++ [p.1]) false L (L.length : Int) 0 s T1 out cs1 (made ++ [tn]) 0 = false := aS hl2 0
  have hk1 : sv RI (uI ++ [p.1]) false L (L.length : Int) 0 s T1 out cs1 (made ++ [tn]) 1 = true := aS hl2 1
  have hwI : H4 RI (uI ++ [p.1]) false L (L.length : Int) 0 s T1 out cs1 (made ++ [tn]) = _ := bp hl2
  have z5 : (made ++ [tn] : List (Ty.T y66)).length * 128 <= 140737488351232 := by simp only [List.length_append, List.length_cons, List.length_nil]; omega
  have z6 : (uI ++ [p.1] : List (Ty.T (.int .i64))).length * 8 <= 140737488351232 := by simp only [List.length_append, List.length_cons, List.length_nil]; omega
  have hcl2 : d135 uI = true /\ fV uI = uI := ⟨KZ uI (by omega), rfl⟩
  have hpk1 : Eg (oo.length : Int) s out T cs made = true /\ bG (oo.length : Int) s out T cs made = ((ch : Int), true, s, out, T, cs1, made) := by
   simp only [Eg, vg, bG, pdI, pvI, hch, cond_true, Option.isSome_some, Option.getD_some, nfs]
   exact ⟨trivial, trivial⟩
  dsimp only
  rw [hmw]
  have hap : made ++ tn :: t2 = made ++ [tn] ++ t2 := by rw [List.append_assoc]; rfl
  dsimp only
  rw [hap]
  refine ⟨Y8 ?_, YL ?_, hT2⟩
  ·simp only [kr, hd, hoe, hne, cond_false, cond_true, pd, hpk, hch, if_pos g0, if_pos g1, Int.toNat_natCast, hy, aA, hea, hj, if_pos j0, if_pos j1, hpj, hda1, hdo, hu1, wM, iD, hcs.1, List.nil_append, if_pos z4, Option.isSome_some, hulS, htn, if_pos z5, hw.1, sR, kS, hT1, hkS, hwS]
  ·simp only [kn, hdI, hvI, hne, cond_true, cond_false, hpk1.1, hpk1.2, Bool.not_true, if_pos g0, if_pos g1, Int.toNat_natCast, hy, aA, kK, sy, nS, dQ, hei.1, hei.2, hj, if_pos j0, if_pos j1, hpj, hda2, hda3, hcs.2.1, hcs.2.2, Vb, hu2, hu3, hT1, zA, kY, htn, if_pos z5, Option.isSome_some, hcl2.1, hcl2.2, if_pos z6, hk0, hk1, hwI]
def WR : Nat -> Nat
 | 0 => 1
 | m + 1 => 1 + 3 * WR m
theorem XW {α : Type} {p q : α -> Bool} (h : ∀ x, p x = true -> q x = true) {y : α} (hq : q y = true) (hp : p y = false) : ∀ l : List α, y ∈ l -> l.countP p + 1 <= l.countP q
 | [], hy => by cases hy
 | a :: l, hy => by
  have hm : l.countP p <= l.countP q := List.countP_mono_left fun x _ => h x
  rw [List.countP_cons, List.countP_cons]
  rcases List.mem_cons.1 hy with rfl | hy
  ·simp only [hq, hp, if_true, Bool.false_eq_true, if_false]; omega
  ·have := XW h hq hp l hy
   cases hpa : p a with
   | true => simp only [h a hpa, if_true]; omega
   | false => simp only [Bool.false_eq_true, if_false]; omega
def unused (u ids : List (Ty.T (.int .i64))) : Nat := ids.countP fun y => !(u.any fun z => z == y)
theorem Qj (l : List (Ty.T ab)) (hb : l.length <= 1048576) (hv : ∀ x ∈ l, x.2.2.2.2.2.2.1.2.2.2.2.2.2.length <= 1048576) (h : pD l = true) : l.length <= 5 := by
 unfold pD at h
 rcases Ki l hb hv with ⟨j, x1, x2⟩ | ⟨x1, x2⟩
 ·have e0 : fL l false 0 0 = true := aS x1 0
  have ew : lB l false 0 = _ := bp x1
  simp only [e0, ew, cond_true] at h
  cases h
 ·have e0 : fL l false 0 0 = false := aS x1 0
  have e1 : fL l false 0 1 = true := aS x1 1
  have ew : lB l false 0 = _ := bp x1
  simp only [e0, e1, ew, cond_true, cond_false] at h
  have := of_decide_eq_true h
  omega
theorem ac8 {s : Ty.T y36} {ids : List (Ty.T (.int .i64))} (hb : s.1.length <= 1048576) (hs : s.2.1.length <= 1048576) :
  ∀ (m k k1 k2 : Nat) (uS uI : List (Ty.T (.int .i64))), m + 1 <= k -> m + 2 <= k1 -> m + 2 <= k2 -> uS.Perm uI -> uS.Nodup -> uS.length + m <= 1048576 -> unused uS ids <= m -> K2 (WR m) (rj k1) (m3 k2) (fun x => mw s k x uI) uS uI s ids
 | 0, k, k1, k2, uS, uI, h0, h1, h2, hp, hn, hu, hc => by
  obtain ⟨k, rfl⟩ : ∃ k', k = k' + 1 := ⟨k - 1, by omega⟩
  obtain ⟨k1, rfl⟩ : ∃ k, k1 = k + 2 := ⟨k1 - 2, by omega⟩
  obtain ⟨k2, rfl⟩ : ∃ k, k2 = k + 2 := ⟨k2 - 2, by omega⟩
  refine V1 (w := 0) hb hs hp hn (by omega) fun y hy hf => ?_
  have : 0 < unused uS ids := List.countP_pos_iff.2 ⟨y, hy, by rw [hf]; rfl⟩
  omega
 | m + 1, k, k1, k2, uS, uI, h0, h1, h2, hp, hn, hu, hc => by
  obtain ⟨k, rfl⟩ : ∃ k', k = k' + 1 := ⟨k - 1, by omega⟩
  obtain ⟨k1, rfl⟩ : ∃ k, k1 = k + 2 := ⟨k1 - 2, by omega⟩
  obtain ⟨k2, rfl⟩ : ∃ k, k2 = k + 2 := ⟨k2 - 2, by omega⟩
  refine V1 (w := WR m) hb hs hp hn (by omega) fun y hy hf => ?_
  have hw := (VA uS y hn hf (by omega)).2
  have hd : (uS ++ [y]).Nodup := by
   rw [List.nodup_append]
   refine ⟨hn, by simp, fun a ha b hb => ?_⟩
   rw [List.mem_singleton] at hb
   subst hb
   intro he
   subst he
   have := List.any_eq_false.1 hf a ha
   simp at this
  refine ac8 hb hs m k (k1 + 1) (k2 + 1) _ _ (by omega) (by omega) (by omega) (hw.trans (hp.append_right [y])) (hw.nodup_iff.2 hd) (by rw [hw.length_eq, List.length_append]; simp only [List.length_cons, List.length_nil]; omega) ?_
  have h3 : unused (yN uS y) ids = unused (uS ++ [y]) ids := by
   unfold unused
   congr 1
   funext x
   rw [hw.any_eq]
  have h4 : unused (uS ++ [y]) ids + 1 <= unused uS ids := XW (fun x hx => by simp only [List.any_append, Bool.not_or, Bool.and_eq_true] at hx; exact hx.1) (by rw [hf]; rfl) (by simp) ids hy
  omega
theorem ajn (x : Ty.T y27) (u : List (Ty.T (.int .i64))) (s : Ty.T y36) (T : List (Ty.T ab)) (cs : List (Ty.T (.int .i64))) (out : List (Ty.T y27)) (made : List (Ty.T y66)) : (Ev x u s out T cs made, oS x u s out T cs made) = m3 40 x u s out T cs made := by rfl
/-- What rewriting answers. -/
noncomputable def rwM (s : Ty.T y36) (l : List (Ty.T ab)) (e : Ty.T y27) (cs : List (Ty.T (.int .i64))) : List (Ty.T y27) × List (Ty.T ab) × List (Ty.T (.int .i64)) × List (Ty.T y66) :=
 cond (kj s && pD l && cu e) ((mw s 6 e [] l cs).2.1, (mw s 6 e [] l cs).1, (mw s 6 e [] l cs).2.2.1, (mw s 6 e [] l cs).2.2.2) ([], l, cs, [])
theorem rewrite (s : Ty.T y36) (l : List (Ty.T ab)) (e : Ty.T y27) (cs : List (Ty.T (.int .i64))) (hb : s.1.length <= 1048576) (hs : s.2.1.length <= 1048576) (hl : l.length <= 1048576) (hv : ∀ x ∈ l, x.2.2.2.2.2.2.1.2.2.2.2.2.2.length <= 1048576) (hc : cs.length <= 1048576) :
  d52 s l e cs = true /\ d42 s l e cs = true /\ v52 s l e cs = rwM s l e cs /\ v42 s l e cs = rwM s l e cs /\ (rwM s l e cs).1.length <= 1048576 /\ (rwM s l e cs).2.1.length = l.length /\ (∀ x ∈ (rwM s l e cs).2.1, x.2.2.2.2.2.2.1.2.2.2.2.2.2.length <= 1048576) /\ (rwM s l e cs).2.2.1.length <= 1048576 /\ (rwM s l e cs).2.2.2.length <= 1048576 /\ ∀ t ∈ (rwM s l e cs).2.2.2, t.2.2.2.2.2.1.length <= 1048576 := by
 have c1 := ctS l hl hv
 have c2 := ctI l hl hv
 have q1 := Ln s hb hs
 have q2 := TQ l hl hv
 have q3 := Al e
 have z1 : cs.length * 8 <= 140737488351232 := by omega
 have hcl := KZ cs (by omega)
 have key : ∃ (out : List (Ty.T y27)) (T : List (Ty.T ab)) (cs' : List (Ty.T (.int .i64))) (made : List (Ty.T y66)), t52 s l e cs some = some (out, T, cs', made) /\ t42 s l e cs some = some (out, T, cs', made) /\ rwM s l e cs = (out, T, cs', made) /\ out.length <= 1048576 /\ T.length = l.length /\ (∀ x ∈ T, x.2.2.2.2.2.2.1.2.2.2.2.2.2.length <= 1048576) /\ cs'.length <= 1048576 /\ made.length <= 1048576 /\ ∀ t ∈ made, t.2.2.2.2.2.1.length <= 1048576 := by
  cases h1 : kj s with
  | false =>
   refine ⟨[], l, cs, [], ?_, ?_, by simp [rwM, h1], by simp, rfl, hv, hc, by simp, fun t h => by cases h⟩
   ·simp [t52, BV, pL, Az, pM, rk, Bc, rC, sL, c1.1, c1.2, q1.1, h1, z1]
   ·simp [t42, c2.1, c2.2, q1.2.1, q1.2.2, h1, hcl, fV]
  | true =>
  cases h2 : pD l with
  | false =>
   refine ⟨[], l, cs, [], ?_, ?_, by simp [rwM, h2], by simp, rfl, hv, hc, by simp, fun t h => by cases h⟩
   ·simp [t52, BV, pL, Az, pM, rk, Bc, rC, sL, c1.1, c1.2, q1.1, h1, q2.1, h2, z1]
   ·cases h3 : cu e <;> simp [t42, c2.1, c2.2, q1.2.1, q1.2.2, h1, q2.2.1, q2.2.2, h2, q3, h3, hcl, fV]
  | true =>
  cases h3 : cu e with
  | false =>
   refine ⟨[], l, cs, [], ?_, ?_, by simp [rwM, h3], by simp, rfl, hv, hc, by simp, fun t h => by cases h⟩
   ·simp [t52, BV, pL, Az, pM, rk, Bc, rC, sL, c1.1, c1.2, q1.1, h1, q2.1, h2, h3, z1]
   ·simp [t42, c2.1, c2.2, q1.2.1, q1.2.2, h1, q2.2.1, q2.2.2, h2, q3, h3, hcl, fV]
  | true =>
   have h5 := Qj l hl hv h2
   have hun : unused [] (l.map (·.1)) <= 5 := Nat.le_trans List.countP_le_length (by rw [List.length_map]; exact h5)
   obtain ⟨x1, x2, x3⟩ := ac8 (s := s) (ids := l.map (·.1)) hb hs 5 6 40 40 [] [] (by omega) (by omega) (by omega) (List.Perm.refl _) List.nodup_nil (by simp) hun e l [] cs [] 0
    ⟨hl, hv, rfl, by simp [WR], by simp [WR], hc, fun t h => by cases h⟩
   have hM : rwM s l e cs = ((mw s 6 e [] l cs).2.1, (mw s 6 e [] l cs).1, (mw s 6 e [] l cs).2.2.1, (mw s 6 e [] l cs).2.2.2) := by simp [rwM, h1, h2, h3]
   obtain ⟨⟨T, out, cs', made⟩, hm⟩ : ∃ z, mw s 6 e [] l cs = z := ⟨_, rfl⟩
   rw [hm] at hM
   dsimp only at x1 x2 x3
   rw [hm] at x1 x2 x3
   dsimp only at x1 x2 x3 hM
   rw [List.nil_append, List.nil_append] at x1 x2 x3
   have y1 : JT e [] s l cs [] [] = true := congrArg Prod.fst x1
   have y2 : qK e [] s l cs [] [] = (s, T, cs', out, made) := congrArg Prod.snd x1
   rw [← ajn] at x2
   have y3 : Ev e [] s [] l cs [] = true := congrArg Prod.fst x2
   have y4 : oS e [] s [] l cs [] = (true, s, out, T, cs', made) := congrArg Prod.snd x2
   have mb : made.length <= 1048576 := by have := x3.mb; omega
   have c3 := cuI made mb x3.mv
   have hTl : T.length = l.length := by have := congrArg List.length x3.ti; rwa [List.length_map, List.length_map] at this
   refine ⟨out, T, cs', made, ?_, ?_, hM, by have := x3.ob; omega, hTl, x3.tv, x3.cb, mb, x3.mv⟩
   ·simp [t52, BV, pL, Az, pM, rk, Bc, rC, sL, c1.1, c1.2, q1.1, h1, q2.1, h2, h3, z1, y1, y2]
   ·simp [t42, c2.1, c2.2, q1.2.1, q1.2.2, h1, q2.2.1, q2.2.2, h2, q3, h3, hcl, fV, y3, y4, c3.1, c3.2]
 obtain ⟨out, T, cs', made, k1, k2, hM, k3⟩ := key
 have w1 : v52 s l e cs = (out, T, cs', made) := by
  show (t52 s l e cs some).getD _ = _
  rw [k1]
  rfl
 have w2 : v42 s l e cs = (out, T, cs', made) := by
  show (t42 s l e cs some).getD _ = _
  rw [k2]
  rfl
 rw [w1, w2, hM]
 refine ⟨?_, ?_, rfl, rfl, k3⟩
 ·show (t52 s l e cs some).isSome = true
  rw [k1]
  rfl
 ·show (t42 s l e cs some).isSome = true
  rw [k2]
  rfl
theorem X1 {s : Ty.T y36} {e : Ty.T y27} {u : List (Ty.T (.int .i64))} {q : Int × List (Ty.T (.int .i64))} {x : Ty.T ab} {l : List (Ty.T ab)} (hx : x ∈ l) (h : ∀ y ∈ q.2, ∃ p ∈ l, p.1 = y /\ gV s p e = true) : ∀ y ∈ (gZ s e u q x).2, ∃ p ∈ l, p.1 = y /\ gV s p e = true := by
 unfold gZ
 cases h1 : u.any fun y => y == x.1
 ·cases h2 : gV s x e
  ·exact h
  ·by_cases h3 : x.2.2.2.1 > q.1
   ·simp only [h3, decide_true, Bool.not_true, cond_false, cond_true]
    exact h
   ·by_cases h4 : x.2.2.2.1 < q.1
    ·simp only [h3, h4, decide_true, decide_false, Bool.not_true, cond_false, cond_true]
     intro y hy
     rw [List.mem_singleton] at hy
     subst hy
     exact ⟨x, hx, rfl, h2⟩
    ·simp only [h3, h4, decide_false, Bool.not_true, cond_false]
     intro y hy
     rcases List.mem_append.1 hy with hy | hy
     ·exact h y hy
     ·rw [List.mem_singleton] at hy
      subst hy
      exact ⟨x, hx, rfl, h2⟩
 ·exact h
theorem Un (s : Ty.T y36) (T : List (Ty.T ab)) (e : Ty.T y27) (u : List (Ty.T (.int .i64))) (hb : s.1.length <= 1048576) (hs : s.2.1.length <= 1048576) (hn : T.length <= 1048576) (hu : u.length <= 1048576) (hv : ∀ x ∈ T, x.2.2.2.2.2.2.1.2.2.2.2.2.2.length <= 1048576) : ∀ y ∈ ej s T e u, ∃ p ∈ T, p.1 = y /\ gV s p e = true := by
 rw [(Ql s T e u hb hs hn hu hv).2]
 have : ∀ (l : List (Ty.T ab)) (q : Int × List (Ty.T (.int .i64))), (∀ x ∈ l, x ∈ T) -> (∀ y ∈ q.2, ∃ p ∈ T, p.1 = y /\ gV s p e = true) -> ∀ y ∈ (l.foldl (gZ s e u) q).2, ∃ p ∈ T, p.1 = y /\ gV s p e = true := by
  intro l
  induction l with
  | nil => intro q _ h; exact h
  | cons x l ih => intro q hm h; exact ih _ (fun z hz => hm z (List.mem_cons_of_mem _ hz)) (X1 (hm x List.mem_cons_self) h)
 exact this T (5, []) (fun _ h => h) (fun y hy => by cases hy)
theorem T7 {T : List (Ty.T ab)} (hn : (T.map (·.1)).Nodup) {i j : Nat} {p q : Ty.T ab} (hi : T[i]? = some p) (hj : T[j]? = some q) (h : p.1 = q.1) : i = j := by
 obtain ⟨hi', hip⟩ := List.getElem?_eq_some_iff.1 hi
 obtain ⟨hj', hjp⟩ := List.getElem?_eq_some_iff.1 hj
 have key : ∀ {i j : Nat} (hi : i < T.length) (hj : j < T.length), i < j -> ¬ T[i].1 = T[j].1 := fun {i j} hi hj hij he => by
  have := List.pairwise_iff_getElem.1 hn i j (by rw [List.length_map]; exact hi) (by rw [List.length_map]; exact hj) hij
  rw [List.getElem_map, List.getElem_map] at this
  exact this he
 rcases Nat.lt_trichotomy i j with hij | hij | hij
 ·exact absurd (by rw [hip, hjp]; exact h) (key hi' hj' hij)
 ·exact hij
 ·exact absurd (by rw [hip, hjp]; exact h.symm) (key hj' hi' hij)
theorem Zl (T : List (Ty.T ab)) (n : Ty.T ab) (hb : T.length <= 1048576) (hv : ∀ x ∈ T, x.2.2.2.2.2.2.1.2.2.2.2.2.2.length <= 1048576) (hn : n.2.2.2.2.2.2.1.2.2.2.2.2.2.length <= 1048576) {j : Nat} {p : Ty.T ab} (hj : mr T n.1 = (j : Int)) (hp : T[j]? = some p) : Ap T n = T.set j n := by
 have h1 := ctS T hb hv
 have h3 := cpS n hn
 have h6 := ea T n.1 hb
 have hl := (List.getElem?_eq_some_iff.1 hp).1
 have g0 : (0 : Int) <= (j : Int) := by omega
 have g1 : (j : Int) < (T.length : Int) := by omega
 have g2 : (j : Int) ≥ 0 := g0
 show (t247 T n some).getD [] = _
 unfold t247
 rw [h1.1, h1.2, h3.1, h3.2, h6.1]
 rw [hj]
 simp only [decide_eq_true g2, cond_true, if_pos g0, if_pos g1, Int.toNat_natCast, hp, aA, Option.getD_some]
structure WfW (k : Nat) (u : List (Ty.T (.int .i64))) (T : List (Ty.T ab)) (cs : List (Ty.T (.int .i64))) : Prop where
 tb : T.length <= 1048576
 tv : ∀ x ∈ T, x.2.2.2.2.2.2.1.2.2.2.2.2.2.length <= 1048576
 tn : (T.map (·.1)).Nodup
 ub : u.length + k <= 1048576
 cb : cs.length <= 1048576
structure iE (T : List (Ty.T ab)) (cs : List (Ty.T (.int .i64))) (T' : List (Ty.T ab)) (cs' : List (Ty.T (.int .i64))) : Prop where
 ti : T'.map (·.1) = T.map (·.1)
 tv : ∀ x ∈ T', x.2.2.2.2.2.2.1.2.2.2.2.2.2.length <= 1048576
 cs : cs'.length <= cs.length
theorem iE.trans {T T' T'' : List (Ty.T ab)} {cs cs' cs'' : List (Ty.T (.int .i64))} (h : iE T cs T' cs') (k : iE T' cs' T'' cs'') : iE T cs T'' cs'' := ⟨k.ti.trans h.ti, k.tv, Nat.le_trans k.cs h.cs⟩
theorem iE.len {T T' : List (Ty.T ab)} {cs cs' : List (Ty.T (.int .i64))} (h : iE T cs T' cs') : T'.length = T.length := by have := congrArg List.length h.ti; rwa [List.length_map, List.length_map] at this
theorem iE.wf {k : Nat} {u : List (Ty.T (.int .i64))} {T T' : List (Ty.T ab)} {cs cs' : List (Ty.T (.int .i64))} (h : iE T cs T' cs') (w : WfW k u T cs) : WfW k u T' cs' := ⟨by rw [h.len]; exact w.tb, h.tv, by rw [h.ti]; exact w.tn, w.ub, Nat.le_trans h.cs w.cb⟩
inductive FoldP (P : Ty.T y27 -> List (Ty.T ab) -> List (Ty.T (.int .i64)) -> List (Ty.T ab) × List (Ty.T y27) × List (Ty.T (.int .i64)) × List (Ty.T y66) -> Prop) : List (Ty.T y27) -> List (Ty.T ab) -> List (Ty.T (.int .i64)) -> List (Ty.T ab) × List (Ty.T y27) × List (Ty.T (.int .i64)) × List (Ty.T y66) -> Prop
 | nil {T cs} : FoldP P [] T cs (T, [], cs, [])
 | cons {y L T cs a b} : P y T cs a -> FoldP P L a.1 a.2.2.1 b -> FoldP P (y :: L) T cs (b.1, a.2.1 ++ b.2.1, b.2.2.1, a.2.2.2 ++ b.2.2.2)
theorem zX {P : Ty.T y27 -> List (Ty.T ab) -> List (Ty.T (.int .i64)) -> List (Ty.T ab) × List (Ty.T y27) × List (Ty.T (.int .i64)) × List (Ty.T y66) -> Prop} {M : Ty.T y27 -> List (Ty.T ab) -> List (Ty.T (.int .i64)) -> List (Ty.T ab) × List (Ty.T y27) × List (Ty.T (.int .i64)) × List (Ty.T y66)} {k : Nat} {u : List (Ty.T (.int .i64))} (h : ∀ y T cs, WfW k u T cs -> P y T cs (M y T cs) /\ iE T cs (M y T cs).1 (M y T cs).2.2.1) : ∀ (L : List (Ty.T y27)) T cs, WfW k u T cs ->
  FoldP (fun y T cs a => WfW k u T cs /\ P y T cs a /\ iE T cs a.1 a.2.2.1) L T cs (kO M L T cs) /\ iE T cs (kO M L T cs).1 (kO M L T cs).2.2.1
 | [], T, cs, w => ⟨.nil, rfl, w.tv, Nat.le_refl _⟩
 | y :: L, T, cs, w => by
  obtain ⟨h1, h2⟩ := h y T cs w
  obtain ⟨h3, h4⟩ := zX h L _ _ (h2.wf w)
  exact ⟨.cons ⟨w, h1, h2⟩ h3, h2.trans h4⟩
theorem SQ {s : Ty.T y36} (hb : s.1.length <= 1048576) (hs : s.2.1.length <= 1048576) (P : Nat -> Ty.T y27 -> List (Ty.T (.int .i64)) -> List (Ty.T ab) -> List (Ty.T (.int .i64)) -> List (Ty.T ab) × List (Ty.T y27) × List (Ty.T (.int .i64)) × List (Ty.T y66) -> Prop)
  (h0 : ∀ x u T cs, WfW 0 u T cs -> P 0 x u T cs (T, [], cs, []))
  (h1 : ∀ k x u T cs, WfW (k + 1) u T cs -> ej s T x u = [] -> P (k + 1) x u T cs (T, cond (mA x) [] [x], cs, []))
  (h2 : ∀ k x u T cs oo (ch : Nat) cs1 (j : Nat) p z, WfW (k + 1) u T cs -> ej s T x u = oo -> oo.length <= T.length -> oo[ch]? = some p.1 -> gR cs (oo.length : Int) = ((ch : Int), cs1) -> cs1 = (if oo.length < 2 then cs else cs.tail) -> T[j]? = some p -> (u.any fun y => y == p.1) = false -> gV s p x = true -> (tA (ct p x)).1 = p.1 -> (ct p x).2.2.2.1.length <= 3 ->
   FoldP (fun y T cs a => WfW k (u ++ [p.1]) T cs /\ P k y (u ++ [p.1]) T cs a /\ iE T cs a.1 a.2.2.1) (ct p x).2.2.2.1 (T.set j (tA (ct p x))) cs1 z ->
   P (k + 1) x u T cs (z.1, z.2.1, z.2.2.1, xJ s p x (ch : Int) oo.length u :: z.2.2.2)) :
  ∀ k x u T cs, WfW k u T cs -> P k x u T cs (mw s k x u T cs) /\ iE T cs (mw s k x u T cs).1 (mw s k x u T cs).2.2.1
 | 0, x, u, T, cs, w => ⟨h0 x u T cs w, rfl, w.tv, Nat.le_refl _⟩
 | k + 1, x, u, T, cs, w => by
  have hu : u.length <= 1048576 := by have := w.ub; omega
  obtain ⟨-, -, -, hlen, hmem⟩ := options s T x u hb hs w.tb hu w.tv
  have hfit := Un s T x u hb hs w.tb hu w.tv
  obtain ⟨o, hoe⟩ : ∃ o, ej s T x u = o := ⟨_, rfl⟩
  rw [hoe] at hlen hmem hfit
  cases o with
  | nil =>
   have hmw : mw s (k + 1) x u T cs = (T, cond (mA x) [] [x], cs, []) := by rw [mw, hoe]
   rw [hmw]
   exact ⟨h1 k x u T cs w hoe, rfl, w.tv, Nat.le_refl _⟩
  | cons y0 o =>
   have hmw : mw s (k + 1) x u T cs = mwC (mw s k) s x u T cs (y0 :: o) := by rw [mw, hoe]
   obtain ⟨oo, hoo⟩ : ∃ oo, oo = y0 :: o := ⟨_, rfl⟩
   rw [← hoo] at hoe hmem hlen hmw hfit
   have hol : oo.length <= 1048576 := Nat.le_trans hlen w.tb
   have hpos : 0 < oo.length := by rw [hoo]; simp
   obtain ⟨-, -, -, pk0, pkn, pcs, -, -⟩ := pick cs oo.length hpos hol w.cb
   obtain ⟨⟨kk, cs1⟩, hpk⟩ : ∃ q, gR cs (oo.length : Int) = q := ⟨_, rfl⟩
   rw [hpk] at pk0 pkn pcs
   dsimp only at pk0 pkn pcs
   have hcb1 : cs1.length <= cs.length := by
    rw [pcs]
    split
    ·exact Nat.le_refl _
    ·rw [List.length_tail]; omega
   obtain ⟨ch, hch⟩ : ∃ ch : Nat, @Eq Int kk (ch : Int) := ⟨Int.toNat kk, (Int.toNat_of_nonneg pk0).symm⟩
   have hcl : ch < oo.length := by have := pkn; rw [hch] at this; omega
   have hy : oo[ch]? = some (oo[ch]'hcl) := List.getElem?_eq_getElem hcl
   obtain ⟨p0, hp0, hid0, hft⟩ := hfit (oo[ch]'hcl) (List.getElem_mem _)
   obtain ⟨-, hun⟩ := hmem (oo[ch]'hcl) (List.getElem_mem _)
   obtain ⟨y, hyy⟩ : ∃ y, oo[ch]'hcl = y := ⟨_, rfl⟩
   rw [hyy] at hy hid0 hun
   rcases eaR T y w.tb with ⟨_, h⟩ | ⟨j, p, hj, hjl, hpj, hpid⟩
   ·exact absurd hid0 (h p0 hp0)
   subst hpid
   obtain ⟨j0, hj0⟩ := List.getElem?_of_mem hp0
   have hjj := T7 w.tn hj0 hpj hid0
   subst hjj
   have hpp : p0 = p := Option.some.inj (hj0.symm.trans hpj)
   subst hpp
   have hat : atW T p0.1 = p0 := by
    unfold atW
    rw [hj, Int.toNat_natCast, hpj]
    rfl
   have hgd : oo.getD ch 0 = p0.1 := by rw [List.getD_eq_getElem?_getD, hy]; rfl
   obtain ⟨-, -, -, hda4, hda5, hda6⟩ := PV p0 x (w.tv p0 hp0)
   have hn1 : (tA (ct p0 x)).1 = p0.1 := by
    unfold tA
    rw [hda6]
   have hpl : (tA (ct p0 x)).2.2.2.2.2.2.1.2.2.2.2.2.2.length <= 1048576 := by
    show (ct p0 x).2.2.2.2.length <= 1048576
    rw [hda5]
    exact w.tv p0 hp0
   have hup : Ap T (tA (ct p0 x)) = T.set j0 (tA (ct p0 x)) := Zl T _ w.tb w.tv hpl (by rw [hn1]; exact hj) hpj
   unfold mwC at hmw
   simp only [hpk, hch, Int.toNat_natCast, hgd, hat, hup] at hmw
   have hK : iE T cs (T.set j0 (tA (ct p0 x))) cs1 := by
    refine ⟨?_, fun q hq => ?_, hcb1⟩
    ·rw [← hup]
     exact (update T _ w.tb w.tv hpl).2.2.2.1
    ·rw [← hup] at hq
     exact (update T _ w.tb w.tv hpl).2.2.2.2 q hq
   have w1 : WfW k (u ++ [p0.1]) (T.set j0 (tA (ct p0 x))) cs1 := by
    have := hK.wf w
    exact ⟨this.tb, this.tv, this.tn, by have := w.ub; simp only [List.length_append, List.length_cons, List.length_nil]; omega, this.cb⟩
   obtain ⟨f1, f2⟩ := zX (P := fun y T cs a => P k y (u ++ [p0.1]) T cs a) (M := fun y => mw s k y (u ++ [p0.1])) (fun y T cs w => SQ hb hs P h0 h1 h2 k y (u ++ [p0.1]) T cs w) (ct p0 x).2.2.2.1 _ _ w1
   rw [hmw]
   exact ⟨h2 k x u T cs oo ch cs1 j0 p0 _ w hoe hlen hy (by rw [hpk, hch]) pcs hpj hun hft hn1 hda4 f1, hK.trans f2⟩
noncomputable def ajw (k : Int) (e : Ty.T ab) : Int := if e.2.2.2.2.2.2.2.2 = 0 then k else k + 1
theorem FJ {V : Type} {s : V -> Option (Nat × V)} {mk fin : Nat -> V} {N : Nat} (h : ∀ i, i < N -> s (mk i) = some (0, mk (i + 1)) ∨ s (mk i) = some (1, fin i)) {v : V} : ∀ (k i n : Nat), i + k = N -> iter s n (mk i) = some (1, v) -> ∀ j, i <= j -> j < N -> s (mk j) = some (0, mk (j + 1))
 | 0, i, n, hk, hi, j, h1, h2 => by omega
 | k + 1, i, n, hk, hi, j, h1, h2 => by
  cases n with
  | zero => rw [iter] at hi; cases hi
  | succ n =>
   rcases h i (by omega) with a | a
   ·by_cases hij : i = j
    ·subst hij; exact a
    ·rw [iter, a] at hi
     exact FJ h k (i + 1) n (by omega) hi j (by omega) h2
   ·rw [iter, a] at hi
    cases hi
theorem Lt (l : List (Ty.T ab)) (hb : l.length <= 1048576) (hv : ∀ x ∈ l, x.2.2.2.2.2.2.1.2.2.2.2.2.2.length <= 1048576) (i : Nat) (hi : i < l.length) : (fz (l, false, (i : Int), ()) = some (0, (l, false, ((i + 1 : Nat) : Int), ())) /\ eg l[i] = true /\ ∀ (j : Nat) (hj : j + 1 = i), ¬ (@LE.le Int _ l[i].1 (l[j]'(by omega)).1)) ∨ fz (l, false, (i : Int), ()) = some (1, (l, false, (i : Int), ())) := by
 have h1 : l[i]? = some l[i] := List.getElem?_eq_getElem hi
 have h3 : (i : Int) < (l.length : Int) := by omega
 have hq := gw l[i] (hv _ (List.getElem_mem hi))
 obtain ⟨p, hp⟩ : ∃ p, l[i] = p := ⟨_, rfl⟩
 rw [hp] at h1 hq ⊢
 have hw := aX (n := i) (by omega)
 match i, hi, h1, h3, hw, hp with
 | 0, hi, h1, h3, hw, hp =>
  simp only [fz, lS, decide_eq_true h3, cond_true, if_pos (show (0 : Int) <= ((0 : Nat) : Int) by omega), Int.toNat_natCast, h1, aA, hq.1, decide_eq_false (show ¬ ((0 : Nat) : Int) > 0 by omega), cond_false, hw]
  cases eg p
  ·exact .inr rfl
  ·exact .inl ⟨rfl, rfl, fun j hj => by omega⟩
 | j + 1, hi, h1, h3, hw, hp =>
  have h2 : l[j]? = some l[j] := List.getElem?_eq_getElem (by omega)
  obtain ⟨q, hqq⟩ : ∃ q, l[j] = q := ⟨_, rfl⟩
  rw [hqq] at h2
  simp only [fz, lS, decide_eq_true h3, cond_true, if_pos (show (0 : Int) <= ((j + 1 : Nat) : Int) by omega), Int.toNat_natCast, h1, h2, aA, hq.1, decide_eq_true (show ((j + 1 : Nat) : Int) > 0 by omega), lj j (by omega), if_pos (show (0 : Int) <= (j : Int) by omega), hw]
  cases hc : eg p
  ·exact .inr rfl
  ·by_cases hd : q.1 ≥ p.1
   ·rw [decide_eq_true hd]
    exact .inr rfl
   ·rw [decide_eq_false hd]
    refine .inl ⟨rfl, rfl, fun j' hj' => ?_⟩
    have : j' = j := by omega
    subst this
    rw [hqq]
    exact hd
theorem Om (l : List (Ty.T ab)) (hb : l.length <= 1048576) (hv : ∀ x ∈ l, x.2.2.2.2.2.2.1.2.2.2.2.2.2.length <= 1048576) (h : pD l = true) (i : Nat) (hi : i < l.length) : eg l[i] = true /\ ∀ (j : Nat) (hj : j + 1 = i), ¬ (@LE.le Int _ l[i].1 (l[j]'(by omega)).1) := by
 unfold pD at h
 rcases Ki l hb hv with ⟨j, x1, x2⟩ | ⟨x1, x2⟩
 ·have e0 : fL l false 0 0 = true := aS x1 0
  have ew : lB l false 0 = _ := bp x1
  simp only [e0, ew, cond_true] at h
  cases h
 ·have := FJ (s := fz) (mk := fun i => (l, false, (i : Int), ())) (fin := fun i => (l, false, (i : Int), ())) (N := l.length) (fun i hi => by
   rcases Lt l hb hv i hi with h | h
   ·exact .inl h.1
   ·exact .inr h) l.length 0 _ (by omega) x1 i (by omega) hi
  rcases Lt l hb hv i hi with h | h
  ·exact h.2
  ·rw [h] at this
   cases this
theorem VN (l : List (Ty.T ab)) (hb : l.length <= 1048576) (hv : ∀ x ∈ l, x.2.2.2.2.2.2.1.2.2.2.2.2.2.length <= 1048576) (h : pD l = true) : ∀ (k i j : Nat) (hi : i < l.length) (hj : j < l.length), i + k + 1 = j -> @LT.lt Int _ l[i].1 l[j].1
 | 0, i, j, hi, hj, hk => Int.not_le.1 ((Om l hb hv h j hj).2 i (by omega))
 | k + 1, i, j, hi, hj, hk => Int.lt_trans (VN l hb hv h k i (j - 1) hi (by omega) (by omega)) (Int.not_le.1 ((Om l hb hv h j hj).2 (j - 1) (by omega)))
theorem WA (l : List (Ty.T ab)) (hb : l.length <= 1048576) (hv : ∀ x ∈ l, x.2.2.2.2.2.2.1.2.2.2.2.2.2.length <= 1048576) (h : pD l = true) : (l.map (·.1)).Nodup := by
 refine List.pairwise_iff_getElem.2 fun i j hi hj hij => ?_
 rw [List.length_map] at hi hj
 rw [List.getElem_map, List.getElem_map]
 exact Int.ne_of_lt (VN l hb hv h (j - i - 1) i j hi hj (by omega))
def lf (p : Ty.T ab) : Int := p.2.2.2.2.2.2.2.2
theorem XO (s : Ty.T y36) (x : Ty.T ab) (e : Ty.T y27) (hv : x.2.2.2.2.2.2.1.2.2.2.2.2.2.length <= 1048576) (h : gV s x e = true) : ¬ lf x = 0 := by
 have hok := CX s x e hv h
 unfold gV at h
 rw [(gw x hv).1, hok] at h
 intro h0
 have : Ga x s.2.2.2 = false := by
  unfold Ga
  have : (x.2.2.2.2.2.2.2.2 != (0 : Int)) = false := by
   have h1 : x.2.2.2.2.2.2.2.2 = (0 : Int) := h0
   rw [h1]
   rfl
  rw [this]
  rfl
 rw [this] at h
 cases h
def ofN (t : Ty.T y66) : Bool := decide ((2 : Int) <= t.2.2.2.1)
def jZ (l : List (Ty.T y66)) : Nat := l.countP ofN
theorem aO.refl {α : Type} {R : α -> α -> Prop} (h : ∀ a, R a a) : ∀ l : List α, aO R l l
 | [] => .nil
 | a :: l => .cons (h a) (aO.refl h l)
theorem aO.trans' {α : Type} {R : α -> α -> Prop} (h : ∀ a b c, R a b -> R b c -> R a c) : ∀ {l m n : List α}, aO R l m -> aO R m n -> aO R l n
 | _, _, _, .nil, .nil => .nil
 | _, _, _, .cons a b, .cons c e => .cons (h _ _ _ a c) (aO.trans' h b e)
theorem aO.aac {α : Type} {R : α -> α -> Prop} (h : ∀ a, R a a) : ∀ (l : List α) (j : Nat) (n : α), (∀ p, l[j]? = some p -> R p n) -> aO R l (l.set j n)
 | [], _, _, _ => .nil
 | a :: l, 0, n, hp => .cons (hp a rfl) (aO.refl h l)
 | a :: l, j + 1, n, hp => .cons (h a) (aO.aac h l j n fun p hq => hp p hq)
def usN (u : List (Ty.T (.int .i64))) (T : List (Ty.T ab)) : Nat := T.countP fun p => !decide (lf p = 0) && !(u.any fun z => z == p.1)
def SW : Nat -> Nat
 | 0 => 0
 | m + 1 => 1 + 3 * SW m
def LW : Nat -> Nat
 | 0 => 1
 | m + 1 => 3 * LW m
theorem Qe : ∀ m, 1 <= LW m
 | 0 => Nat.le_refl _
 | m + 1 => by have := Qe m; simp only [LW]; omega
def QW (t : Ty.T y66) : Int := t.2.2.2.2.2.2.2
def LeR (p p' : Ty.T ab) : Prop := p'.1 = p.1 /\ (lf p = 0 -> lf p' = 0)
theorem LeR.refl (p : Ty.T ab) : LeR p p := ⟨rfl, id⟩
theorem LeR.trans (a b c : Ty.T ab) (h : LeR a b) (k : LeR b c) : LeR a c := ⟨k.1.trans h.1, fun x => k.2 (h.2 x)⟩
theorem KD {u : List (Ty.T (.int .i64))} : ∀ {T T' : List (Ty.T ab)}, aO LeR T T' -> usN u T' <= usN u T
 | _, _, .nil => Nat.le_refl _
 | a :: T, b :: T', .cons h k => by
  have ih : T'.countP _ <= T.countP _ := KD (u := u) k
  unfold usN
  rw [List.countP_cons, List.countP_cons, h.1]
  by_cases h0 : lf a = 0
  ·rw [h.2 h0, h0]
   exact Nat.add_le_add_right ih _
  ·rw [decide_eq_false h0]
   by_cases h1 : lf b = 0
   ·rw [decide_eq_true h1]
    simp only [Bool.not_true, Bool.false_and, Bool.false_eq_true, if_false, Nat.add_zero]
    exact Nat.le_trans ih (Nat.le_add_right _ _)
   ·rw [decide_eq_false h1]
    exact Nat.add_le_add_right ih _
theorem WE {u : List (Ty.T (.int .i64))} {T : List (Ty.T ab)} {p : Ty.T ab} (hp : p ∈ T) (h0 : ¬ lf p = 0) (hu : (u.any fun z => z == p.1) = false) : usN (u ++ [p.1]) T + 1 <= usN u T := by
 unfold usN
 refine XW (fun x hx => ?_) (y := p) ?_ ?_ T hp
 ·simp only [List.any_append, Bool.not_or, Bool.and_eq_true] at hx ⊢
  exact ⟨hx.1, hx.2.1⟩
 ·rw [hu, decide_eq_false h0]
  rfl
 ·simp
/-- What is said of rewriting. -/
def Uh (u : List (Ty.T (.int .i64))) (T : List (Ty.T ab)) (cs : List (Ty.T (.int .i64))) (n : Nat) (z : List (Ty.T ab) × List (Ty.T y27) × List (Ty.T (.int .i64)) × List (Ty.T y66)) : Prop :=
 aO LeR T z.1 /\ (∀ m, usN u T <= m -> z.2.1.length <= n * LW m /\ z.2.2.2.length <= n * SW m /\ ∀ t ∈ z.2.2.2, 0 <= QW t /\ QW t + 1 <= (u.length : Int) + (m : Int)) /\ z.2.2.1 = cs.drop (jZ z.2.2.2)
theorem LD {P : Ty.T y27 -> List (Ty.T ab) -> List (Ty.T (.int .i64)) -> List (Ty.T ab) × List (Ty.T y27) × List (Ty.T (.int .i64)) × List (Ty.T y66) -> Prop} {u : List (Ty.T (.int .i64))} (hP : ∀ y T cs a, P y T cs a -> Uh u T cs 1 a) : ∀ {L T cs z}, FoldP P L T cs z -> Uh u T cs L.length z
 | _, _, _, _, .nil => ⟨aO.refl LeR.refl _, fun m hm => ⟨by simp, by simp, fun t ht => by cases ht⟩, by simp [jZ]⟩
 | _, _, _, _, .cons (y := y) (L := L) (T := T) (cs := cs) (a := a) (b := b) h k => by
  obtain ⟨a1, a2, a3⟩ := hP _ _ _ _ h
  obtain ⟨b1, b2, b3⟩ := LD hP k
  refine ⟨aO.trans' LeR.trans a1 b1, fun m hm => ?_, ?_⟩
  ·obtain ⟨x1, x2, x3⟩ := a2 m hm
   obtain ⟨y1, y2, y3⟩ := b2 m (Nat.le_trans (KD a1) hm)
   refine ⟨?_, ?_, fun t ht => ?_⟩
   ·show (a.2.1 ++ b.2.1).length <= _
    rw [List.length_append, List.length_cons, Nat.succ_mul]
    omega
   ·show (a.2.2.2 ++ b.2.2.2).length <= _
    rw [List.length_append, List.length_cons, Nat.succ_mul]
    omega
   ·rcases List.mem_append.1 ht with ht | ht
    ·exact x3 t ht
    ·exact y3 t ht
  ·show b.2.2.1 = cs.drop (jZ (a.2.2.2 ++ b.2.2.2))
   rw [b3, a3, List.drop_drop]
   unfold jZ
   rw [List.countP_append]
theorem aab {s : Ty.T y36} (hb : s.1.length <= 1048576) (hs : s.2.1.length <= 1048576) (k : Nat) (x : Ty.T y27) (u : List (Ty.T (.int .i64))) (T : List (Ty.T ab)) (cs : List (Ty.T (.int .i64))) (w : WfW k u T cs) : Uh u T cs 1 (mw s k x u T cs) := by
 refine (SQ hb hs (fun k x u T cs z => Uh u T cs 1 z) ?_ ?_ ?_ k x u T cs w).1
 ·intro x u T cs w
  exact ⟨aO.refl LeR.refl _, fun m hm => ⟨by simp, by simp, fun t ht => by cases ht⟩, by simp [jZ]⟩
 ·intro k x u T cs w ho
  refine ⟨aO.refl LeR.refl _, fun m hm => ⟨?_, by simp, fun t ht => by cases ht⟩, by simp [jZ]⟩
  have := Qe m
  cases mA x
  ·show 1 <= _
   omega
  ·show 0 <= _
   omega
 ·intro k x u T cs oo ch cs1 j p z w ho hol hy hpk hcs hpj hun hft hn1 hL hf
  have hpm := List.mem_of_getElem? hpj
  have h0 := XO s p x (w.tv p hpm) hft
  have hA : aO LeR T (T.set j (tA (ct p x))) := aO.aac LeR.refl T j _ fun q hq => by
   have : q = p := Option.some.inj (hq.symm.trans hpj)
   subst this
   exact ⟨hn1, fun h => absurd h h0⟩
  obtain ⟨a1, a2, a3⟩ := LD (fun y T cs a h => h.2.1) hf
  refine ⟨aO.trans' LeR.trans hA a1, fun m hm => ?_, ?_⟩
  ·have hlt := WE hpm h0 hun
   obtain ⟨m, rfl⟩ : ∃ m', m = m' + 1 := ⟨m - 1, by omega⟩
   obtain ⟨x1, x2, x3⟩ := a2 m (by have := KD (u := u ++ [p.1]) hA; omega)
   have hm1 : (ct p x).2.2.2.1.length * LW m <= 3 * LW m := Nat.mul_le_mul_right _ hL
   have hm2 : (ct p x).2.2.2.1.length * SW m <= 3 * SW m := Nat.mul_le_mul_right _ hL
   refine ⟨?_, ?_, fun t ht => ?_⟩
   ·show z.2.1.length <= _
    simp only [LW]
    omega
   ·show (xJ s p x (ch : Int) oo.length u :: z.2.2.2).length <= _
    rw [List.length_cons]
    simp only [SW]
    omega
   ·rcases List.mem_cons.1 ht with rfl | ht
    ·show 0 <= (u.length : Int) /\ (u.length : Int) + 1 <= _
     omega
    ·have := x3 t ht
     rw [List.length_append] at this
     simp only [List.length_cons, List.length_nil] at this
     omega
  ·show z.2.2.1 = cs.drop (jZ (xJ s p x (ch : Int) oo.length u :: z.2.2.2))
   have hn : jZ (xJ s p x (ch : Int) oo.length u :: z.2.2.2) = jZ z.2.2.2 + (if oo.length < 2 then 0 else 1) := by
    unfold jZ
    rw [List.countP_cons]
    congr 1
    show (if decide ((2 : Int) <= (oo.length : Int)) = true then 1 else 0) = _
    by_cases h2 : oo.length < 2
    ·rw [if_pos h2, if_neg (by simp only [decide_eq_true_eq]; omega)]
    ·rw [if_neg h2, if_pos (by simp only [decide_eq_true_eq]; omega)]
   rw [hn, a3, hcs]
   by_cases h2 : oo.length < 2
   ·rw [if_pos h2, if_pos h2]
    rfl
   ·rw [if_neg h2, if_neg h2, ← List.drop_one, List.drop_drop]
    congr 1
    omega
theorem YJ (e : Ty.T ab) (v : Ty.T y27) (hb : e.2.2.2.2.2.2.1.2.2.2.2.2.2.length <= 1048576) : ct e v = cond (eg e && (cu v && mB e.2.2.2.2.2.2.1 v.1)) ((fP e v).1, (wc e (fP e v).1).1, (wc e (fP e v).1).2.1, (fP e v).2.filter fun x => !gM x, (wc e (fP e v).1).2.2) (0, (((e.1, e.2.1, e.2.2.1, e.2.2.2.1, e.2.2.2.2.1, e.2.2.2.2.2.1, e.2.2.2.2.2.2.1.1, e.2.2.2.2.2.2.1.2.1, e.2.2.2.2.2.2.1.2.2.1, e.2.2.2.2.2.2.1.2.2.2.1, e.2.2.2.2.2.2.1.2.2.2.2.1, e.2.2.2.2.2.2.1.2.2.2.2.2.1), e.2.2.2.2.2.2.2, e.2.2.2.2.2.2.1.2.2.2.2.2.2)).1, (e.2.2.2.2.2.2.2.1, e.2.2.2.2.2.2.2.2), [v], e.2.2.2.2.2.2.1.2.2.2.2.2.2) := by
 have h1 := gw e hb
 have h2 := WU e v hb
 have h3 := KU e (bN ([], 0, 0, e.2.2.2.2.2.2.1.1, (e.2.2.2.2.2.2.1.1 == (1 : Int)), e, v, (0, 0, 0, 0, (0, 0, 0, 0, 0, 0, 0), (0, 0), (0, 0, 0, 0, 0, false, []), 0, 0), [], ())).1 (bN ([], 0, 0, e.2.2.2.2.2.2.1.1, (e.2.2.2.2.2.2.1.1 == (1 : Int)), e, v, (0, 0, 0, 0, (0, 0, 0, 0, 0, 0, 0), (0, 0), (0, 0, 0, 0, 0, false, []), 0, 0), [], ())).2 (Dw e v hb)
 have h4 := cpS e hb
 have h6 := V8 e (bN ([], 0, 0, e.2.2.2.2.2.2.1.1, (e.2.2.2.2.2.2.1.1 == (1 : Int)), e, v, (0, 0, 0, 0, (0, 0, 0, 0, 0, 0, 0), (0, 0), (0, 0, 0, 0, 0, false, []), 0, 0), [], ())).1 hb
 have hk : JB [] 0 (bN ([], 0, 0, e.2.2.2.2.2.2.1.1, (e.2.2.2.2.2.2.1.1 == (1 : Int)), e, v, (0, 0, 0, 0, (0, 0, 0, 0, 0, 0, 0), (0, 0), (0, 0, 0, 0, 0, false, []), 0, 0), [], ())).1 0 e (0, 0, 0, 0, (0, 0, 0, 0, 0, 0, 0), (0, 0), (0, 0, 0, 0, 0, false, []), 0, 0) (bN ([], 0, 0, e.2.2.2.2.2.2.1.1, (e.2.2.2.2.2.2.1.1 == (1 : Int)), e, v, (0, 0, 0, 0, (0, 0, 0, 0, 0, 0, 0), (0, 0), (0, 0, 0, 0, 0, false, []), 0, 0), [], ())).2 [] 0 = true := aS h3 0
 have hw : KH [] 0 (bN ([], 0, 0, e.2.2.2.2.2.2.1.1, (e.2.2.2.2.2.2.1.1 == (1 : Int)), e, v, (0, 0, 0, 0, (0, 0, 0, 0, 0, 0, 0), (0, 0), (0, 0, 0, 0, 0, false, []), 0, 0), [], ())).1 0 e (0, 0, 0, 0, (0, 0, 0, 0, 0, 0, 0), (0, 0), (0, 0, 0, 0, 0, false, []), 0, 0) (bN ([], 0, 0, e.2.2.2.2.2.2.1.1, (e.2.2.2.2.2.2.1.1 == (1 : Int)), e, v, (0, 0, 0, 0, (0, 0, 0, 0, 0, 0, 0), (0, 0), (0, 0, 0, 0, 0, false, []), 0, 0), [], ())).2 [] = _ := bp h3
 have hg : uJ ([], 0, e, v, (0, 0, 0, 0, (0, 0, 0, 0, 0, 0, 0), (0, 0), (0, 0, 0, 0, 0, false, []), 0, 0), ()) = true /\ um ([], 0, e, v, (0, 0, 0, 0, (0, 0, 0, 0, 0, 0, 0), (0, 0), (0, 0, 0, 0, 0, false, []), 0, 0), ()) = cond (!eg e) true (cond (!cu v) true (!mB e.2.2.2.2.2.2.1 v.1)) := by
  simp only [uJ, um, qE, h1.1, cond_true]
  cases eg e <;> cases cu v <;> exact ⟨rfl, rfl⟩
 rw [h2.2.2]
 unfold ct t214
 try simp only [nfs]
 rw [hg.1, hg.2]
 cases c1 : eg e
 ·rw [h4.1, h4.2]
  simp
 cases c2 : cu v
 ·rw [h4.1, h4.2]
  simp
 cases c3 : mB e.2.2.2.2.2.2.1 v.1
 ·rw [h4.1, h4.2]
  simp
 simp only [tZ, gO]
 rw [h2.1, hk, hw]
 simp only [h6.1, cond_true, cond_false, Bool.not_true, Bool.and_true, Option.getD_some, Option.isSome_some]
theorem ZY (e : Ty.T ab) (hb : e.2.2.2.2.2.2.1.2.2.2.2.2.2.length <= 1048576) (h : eg e = true) : -1 <= lf e /\ lf e <= 2147483647 /\ (@Eq Int e.2.2.2.2.2.2.1.1 2 -> 0 <= lf e) := by
 have hr : bj (lf e) (-1) 2147483647 = true := by
  cases hc : bj (lf e) (-1) 2147483647
  ·exfalso
   unfold lf at hc
   simp only [eg, t242, hc, Bool.not_false, cond_true, nfs] at h
   revert h
   cases !bj e.1 1 99 <;> cases !bj e.2.1 0 2 <;> cases !bj e.2.2.1 0 99 <;> cases !bj e.2.2.2.1 0 4 <;> cases !bj e.2.2.2.2.2.2.2.1 (-1) 9999 <;> exact fun h => by cases h
  ·rfl
 have hr2 : -1 <= lf e /\ lf e <= 2147483647 := by
  simp only [bj] at hr
  generalize lf e = x at hr
  have : decide (x ≥ (-1 : Int)) = true := by cases hx : decide (x ≥ (-1 : Int)) <;> simp_all
  have h1 := of_decide_eq_true this
  rw [this] at hr
  have h2 := of_decide_eq_true hr
  exact ⟨h1, h2⟩
 refine ⟨hr2.1, hr2.2, fun hk => ?_⟩
 by_cases hn : lf e < 0
 ·exfalso
  have hn' : e.2.2.2.2.2.2.2.2 < (0 : Int) := hn
  have hk' : (e.2.2.2.2.2.2.1.1 == (2 : Int)) = true := by rw [hk]; rfl
  simp only [eg, t242, hk', decide_eq_true hn', cond_true, nfs] at h
  revert h
  cases !bj e.1 1 99 <;> cases !bj e.2.1 0 2 <;> cases !bj e.2.2.1 0 99 <;> cases !bj e.2.2.2.1 0 4 <;> cases !bj e.2.2.2.2.2.2.2.1 (-1) 9999 <;> cases !bj e.2.2.2.2.2.2.2.2 (-1) 2147483647 <;> cases (e.2.2.2.1 == (0 : Int)) <;> cases (e.2.2.1 == (0 : Int)) <;> exact fun h => by cases h
 ·omega
def ZE (p : Ty.T ab) (v : Int) : Ty.T ab := (p.1, p.2.1, p.2.2.1, p.2.2.2.1, p.2.2.2.2.1, p.2.2.2.2.2.1, p.2.2.2.2.2.2.1, p.2.2.2.2.2.2.2.1, v)
theorem upS (a b : Int) (hb : 0 <= b) : 0 <= ey a b /\ (0 <= a -> ey a b <= a) /\ (a < 0 -> ey a b = 0) := by
 unfold ey
 by_cases h1 : b < a <;> by_cases h2 : a < 0 <;> simp [h1, h2, Int.not_lt.2 hb] <;> omega
def LeU (p p' : Ty.T ab) : Prop := ∃ v, v <= lf p /\ p' = ZE p v
theorem LeU.refl (p : Ty.T ab) : LeU p p := ⟨lf p, Int.le_refl _, rfl⟩
theorem LeU.trans (a b c : Ty.T ab) (h : LeU a b) (k : LeU b c) : LeU a c := by
 obtain ⟨x, hx, rfl⟩ := h
 obtain ⟨y, hy, rfl⟩ := k
 exact ⟨y, Int.le_trans hy hx, rfl⟩
def ajx (s : Ty.T y36) (x : Ty.T y27) (u : List (Ty.T (.int .i64))) (T : List (Ty.T ab)) (z : List (Ty.T ab) × List (Ty.T y27) × List (Ty.T (.int .i64)) × List (Ty.T y66)) : Prop :=
 aO LeU T z.1 /\ (z.2.2.2 = [] -> z.1 = T) /\ ∀ t ts, z.2.2.2 = t :: ts -> t.2.2.2.2.1 = x /\ @Eq Int t.2.2.2.2.2.2.2 (u.length : Int) /\ t.1 ∈ ej s T x u
theorem T3 (l : List (Ty.T y66)) (hb : l.length <= 1048576) : d58 l = true /\ v58 l = (l.filter ofN).map (·.2.2.1) := by
 have h := ee (s := xq) (f := fun i => ([], l, ((l).length : Int), (i : Int), ((l.take i).filter ofN).map (·.2.2.1), ())) (c := 0) (N := l.length) (v' := ([], l, ((l).length : Int), (l.length : Int), ((l.take l.length).filter ofN).map (·.2.2.1), ())) (fun i hi => by
  have h1 : l[i]? = some l[i] := List.getElem?_eq_getElem hi
  have hw := aX (n := i) (by omega)
  have hz : ∀ x : Int, (@HAppend.hAppend (List Int) (List Int) (List Int) _ (((l.take i).filter ofN).map (·.2.2.1)) [x]).length * 8 <= 140737488351232 := fun x => by
   have := List.length_filter_le ofN (l.take i)
   simp only [List.length_append, List.length_cons, List.length_nil, List.length_map, List.length_take] at this ⊢
   omega
  rw [e9 h1]
  by_cases c1 : (l[i]).2.2.2.1 ≥ (2 : Int)
  ·have c2 : ofN l[i] = true := decide_eq_true c1
   simp only [xq, zL, decide_eq_true (show (i : Int) < (l.length : Int) by omega), cond_true, if_pos (show (0 : Int) <= (i : Int) by omega), Int.toNat_natCast, h1, aA, hw, decide_eq_true c1, c2, if_pos (hz _), List.map_append, List.map_cons, List.map_nil] <;> rfl
  ·have c2 : ofN l[i] = false := decide_eq_false c1
   simp only [xq, zL, decide_eq_true (show (i : Int) < (l.length : Int) by omega), cond_true, if_pos (show (0 : Int) <= (i : Int) by omega), Int.toNat_natCast, h1, aA, hw, decide_eq_false c1, c2, cond_false, List.append_nil] <;> rfl) (by simp [xq, zL]) l.length 0 (FM ([], l, ((l).length : Int), 0, [], ())) (by omega) (by simp only [FM]; omega)
 have hk : K8 [] l ((l).length : Int) 0 [] 0 = true := aS h 0
 have hw : Ox [] l ((l).length : Int) 0 [] = _ := bp h
 unfold d58 v58
 rw [hk, hw]
 exact ⟨rfl, by simp⟩
theorem aaK (f : Ty.T y56) (hb : f.2.2.2.length <= 1048576) : d49 f = true /\ v49 f = (jZ f.2.2.2 : Int) := by
 have h := T3 f.2.2.2 hb
 unfold d49 v49
 rw [h.1, h.2]
 refine ⟨rfl, ?_⟩
 show ((List.length (List.map _ (List.filter ofN f.2.2.2)) : Nat) : Int) = _
 rw [List.length_map, ← List.countP_eq_length_filter]
 rfl
theorem HM {V : Type} {s : V -> Option (Nat × V)} {Q : Nat -> V -> Prop} (Inv : Nat -> V -> Prop) (h : ∀ k v, Inv k v -> Sat (s v) fun r => (∃ c, r.1 = c + 1 /\ Q c r.2) ∨ (r.1 = 0 /\ ∃ k', k = k' + 1 /\ Inv k' r.2)) : ∀ (k : Nat) (v : V) (n : Nat), Inv k v -> k < n -> ∃ c v', iter s n v = some (c, v') /\ Q c v'
 | k, v, 0, _, hn => by omega
 | k, v, n + 1, hI, hn => by
  obtain ⟨⟨c, v'⟩, h1, h2⟩ := h k v hI
  rcases h2 with ⟨c, rfl, h2⟩ | ⟨rfl, k', rfl, h4⟩
  ·exact ⟨c, v', by rw [iter, h1] <;> rfl, h2⟩
  ·obtain ⟨c, v2, h5, h6⟩ := HM Inv h k' v' n h4 (by omega)
   exact ⟨c, v2, by rw [iter, h1]; exact h5, h6⟩
theorem RR (p : Ty.T y63) (h : my p = true) : (0 : Int) <= p.2.2.1 /\ (p.2.2.1 : Int) <= 2 := by
 simp only [my, t240, bj] at h
 have cc : ∀ (p q r : Bool), cond p q r = true ↔ (p = true /\ q = true) ∨ (p = false /\ r = true) := by decide
 have cf : ∀ (p q r : Bool), cond p q r = false ↔ (p = true /\ q = false) ∨ (p = false /\ r = false) := by decide
 simp [cc, cf] at h
 dsimp only [Ty.T] at h ⊢
 omega
theorem TS (s : Ty.T y36) (hb : s.1.length <= 1048576) (h : kj s = true) : ∀ x ∈ s.1, my x = true := by
 obtain ⟨cc, v', h1, h2⟩ := HM (s := gP) (Q := fun c v => (c = 0 /\ v.1 = false) ∨ (c = 1 /\ ∀ x ∈ s.1, my x = true)) (fun k v => ∃ i : Nat, v = (false, (i : Int), s, ()) /\ i + k = s.1.length /\ ∀ x ∈ s.1.take i, my x = true) (fun k v hv => by
  obtain ⟨i, rfl, hk, hi⟩ := hv
  unfold gP lL
  dsimp only
  by_cases hlt : i < s.1.length
  ·have hx : s.1[i]? = some s.1[i] := List.getElem?_eq_getElem hlt
   have g0 : (0 : Int) <= (i : Int) := by omega
   have hw := aX (n := i) (by omega)
   rw [decide_eq_true (show (i : Int) < (s.1.length : Int) by omega), cond_true, if_pos g0, Int.toNat_natCast, hx, aA]
   cases hp : my s.1[i]
   ·rw [Bool.not_false, cond_true, aZ]
    exact .inl ⟨0, rfl, .inl ⟨rfl, rfl⟩⟩
   ·have nx : ∀ {z : Nat × et}, z = (0, (false, ((i + 1 : Nat) : Int), s, ())) -> ((∃ c, z.1 = c + 1 /\ ((c = 0 /\ z.2.1 = false) ∨ (c = 1 /\ ∀ x ∈ s.1, my x = true))) ∨ (z.1 = 0 /\ ∃ k', k = k' + 1 /\ ∃ i : Nat, z.2 = (false, (i : Int), s, ()) /\ i + k' = s.1.length /\ ∀ x ∈ s.1.take i, my x = true)) := fun e => by
     subst e
     refine .inr ⟨rfl, k - 1, by omega, i + 1, rfl, by omega, fun x hxm => ?_⟩
     rw [dU hx] at hxm
     rcases List.mem_append.1 hxm with hxm | hxm
     ·exact hi x hxm
     ·rw [List.mem_singleton.1 hxm]; exact hp
    have ex : ∀ {z : Nat × et} {a : Int}, z = (1, (false, a, s, ())) -> ((∃ c, z.1 = c + 1 /\ ((c = 0 /\ z.2.1 = false) ∨ (c = 1 /\ ∀ x ∈ s.1, my x = true))) ∨ (z.1 = 0 /\ ∃ k', k = k' + 1 /\ ∃ i : Nat, z.2 = (false, (i : Int), s, ()) /\ i + k' = s.1.length /\ ∀ x ∈ s.1.take i, my x = true)) := fun e => by
     subst e
     exact .inl ⟨0, rfl, .inl ⟨rfl, rfl⟩⟩
    rw [Bool.not_true, cond_false]
    cases i with
    | zero =>
     rw [decide_eq_false (show ¬ (((0 : Nat) : Int) > 0) by omega), cond_false, hw]
     cases decide ((s.1[0]).2.1 ≥ (s.2.1.length : Int)) <;> cases decide ((s.1[0]).2.2.1 ≥ (s.2.1.length : Int)) <;> cases decide ((s.1[0]).2.2.2.2.1 > s.2.2.2) <;> first | exact ⟨_, rfl, ex rfl⟩ | exact ⟨_, rfl, nx rfl⟩
    | succ j =>
     have hy : s.1[j]? = some s.1[j] := List.getElem?_eq_getElem (by omega)
     rw [decide_eq_true (show (((j + 1 : Nat) : Int) > 0) by omega), cond_true, lj j (by omega), if_pos (show (0 : Int) <= (j : Int) by omega), Int.toNat_natCast, hy, aA, hw]
     cases decide ((s.1[j]).1 ≥ (s.1[j + 1]).1) <;> cases decide ((s.1[j + 1]).2.1 ≥ (s.2.1.length : Int)) <;> cases decide ((s.1[j + 1]).2.2.1 ≥ (s.2.1.length : Int)) <;> cases decide ((s.1[j + 1]).2.2.2.2.1 > s.2.2.2) <;> first | exact ⟨_, rfl, ex rfl⟩ | exact ⟨_, rfl, nx rfl⟩
  ·have hil : i = s.1.length := by omega
   subst hil
   rw [List.take_of_length_le (Nat.le_refl _)] at hi
   rw [decide_eq_false (show ¬ ((s.1.length : Int) < (s.1.length : Int)) by omega), cond_false, aZ]
   exact .inl ⟨1, rfl, .inr ⟨rfl, hi⟩⟩) s.1.length (false, (0 : Int), s, ()) (oU (false, 0, s, ())) ⟨0, rfl, by omega, fun x hx => by simp at hx⟩ (by simp only [oU]; omega)
 rcases h2 with ⟨rfl, h3⟩ | ⟨rfl, h3⟩
 ·exfalso
  have e0 : th false 0 s 0 = true := aS h1 0
  have ew : kt false 0 s = v' := bp h1
  simp only [kj, t155, e0, ew, h3, cond_true, nfs] at h
  revert h
  cases decide ((s.1.length : Int) > (8 : Int)) <;> cases !bj (s.2.1.length : Int) 2 3 <;> cases !bj s.2.2.1 0 (IntKind.wrap .i64 ((s.2.1.length : Int) - (1 : Int))) <;> cases !bj s.2.2.2 0 9999 <;> exact fun h => by cases h
 ·exact h3
theorem Rq (l : List (Ty.T y27)) (hb : l.length <= 1048576) : (l.any (fun x => !cu x) = true /\ fq l 0 ((l).length : Int) 0 0 = true /\ ∃ j : Nat, rM l 0 ((l).length : Int) 0 = (l, (j : Int), ((l).length : Int), (j : Int), ())) ∨ (l.any (fun x => !cu x) = false /\ fq l 0 ((l).length : Int) 0 0 = false /\ fq l 0 ((l).length : Int) 0 1 = true /\ rM l 0 ((l).length : Int) 0 = (l, 0, ((l).length : Int), (l.length : Int), ())) := by
 have h := dp (s := ln) (mk := fun i => (l, 0, ((l).length : Int), i, ())) (fin := fun i => (l, (i : Int), ((l).length : Int), (i : Int), ())) (p := fun i => match l[i]? with | some x => !cu x | none => false) (N := l.length) (fun i hi => by
  have h1 := List.getElem?_eq_getElem hi
  simp only [h1]
  skip
  cases ht : (cu l[i] : Bool) <;> simp [ln, kz, aA, hi, h1, ht, TG, Al, aX (n := i) (by omega)]) (by simp [ln, kz]) l.length 0 (nR (l, 0, ((l).length : Int), 0, ())) (by omega) (by simp only [nR]; omega)
 have hf := fS (p := fun x => !cu x) (xs := l) (q := fun i => match l[i]? with | some x => !cu x | none => false) (fun i x h1 => by simp only [h1])
 revert h hf
 generalize first _ 0 l.length = o
 intro h hf
 cases o with
 | none => exact .inr ⟨hf.symm, aS h 0, aS h 1, bp h⟩
 | some j => exact .inl ⟨hf.symm, aS h 0, j, bp h⟩
theorem Tc (l : List (Ty.T y27)) (hb : l.length <= 1048576) : z7 l = true /\ wL l = l.any (fun x => !cu x) := by
 unfold z7 wL uf yj
 rcases Rq l hb with ⟨hB, e0, j, hw⟩ | ⟨hB, e0, e1, hw⟩
 ·rw [e0, hw, hB]
  exact ⟨rfl, decide_eq_true (show ((j : Int)) ≥ 0 by omega)⟩
 ·rw [e0, e1, hB]
  exact ⟨rfl, rfl⟩
theorem inV {n a b : Int} (h : bj n a b = true) : a <= n /\ n <= b := by
 unfold bj at h
 by_cases h1 : n ≥ a
 ·rw [decide_eq_true h1, cond_true] at h
  exact ⟨h1, of_decide_eq_true h⟩
 ·rw [decide_eq_false h1] at h
  cases h
theorem frV {n a b : Int} (h : a <= n /\ n <= b) : cw n a b = true := by
 unfold cw
 rw [decide_eq_true (show n ≥ a from h.1), cond_true]
 exact decide_eq_true h.2
theorem XS (s : Ty.T y36) (hs : s.2.1.length <= 1048576) (h : kj s = true) : (s.2.1.length : Int) <= 3 /\ @LE.le Int _ 0 s.2.2.1 /\ @LE.le Int _ s.2.2.1 2 := by
 have h1 : bj (s.2.1.length : Int) 2 3 = true := by
  cases hc : bj (s.2.1.length : Int) 2 3
  ·exfalso
   simp only [kj, t155, hc, Bool.not_false, cond_true, nfs] at h
   revert h
   cases decide ((s.1.length : Int) > (8 : Int)) <;> exact fun h => by cases h
  ·rfl
 have h2 : bj s.2.2.1 0 (IntKind.wrap .i64 ((s.2.1.length : Int) - (1 : Int))) = true := by
  cases hc : bj s.2.2.1 0 (IntKind.wrap .i64 ((s.2.1.length : Int) - (1 : Int)))
  ·exfalso
   simp only [kj, t155, hc, Bool.not_false, cond_true, nfs] at h
   revert h
   cases decide ((s.1.length : Int) > (8 : Int)) <;> cases !bj (s.2.1.length : Int) 2 3 <;> exact fun h => by cases h
  ·rfl
 have a1 := inV h1
 rw [bR (by omega) (by omega)] at h2
 have a2 := inV h2
 exact ⟨a1.2, a2.1, by have := a2.2; omega⟩
theorem chR (s : Ty.T y36) (e : Ty.T y27) (hb : s.1.length <= 1048576) (hs : s.2.1.length <= 1048576) (h : kj s = true) : (0 : Int) <= we s e /\ we s e <= 2 := by
 obtain ⟨r1, r2, r3⟩ := XS s hs h
 have hp := TS s hb h
 have ht := tgt s e hb
 have t : @Eq Int (lI s e) (-1) ∨ ((0 : Int) <= lI s e /\ lI s e <= 2) := by
  unfold lI
  cases (e.2.2.1 == (0 : Int))
  ·rw [cond_false]
   have hp2 := (pa s e.2.2.1 hb).1
   rw [hp2, cond_true]
   cases decide (kl s e.2.2.1 < (0 : Int))
   ·rw [cond_false]
    cases hx : s.1[(kl s e.2.2.1).toNat]? with
    | none => exact .inr ⟨by show (0 : Int) <= 0; omega, by show (0 : Int) <= 2; omega⟩
    | some x => exact .inr (RR x (hp x (List.mem_of_getElem? hx)))
   ·exact .inl rfl
  ·rw [cond_true]
   cases hi : bj e.2.2.2.1 0 (IntKind.wrap .i64 (((s.2.1).length : Int) - (1 : Int)))
   ·exact .inl rfl
   ·rw [bR (by omega) (by omega)] at hi
    have a := inV hi
    exact .inr ⟨a.1, Int.le_trans a.2 (by omega)⟩
 unfold we
 rw [ht.1, cond_true]
 cases hq : (lI s e == (-1 : Int))
 ·rw [cond_false]
  rcases t with t | t
  ·rw [t] at hq; cases hq
  ·exact t
 ·rw [cond_true]
  exact ⟨r2, r3⟩
theorem acw (e : Ty.T ab) (h : eg e = true) : @LE.le Int _ 1 e.1 /\ @LE.le Int _ e.1 99 := by
 have h1 : bj e.1 1 99 = true := by
  cases hc : bj e.1 1 99
  ·exfalso
   simp only [eg, t242, hc, Bool.not_false, cond_true, nfs] at h
   cases h
  ·rfl
 exact inV h1
theorem c1R (w : tQ) : @Eq Int (bN w).1 0 ∨ @Eq Int (bN w).1 w.2.2.2.2.2.2.1.2.2.2.2.1 ∨ @Eq Int (bN w).1 w.2.2.1 ∨ ((w.2.2.2.1 == (2 : Int)) = true /\ @Eq Int (bN w).1 (ey w.2.2.2.2.2.2.1.2.2.2.2.1 w.2.2.2.2.2.1.2.2.2.2.2.2.2.2)) := by
 unfold bN dN
 cases w.2.2.2.2.1
 ·rw [cond_false]
  cases (w.2.2.2.1 == (2 : Int))
  ·rw [cond_false]
   cases (w.2.2.2.1 == (9 : Int))
   ·rw [cond_false]
    split
    ·exact .inr (.inr (.inl rfl))
    ·exact .inl rfl
   ·rw [cond_true]
    generalize d273 _ _ = b
    cases b
    ·exact .inl rfl
    ·exact .inr (.inr (.inl rfl))
  ·rw [cond_true]
   split
   ·exact .inr (.inr (.inr ⟨rfl, rfl⟩))
   ·exact .inl rfl
 ·rw [cond_true]
  cases (w.2.2.2.2.2.2.1.1 == (1 : Int))
  ·exact .inr (.inr (.inl rfl))
  ·exact .inr (.inl rfl)
theorem abR (x : Ty.T y27) (h : cu x = true) : @LE.le Int _ 0 x.2.2.2.2.1 /\ @LE.le Int _ x.2.2.2.2.1 2147483647 := by
 have h1 : bj x.2.2.2.2.1 0 2147483647 = true := by
  cases hc : bj x.2.2.2.2.1 0 2147483647
  ·exfalso
   simp only [cu, t157, hc, Bool.not_false, cond_true] at h
   revert h
   cases bj x.2.2.1 1 99 <;> cases (x.2.2.1 == (0 : Int)) <;> exact fun h => by cases h
  ·rfl
 exact inV h1
theorem agB (p : Ty.T ab) (x : Ty.T y27) (hb : p.2.2.2.2.2.2.1.2.2.2.2.2.2.length <= 1048576) (hx : cu x = true) (hp : eg p = true) : (0 : Int) <= (fP p x).1 /\ ((fP p x).1 : Int) <= 2147483647 := by
 obtain ⟨l1, l2, l3⟩ := ZY p hb hp
 obtain ⟨e1, e2⟩ := abR x hx
 rw [(WU p x hb).2.2]
 rcases c1R ([], 0, 0, p.2.2.2.2.2.2.1.1, (p.2.2.2.2.2.2.1.1 == (1 : Int)), p, x, (0, 0, 0, 0, (0, 0, 0, 0, 0, 0, 0), (0, 0), (0, 0, 0, 0, 0, false, []), 0, 0), [], ()) with h | h | h | ⟨hk, h⟩
 ·rw [h]; omega
 ·rw [h]; exact ⟨e1, e2⟩
 ·rw [h]; show (0 : Int) <= 0 /\ (0 : Int) <= 2147483647; omega
 ·rw [h]
  have u := upS x.2.2.2.2.1 (lf p) (l3 (eq_of_beq hk))
  exact ⟨u.1, Int.le_trans (u.2.1 e1) e2⟩
theorem Zp (t : Ty.T y66) (h1 : @LE.le Int _ 1 t.1 /\ @LE.le Int _ t.1 99) (h2 : @LE.le Int _ 0 t.2.1 /\ @LE.le Int _ t.2.1 2) (h3 : @LE.le Int _ 1 t.2.2.2.1 /\ @LE.le Int _ t.2.2.2.1 5) (h4 : @LE.le Int _ 0 t.2.2.1 /\ @LT.lt Int _ t.2.2.1 t.2.2.2.1) (h5 : @LE.le Int _ 0 t.2.2.2.2.2.2.1 /\ @LE.le Int _ t.2.2.2.2.2.2.1 2147483647) (h6 : @LE.le Int _ 0 t.2.2.2.2.2.2.2 /\ @LE.le Int _ t.2.2.2.2.2.2.2 4) (h7 : cu t.2.2.2.2.1 = true) (h8 : t.2.2.2.2.2.1.length <= 3) (h9 : ∀ y ∈ t.2.2.2.2.2.1, cu y = true) : d55 t = true /\ v55 t = true := by
 have a1 : lb t.1 = true := by unfold lb; exact frV h1
 have a2 : mu t.2.1 = true := by unfold mu; exact frV h2
 have a3 : cw t.2.2.2.1 1 5 = true := frV h3
 have a4 : cw t.2.2.1 0 (IntKind.wrap .i64 (t.2.2.2.1 - (1 : Int))) = true := by
  rw [bR (by omega) (by omega)]
  exact frV ⟨h4.1, by omega⟩
 have a5 : pE t.2.2.2.2.2.2.1 = true := by unfold pE; exact frV h5
 have a6 : cw t.2.2.2.2.2.2.2 0 4 = true := frV h6
 have a7 := Tc t.2.2.2.2.2.1 (by omega)
 have a8 : (t.2.2.2.2.2.1.any fun x => !cu x) = false := by
  rw [List.any_eq_false]
  intro y hy
  rw [h9 y hy]
  decide
 unfold d55 v55 t55
 try simp only [nfs]
 rw [a1, a2, a3, a4, a5, a6, Al, h7, decide_eq_true (show ((t.2.2.2.2.2.1.length : Int)) <= 3 by omega), a7.1, a7.2, a8]
 exact ⟨rfl, rfl⟩
def abJ (t : Ty.T y66) : Prop := (@LE.le Int _ 1 t.1 /\ @LE.le Int _ t.1 99) /\ (@LE.le Int _ 0 t.2.1 /\ @LE.le Int _ t.2.1 2) /\ (@LE.le Int _ 1 t.2.2.2.1 /\ @LE.le Int _ t.2.2.2.1 5) /\ (@LE.le Int _ 0 t.2.2.1 /\ @LT.lt Int _ t.2.2.1 t.2.2.2.1) /\ (@LE.le Int _ 0 t.2.2.2.2.2.2.1 /\ @LE.le Int _ t.2.2.2.2.2.2.1 2147483647) /\ cu t.2.2.2.2.1 = true /\ t.2.2.2.2.2.1.length <= 3 /\ ∀ y ∈ t.2.2.2.2.2.1, cu y = true
def VW (z : List (Ty.T ab) × List (Ty.T y27) × List (Ty.T (.int .i64)) × List (Ty.T y66)) : Prop := (∀ y ∈ z.2.1, cu y = true /\ mA y = false) /\ ∀ t ∈ z.2.2.2, abJ t
theorem V0 {k : Nat} {u : List (Ty.T (.int .i64))} {P : Ty.T y27 -> List (Ty.T ab) -> List (Ty.T (.int .i64)) -> List (Ty.T ab) × List (Ty.T y27) × List (Ty.T (.int .i64)) × List (Ty.T y66) -> Prop} (hP : ∀ y T cs a, P y T cs a -> T.length <= 5 -> cu y = true -> VW a /\ a.1.length <= 5) : ∀ {L T cs z}, FoldP P L T cs z -> T.length <= 5 -> (∀ y ∈ L, cu y = true) -> VW z
 | _, _, _, _, .nil, _, _ => ⟨fun y hy => (by cases hy), fun t ht => (by cases ht)⟩
 | _, _, _, _, .cons (L := L) (a := a) (b := b) h k, hT, hL => by
  obtain ⟨h1, h2⟩ := hP _ _ _ _ h hT (hL _ List.mem_cons_self)
  have h3 := V0 (L := L) (T := a.1) (cs := a.2.2.1) (z := b) (k := 0) (u := []) hP k h2 (fun y hy => hL y (List.mem_cons_of_mem _ hy))
  refine ⟨fun y hy => ?_, fun t ht => ?_⟩
  ·rcases List.mem_append.1 hy with hy | hy
   ·exact h1.1 y hy
   ·exact h3.1 y hy
  ·rcases List.mem_append.1 ht with ht | ht
   ·exact h1.2 t ht
   ·exact h3.2 t ht
theorem mwV {s : Ty.T y36} (hb : s.1.length <= 1048576) (hs : s.2.1.length <= 1048576) (hst : kj s = true) (k : Nat) (x : Ty.T y27) (u : List (Ty.T (.int .i64))) (T : List (Ty.T ab)) (cs : List (Ty.T (.int .i64))) (w : WfW k u T cs) : T.length <= 5 -> cu x = true -> VW (mw s k x u T cs) := by
 refine (SQ hb hs (fun k x u T cs z => T.length <= 5 -> cu x = true -> VW z) ?_ ?_ ?_ k x u T cs w).1
 ·intro x u T cs w _ _
  exact ⟨fun y hy => (by cases hy), fun t ht => (by cases ht)⟩
 ·intro k x u T cs w ho _ hx
  refine ⟨fun y hy => ?_, fun t ht => by cases ht⟩
  cases hg : mA x
  ·rw [hg] at hy
   have hy : y ∈ [x] := hy
   rw [List.mem_singleton.1 hy]
   exact ⟨hx, hg⟩
  ·rw [hg] at hy
   cases hy
 ·intro k x u T cs oo ch cs1 j p z w ho hol hy hpk hcs hpj hun hft hn1 hL hf hT hx
  have hpm := List.mem_of_getElem? hpj
  have hok := CX s p x (w.tv p hpm) hft
  have hch := (List.getElem?_eq_some_iff.1 hy).1
  have hda := PV p x (w.tv p hpm)
  have hda4 := hda.2.2.2.1
  have hre : (∀ y ∈ (ct p x).2.2.2.1, cu y = true) /\ (0 : Int) <= (ct p x).1 /\ ((ct p x).1 : Int) <= 2147483647 := by
   have am := agB p x (w.tv p hpm) hx hok
   rw [YJ p x (w.tv p hpm)]
   cases (eg p && (cu x && mB p.2.2.2.2.2.2.1 x.1))
   ·refine ⟨fun y hy => ?_, by show (0 : Int) <= 0; omega, by show (0 : Int) <= 2147483647; omega⟩
    have hy : y ∈ [x] := hy
    rw [List.mem_singleton.1 hy]
    exact hx
   ·refine ⟨fun y hy => ?_, am.1, am.2⟩
    have hy2 := (List.mem_filter.1 hy).2
    simp only [gM, Al] at hy2
    cases hq : cu y
    ·rw [hq] at hy2
     cases hy2
    ·rfl
  have hT2 : (T.set j (tA (ct p x))).length <= 5 := by rw [List.length_set]; exact hT
  have hv := V0 (k := 0) (u := []) (P := fun y T cs a => WfW k (u ++ [p.1]) T cs /\ (T.length <= 5 -> cu y = true -> VW a) /\ iE T cs a.1 a.2.2.1) (fun y T cs a h hT hy => ⟨h.2.1 hT hy, by rw [h.2.2.len]; exact hT⟩) hf hT2 hre.1
  refine ⟨hv.1, fun t ht => ?_⟩
  rcases List.mem_cons.1 ht with rfl | ht
  ·refine ⟨acw p hok, chR s x hb hs hst, ⟨?_, ?_⟩, ⟨?_, ?_⟩, hre.2, hx, hda4, hre.1⟩
   ·show (1 : Int) <= (oo.length : Int); omega
   ·show ((oo.length : Nat) : Int) <= 5; omega
   ·show (0 : Int) <= (ch : Int); omega
   ·show (ch : Int) < (oo.length : Int); omega
  ·exact hv.2 t ht
theorem rwV (s : Ty.T y36) (l : List (Ty.T ab)) (e : Ty.T y27) (cs : List (Ty.T (.int .i64))) (hb : s.1.length <= 1048576) (hs : s.2.1.length <= 1048576) (hl : l.length <= 1048576) (hv : ∀ x ∈ l, x.2.2.2.2.2.2.1.2.2.2.2.2.2.length <= 1048576) (hc : cs.length <= 1048576) :
  (∀ y ∈ (rwM s l e cs).1, cu y = true /\ mA y = false) /\ (∀ t ∈ (rwM s l e cs).2.2.2, d55 t = true /\ v55 t = true) /\ (rwM s l e cs).2.2.1 = cs.drop (jZ (rwM s l e cs).2.2.2) /\ ((kj s && cu e) = false -> (rwM s l e cs).1 = []) := by
 cases hok : (kj s && pD l && cu e) with
 | false =>
  have hM : rwM s l e cs = ([], l, cs, []) := by simp only [rwM, hok, cond_false]
  rw [hM]
  exact ⟨fun y hy => (by cases hy), fun t ht => (by cases ht), rfl, fun _ => rfl⟩
 | true =>
  have hM : rwM s l e cs = ((mw s 6 e [] l cs).2.1, (mw s 6 e [] l cs).1, (mw s 6 e [] l cs).2.2.1, (mw s 6 e [] l cs).2.2.2) := by simp only [rwM, hok, cond_true]
  have h2 : pD l = true := by simp only [Bool.and_eq_true] at hok; exact hok.1.2
  have h1 : kj s = true := by simp only [Bool.and_eq_true] at hok; exact hok.1.1
  have h3 : cu e = true := by simp only [Bool.and_eq_true] at hok; exact hok.2
  have h5 := Qj l hl hv h2
  have w : WfW 6 [] l cs := ⟨hl, hv, WA l hl hv h2, by simp, hc⟩
  have hcu : usN [] l <= 5 := Nat.le_trans List.countP_le_length h5
  obtain ⟨-, b2, b3⟩ := aab hb hs 6 e [] l cs w
  obtain ⟨x1, x2, x3⟩ := b2 _ (Nat.le_refl _)
  have q := mwV hb hs h1 6 e [] l cs w h5 h3
  rw [hM]
  refine ⟨q.1, fun t ht => ?_, b3, fun h => by rw [h1, h3] at h; cases h⟩
  obtain ⟨g1, g2, g3, g4, g5, g6, g7, g8⟩ := q.2 t ht
  have y := x3 t ht
  simp only [List.length_nil] at y
  unfold QW at y
  exact Zp t g1 g2 g3 g4 g5 (by omega) g6 g7 g8
theorem eqRefl (xs : List (Ty.T y27)) (hb : xs.length <= 1048576) : d174 xs xs = true /\ IB xs xs = true := by
 have h := gp (s := tX) (mk := fun i => (xs, xs, false, (xs.length : Int), i, ())) (c := 1) (N := xs.length) (fun i hi => by
  simp [tX, s8, aA, hi, aX (n := i) (by omega)]) (by simp [tX, s8]) xs.length 0 (wV (xs, xs, false, (xs.length : Int), 0, ())) (by omega) (by simp only [wV]; omega)
 have h0 : ng xs xs false (xs.length : Int) 0 0 = false := aS h 0
 have h1 : ng xs xs false (xs.length : Int) 0 1 = true := aS h 1
 unfold d174 IB
 rw [h0, h1]
 simp
theorem Y9 (x : Ty.T ab) (hb : x.2.2.2.2.2.2.1.2.2.2.2.2.2.length <= 1048576) : d73 x x = true /\ v73 x x = true := by
 have h := eqRefl x.2.2.2.2.2.2.1.2.2.2.2.2.2 hb
 have ha : d179 x.2.2.2.2.2.2.1 x.2.2.2.2.2.2.1 = true /\ Sp x.2.2.2.2.2.2.1 x.2.2.2.2.2.2.1 = true := by
  unfold d179 Sp
  simp only [beq_self_eq_true, cond_true, h.1, h.2, and_self]
 unfold d73 v73 t73
 try simp only [nfs]
 simp only [beq_self_eq_true, Bool.and_true, cond_true, ha.1, ha.2, Option.isSome_some, Option.getD_some, and_self]
theorem W5 (xs : List (Ty.T ab)) (hb : xs.length <= 1048576) (hv : ∀ x ∈ xs, x.2.2.2.2.2.2.1.2.2.2.2.2.2.length <= 1048576) : d74 xs xs = true /\ v74 xs xs = true := by
 have h := gp (s := kV) (mk := fun i => (xs, false, xs, (xs.length : Int), i, ())) (c := 1) (N := xs.length) (fun i hi => by
  have r := Y9 xs[i] (hv _ (List.getElem_mem hi))
  simp [kV, kD, aA, hi, r.1, r.2, aX (n := i) (by omega)]) (by simp [kV, kD]) xs.length 0 (oF (xs, false, xs, (xs.length : Int), 0, ())) (by omega) (by simp only [oF]; omega)
 have h0 : gj xs false xs (xs.length : Int) 0 0 = false := aS h 0
 have h1 : gj xs false xs (xs.length : Int) 0 1 = true := aS h 1
 have h2 : qi xs xs = true /\ uc xs xs = true := by
  unfold qi uc
  rw [h0, h1]
  simp
 unfold d74 v74
 rw [h2.1, h2.2]
 exact ⟨rfl, rfl⟩
theorem T9 (xs : List (Ty.T y27)) (hb : xs.length <= 1048576) : d70 xs xs = true /\ v70 xs xs = true := by
 have h := gp (s := Bm) (mk := fun i => (xs, xs, false, i, ())) (c := 1) (N := xs.length) (fun i hi => by
  simp [Bm, Bt, aA, hi, aX (n := i) (by omega)]) (by simp [Bm, Bt]) xs.length 0 (H5 (xs, xs, false, 0, ())) (by omega) (by simp only [H5]; omega)
 have h0 : vW xs xs false 0 0 = false := aS h 0
 have h1 : vW xs xs false 0 1 = true := aS h 1
 unfold d70 v70
 rw [h0, h1]
 simp
theorem LR (xs : List (Ty.T (.int .i64))) (hb : xs.length <= 1048576) : d152 xs xs = true /\ CL xs xs = true := by
 have h := gp (s := vd) (mk := fun i => (xs, xs, false, i, ())) (c := 1) (N := xs.length) (fun i hi => by
  simp [vd, uW, aA, hi, aX (n := i) (by omega)]) (by simp [vd, uW]) xs.length 0 (xL (xs, xs, false, 0, ())) (by omega) (by simp only [xL]; omega)
 have h0 : nJ xs xs false 0 0 = false := aS h 0
 have h1 : nJ xs xs false 0 1 = true := aS h 1
 unfold d152 CL
 rw [h0, h1]
 simp
theorem UN (t : Ty.T y66) (hb : t.2.2.2.2.2.1.length <= 1048576) : d153 t t = true /\ UA t t = true := by
 have h := eqRefl t.2.2.2.2.2.1 hb
 unfold d153 UA t153
 try simp only [nfs]
 simp only [beq_self_eq_true, Bool.and_true, cond_true, h.1, h.2, Option.isSome_some, Option.getD_some, and_self]
theorem UZ (f : List (Ty.T y27) × List (Ty.T ab) × List (Ty.T (.int .i64)) × List (Ty.T y66)) (h1 : f.1.length <= 1048576) (h2 : f.2.1.length <= 1048576) (h3 : ∀ x ∈ f.2.1, x.2.2.2.2.2.2.1.2.2.2.2.2.2.length <= 1048576) (h4 : f.2.2.1.length <= 1048576) (h5 : f.2.2.2.length <= 1048576) (h6 : ∀ t ∈ f.2.2.2, t.2.2.2.2.2.1.length <= 1048576) : d51 f f = true /\ v51 f f = true := by
 have a1 := T9 f.1 h1
 have a2 := W5 f.2.1 h2 h3
 have a3 := LR f.2.2.1 h4
 have h := gp (s := Bh) (mk := fun i => (false, i, f, f, ())) (c := 1) (N := f.2.2.2.length) (fun i hi => by
  have r := UN f.2.2.2[i] (h6 _ (List.getElem_mem hi))
  simp [Bh, AH, aA, hi, r.1, r.2, aX (n := i) (by omega)]) (by simp [Bh, AH]) f.2.2.2.length 0 (Fp (false, 0, f, f, ())) (by omega) (by simp only [Fp]; omega)
 have e0 : vG false 0 f f 0 = false := aS h 0
 have e1 : vG false 0 f f 1 = true := aS h 1
 unfold d51 v51
 rw [a1.1, a1.2, a2.1, a2.2, a3.1, a3.2, e0, e1]
 simp
def cur (c : Ty.T af) : Prop := (0 : Int) <= id (α := Int) c.2.1 /\ id (α := Int) c.2.1 <= (c.1.length : Int) /\ (c.1.length : Int) <= 1099511627776
theorem P9 (x : Int) : 0 <= IntKind.wrap .i64 ((BitVec.ofInt (IntKind.bits .i64) x &&& BitVec.ofInt (IntKind.bits .i64) (255 : Int)).toNat : Int) /\ IntKind.wrap .i64 ((BitVec.ofInt (IntKind.bits .i64) x &&& BitVec.ofInt (IntKind.bits .i64) (255 : Int)).toNat : Int) <= 255 := by
 have h : (BitVec.ofInt (IntKind.bits .i64) x &&& BitVec.ofInt (IntKind.bits .i64) (255 : Int)).toNat <= 255 := by
  rw [BitVec.toNat_and]
  exact Nat.le_trans Nat.and_le_right (by decide)
 rw [bR (by omega) (by omega)]
 omega
theorem acn (b : List Int) (i k : Int) (h1 : 0 <= i) (h2 : i <= (b.length : Int)) (h3 : (b.length : Int) <= 1099511627776) : oP (b, i, k) = true /\ (0 <= (c8 (b, i, k)).1 /\ (c8 (b, i, k)).1 <= 255) /\ cur (c8 (b, i, k)).2 := by
 unfold oP c8 qf
 try simp only [nfs]
 try unfold qf
 dsimp only [Ty.T]
 by_cases hl : i < (b.length : Int)
 ·have hi : i.toNat < b.length := by omega
  simp only [hl, decide_true, cond_true, h1, Bool.true_and, pB, rV, bt, if_true, Option.isSome_some, Option.getD_some, List.getElem?_eq_getElem hi]
  refine ⟨by trivial, P9 _, ?_⟩
  show (0 : Int) <= IntKind.wrap .i64 (i + 1) /\ IntKind.wrap .i64 (i + 1) <= (b.length : Int) /\ (b.length : Int) <= 1099511627776
  rw [bR (by omega) (by omega)]
  omega
 ·simp only [hl, decide_false, cond_false, Option.isSome_some, Option.getD_some]
  exact ⟨by trivial, P9 _, h1, h2, h3⟩
theorem byte (c : Ty.T af) (h : cur c) : oP c = true /\ (0 <= (c8 c).1 /\ (c8 c).1 <= 255) /\ cur (c8 c).2 := acn c.1 c.2.1 c.2.2 h.1 h.2.1 h.2.2
theorem below (n : Int) (c : Ty.T af) (h : cur c) : bB n c = true /\ (0 < n -> 0 <= (aa n c).1 /\ (aa n c).1 < n) /\ cur (aa n c).2 := by
 have b1 := byte c h
 have b2 := byte _ b1.2.2
 have b3 := byte _ b2.2.2
 unfold bB aa nH
 try simp only [nfs]
 try unfold nH
 by_cases h0 : n <= 0
 ·simp only [h0, decide_true, cond_true, Option.isSome_some, Option.getD_some]
  exact ⟨by trivial, fun h => by omega, h⟩
 ·have hn : ¬ n = 0 := by omega
  simp only [h0, decide_false, cond_false, b1.1, b2.1, b3.1, cond_true, hn, Bool.not_false, Bool.and_true, if_false]
  by_cases h1 : n <= 256
  ·simp only [h1, decide_true, cond_true, Option.isSome_some, Option.getD_some]
   exact ⟨by trivial, fun _ => ⟨Int.tmod_nonneg _ b1.2.1.1, Int.tmod_lt_of_pos _ (by omega)⟩, b1.2.2⟩
  ·simp only [h1, decide_false, cond_false, Option.isSome_some, Option.getD_some]
   refine ⟨by trivial, fun _ => ⟨Int.tmod_nonneg _ ?_, Int.tmod_lt_of_pos _ (by omega)⟩, b3.2.2⟩
   obtain ⟨_, ⟨p1, p2⟩, _⟩ := b1
   obtain ⟨_, ⟨q1, q2⟩, _⟩ := b2
   obtain ⟨_, ⟨r1, r2⟩, _⟩ := b3
   rw [bR (n := (c8 c).1 * 65536) (by omega) (by omega), bR (n := (c8 (c8 c).2).1 * 256) (by omega) (by omega), bR (n := (c8 c).1 * 65536 + _) (by omega) (by omega), bR (by omega) (by omega)]
   omega
theorem oneOf (l : List Int) (c : Ty.T af) (hl : l ≠ []) (h : cur c) : aV l c = true /\ (ai l c).1 ∈ l /\ cur (ai l c).2 := by
 have hp : 0 < l.length := List.length_pos_iff.2 hl
 obtain ⟨b1, b2, b3⟩ := below (l.length : Int) c h
 have b2 := b2 (by omega)
 unfold aV ai
 have hi : ((aa (l.length : Int) c).1).toNat < l.length := by omega
 have h0 := b2.1
 simp only [b1, cond_true, h0, decide_true, Bool.true_and, pB, rV]
 simp only [List.getElem?_eq_getElem hi]
 exact ⟨trivial, List.getElem_mem hi, b3⟩
theorem once (n : Int) (c : Ty.T af) (h : cur c) : dm n c = true /\ cur (ay n c).2 := by
 have b := below n c h
 unfold dm ay
 simp only [b.1, cond_true]
 exact ⟨trivial, b.2.2⟩
theorem UT (b : List Int) (hh i : Int) (h0 : 0 <= i) (hb : i <= 1099511627776) : (i < (b.length : Int) /\ ∃ h' : Int, qJ (b, hh, i, ()) = some (0, (b, h', i + 1, ()))) ∨ qJ (b, hh, i, ()) = some (1, (b, hh, i, ())) := by
 unfold qJ yC
 dsimp only [Ty.T]
 by_cases hl : i < (b.length : Int)
 ·by_cases h4 : i < 4000
  ·have hi : i.toNat < b.length := by omega
   have e : IntKind.wrap .i64 (i + 1) = i + 1 := bR (by omega) (by omega)
   refine .inl ⟨hl, ?w, ?h⟩
   case h =>
    simp only [hl, h4, decide_true, cond_true, h0, if_true, bt, List.getElem?_eq_getElem hi, e]
    rfl
  ·right
   simp only [hl, h4, decide_true, decide_false, cond_true, cond_false]
 ·right
  simp only [hl, decide_false, cond_false]
theorem aha (b : List Int) (hb : (b.length : Int) <= 1099511627776) : d116 b = true /\ cur (dW b) := by
 have h : ∀ x : Int, _ := fun x => sA (s := qJ) (Q := fun v => v.1 = b) (fun k v => ∃ hh i : Int, v = (b, hh, i, ()) /\ 0 <= i /\ i + k = b.length) (fun k v hv => by
  obtain ⟨hh, i, rfl, h0, hk⟩ := hv
  rcases UT b hh i h0 (by omega) with ⟨hl, h', h1⟩ | h1
  ·exact .inr ⟨k - 1, _, by omega, h1, h', i + 1, rfl, by omega, by omega⟩
  ·exact .inl ⟨_, h1, rfl⟩) b.length (b, x, (0 : Int), ()) (yZ (b, x, (0 : Int), ())) ⟨x, 0, rfl, by omega, by omega⟩ (by simp only [yZ]; omega)
 unfold d116 dW
 obtain ⟨v', h1, h2⟩ := h (IntKind.wrap .i64 ((139871 : Int) + (b.length : Int)))
 have e1 : C9 b (IntKind.wrap .i64 ((139871 : Int) + (b.length : Int))) 0 0 = true := aS h1 0
 have e2 : yS b (IntKind.wrap .i64 ((139871 : Int) + (b.length : Int))) 0 = v' := bp h1
 simp only [e1, e2, cond_true]
 refine ⟨trivial, ?_⟩
 rw [h2]
 exact ⟨Int.le_refl _, Int.natCast_nonneg _, hb⟩
theorem bL {n : Int} {c : Ty.T af} (h : cur c) : bB n c = true := (below n c h).1
theorem bn {n : Int} {c : Ty.T af} (h : cur c) : cur (aa n c).2 := (below n c h).2.2
theorem dJ {n : Int} {c : Ty.T af} (h : cur c) : dm n c = true := (once n c h).1
theorem cP {n : Int} {c : Ty.T af} (h : cur c) : cur (ay n c).2 := (once n c h).2
theorem cF {l : List (Ty.T (.int .i64))} {c : Ty.T af} (hl : l ≠ []) (h : cur c) : aV l c = true := (oneOf l c hl h).1
theorem bM {l : List (Ty.T (.int .i64))} {c : Ty.T af} (hl : l ≠ []) (h : cur c) : cur (ai l c).2 := (oneOf l c hl h).2.2
theorem Lw {n : Int} {c : Ty.T af} {p q : Ty.T y63} {l : List Int} (h : cur c) (hn : n = l.length) (hb : l.length <= 1000) : xi n 0 c p q l 0 = true /\ cur (xb n 0 c p q l).2.2.1 := by
 have := jO (s := oG) (Q := fun v => cur v.2.2.1) (fun k v => ∃ (i : Int) (c : Ty.T af) (q : Ty.T y63), v = (n, i, c, p, q, l, ()) /\ cur c /\ 0 <= i /\ i + k = n) (fun k v hv => by
  obtain ⟨i, c, q, rfl, h1, h3, h4⟩ := hv
  unfold oG mO
  dsimp only
  simp (maxDischargeDepth := 99) only [zzb, reduceCtorEq, Nat.reduceAdd, Nat.reduceLeDiff, Int.cast_ofNat_Int, ba, aL, a9, aM, bc, bf, dJ, cP, h1]
  intro hl
  have hl : i < n := of_decide_eq_true hl
  obtain ⟨b, hb1, _⟩ := Is (l := l) h3 (by omega)
  have e : IntKind.wrap .i64 (i + 1) = i + 1 := bR (by omega) (by omega)
  have hl2 : i < (l.length : Int) := by omega
  refine ⟨h3, hl2, b, hb1, k - 1, by omega, i + 1, _, _, by rw [e], cP h1, by omega, by omega⟩) l.length (n, 0, c, p, q, l, ()) (nV (n, 0, c, p, q, l, ())) ⟨0, c, q, rfl, h, by omega, by omega⟩ (by simp only [nV]; omega)
 exact ⟨this.1.1, this.2⟩
theorem Lb {c : Ty.T af} {p q : Ty.T y63} {l : List (Ty.T (.int .i64))} (hl : (6 : Int) = l.length) (h : cur c) : xi 6 0 c p q l 0 = true := (Lw (l := l) h hl (by omega)).1
theorem KL {c : Ty.T af} {p q : Ty.T y63} {l : List (Ty.T (.int .i64))} (hl : (6 : Int) = l.length) (h : cur c) : cur (xb 6 0 c p q l).2.2.1 := (Lw (l := l) h hl (by omega)).2
theorem vw {a1 : Ty.T af} (h0 : cur a1) : cur (fA a1).2 := by
 unfold fA
 simp (maxDischargeDepth := 99) only [zzb, reduceCtorEq, Nat.reduceAdd, Nat.reduceLeDiff, Int.cast_ofNat_Int, bL, bn, cF, bM, h0]
theorem vT {a0 : Int} {a1 : Ty.T af} (h0 : cur a1) : cur (dF a0 a1).2.2.1 := by
 unfold dF
 simp (maxDischargeDepth := 99) only [zzb, reduceCtorEq, Nat.reduceAdd, Nat.reduceLeDiff, Int.cast_ofNat_Int, Lb, KL, bL, bn, vw, cF, bM, h0]
theorem H8 {a0 : Int} {a1 : Ty.T af} (h0 : cur a1) : cur (gA a0 a1).2 := by
 unfold gA
 simp (maxDischargeDepth := 99) only [zzb, reduceCtorEq, Nat.reduceAdd, Nat.reduceLeDiff, Int.cast_ofNat_Int, cF, bM, dJ, cP, vT, h0]
theorem LB {a0 : Int} {a1 : Ty.T af} (h0 : cur a1) : Sat (oC a0 a1 some) (fun r => cur r.2) := by
 unfold oC
 simp (maxDischargeDepth := 99) only [zzb, reduceCtorEq, Nat.reduceAdd, Nat.reduceLeDiff, Int.cast_ofNat_Int, ba, aL, a9, aM, bc, bf, bL, bn, cF, bM, vw, Lb, KL, vT, dJ, cP, H8, h0]
theorem Ju {a0 : Int} {a1 : Ty.T af} (h0 : cur a1) : zC a0 a1 = true := (LB h0).d
theorem sW {a0 : Int} {a1 : Ty.T af} (h0 : cur a1) : cur (dh a0 a1).2 := (LB h0).v
theorem Na {i j : Int} {b : Bool} {c : Ty.T af} {s : Ty.T y36} {q : Ty.T (.pair (.int .i64) (.int .i64))} {ps : List (Ty.T y63)} {ss : List (Ty.T bS)} (h : cur c) (h0 : 0 <= i) (h1 : i < (ss.length : Int)) : Sat (iJ (i, j, b, c, s, q, ps, ss, ()) some) fun r => r.length = ss.length := by
 unfold iJ
 dsimp only
 obtain ⟨x, hx, _⟩ := Is (l := ss) h0 h1
 simp (maxDischargeDepth := 99) only [zzb, reduceCtorEq, Nat.reduceAdd, Nat.reduceLeDiff, Int.cast_ofNat_Int, ba, aL, a9, aM, bc, bf, cF, bM, h]
 exact ⟨h0, h1, x, hx, List.length_set⟩
theorem MQ {i j i2 k : Int} {b : Bool} {li : List Int} {c : Ty.T af} {s : Ty.T y36} {q : Ty.T (.pair (.int .i64) (.int .i64))} {ps : List (Ty.T y63)} {ss : List (Ty.T bS)} (h : cur c) (h0 : 0 <= i) (h1 : i < (ss.length : Int)) : Sat (jF (i, j, b, i2, li, k, c, s, q, ps, ss, ()) some) fun r => r.length = ss.length := by
 unfold jF
 dsimp only
 obtain ⟨x, hx, _⟩ := Is (l := ss) h0 h1
 simp (maxDischargeDepth := 99) only [zzb, reduceCtorEq, Nat.reduceAdd, Nat.reduceLeDiff, Int.cast_ofNat_Int, ba, aL, a9, aM, bc, bf, cF, bM, h]
 exact ⟨h0, h1, x, hx, List.length_set⟩
theorem Ti {c : Ty.T af} {s : Ty.T y36} {q : Ty.T (.pair (.int .i64) (.int .i64))} {ps : List (Ty.T y63)} {ss : List (Ty.T bS)} (hs : ss.length = 2) (h : cur c) : Fv 0 c s q ps ss 0 = true /\ ∃ c' ss', cur c' /\ List.length ss' = 2 /\ GZ 0 c s q ps ss = ((2 : Int), c', s, q, ps, ss', ()) := by
 have := jO (s := nK) (Q := fun v => ∃ c' ss', cur c' /\ List.length ss' = 2 /\ v = ((2 : Int), c', s, q, ps, ss', ())) (fun k v => ∃ (i : Int) (c : Ty.T af) (ss : List (Ty.T bS)), v = (i, c, s, q, ps, ss, ()) /\ cur c /\ ss.length = 2 /\ 0 <= i /\ i + k = 2) (fun k v hv => by
  obtain ⟨i, c, ss, rfl, h1, h2, h3, h4⟩ := hv
  unfold nK nO
  dsimp only
  rw [m8]
  refine ⟨fun hl => ?_, fun hl => ?_⟩
  ·have hl : i < 2 := of_decide_eq_true hl
   have e : IntKind.wrap .i64 (i + 1) = i + 1 := bR (by omega) (by omega)
   have s1 := Na (i := i) (j := i) (b := decide (i < 2)) (c := c) (s := s) (q := q) (ps := ps) (ss := ss) h1 h3 (by omega)
   have l1 : (kZ (i, i, decide (i < 2), c, s, q, ps, ss, ())).length = 2 := (s1.v (z := [])).trans h2
   have s2 := MQ (i := i) (j := i) (i2 := i) (k := (ai [20, 20, 3, 1, 10] c).1) (b := decide (i < 2)) (li := [20, 20, 3, 1, 10]) (c := (ai [20, 20, 3, 1, 10] c).2) (s := s) (q := q) (ps := ps) (ss := kZ (i, i, decide (i < 2), c, s, q, ps, ss, ())) (bM (by simp) h1) h3 (by omega)
   have g1 : xA (i, i, decide (i < 2), c, s, q, ps, ss, ()) = true := s1.d
   have g2 : wZ (i, i, decide (i < 2), i, [20, 20, 3, 1, 10], (ai [20, 20, 3, 1, 10] c).1, (ai [20, 20, 3, 1, 10] c).2, s, q, ps, kZ (i, i, decide (i < 2), c, s, q, ps, ss, ()), ()) = true := s2.d
   rw [g1, g2, cond_true, cond_true, aZ]
   refine .inr ⟨rfl, k - 1, by omega, i + 1, _, _, by rw [e] <;> rfl, bM (l := [0, 0, 8, 1]) (by simp) (bM (l := [20, 20, 3, 1, 10]) (by simp) h1), (s2.v (z := [])).trans l1, by omega, by omega⟩
  ·have hl : ¬ i < 2 := of_decide_eq_false hl
   have : i = 2 := by omega
   subst this
   rw [aZ]
   exact .inl ⟨rfl, c, ss, h1, h2, rfl⟩) 2 ((0 : Int), c, s, q, ps, ss, ()) (oH ((0 : Int), c, s, q, ps, ss, ())) ⟨0, c, ss, rfl, h, hs, by omega, by omega⟩ (by simp only [oH]; omega)
 exact ⟨this.1.1, this.2⟩
theorem U5 {id n : Int} {c : Ty.T af} {s : Ty.T y36} {q : Ty.T (.pair (.int .i64) (.int .i64))} {ps : List (Ty.T y63)} {ss : List (Ty.T bS)} (h0 : 0 <= n) (hp : (ps.length : Int) + n <= 1000) (h : cur c) :
  GU id n c s q ps ss 0 = true /\ ∃ (id' : Int) (c' : Ty.T af) (ps' : List (Ty.T y63)), cur c' /\ (ps'.length : Int) = ps.length + n /\ GA id n c s q ps ss = (id', (0 : Int), c', s, q, ps', ss, ()) := by
 have := jO (s := nb) (Q := fun v => ∃ (id' : Int) (c' : Ty.T af) (ps' : List (Ty.T y63)), cur c' /\ (ps'.length : Int) = ps.length + n /\ v = (id', (0 : Int), c', s, q, ps', ss, ()))
  (fun k v => ∃ (id m : Int) (c : Ty.T af) (qs : List (Ty.T y63)), v = (id, m, c, s, q, qs, ss, ()) /\ cur c /\ m = k /\ (qs.length : Int) + m = ps.length + n) (fun k v hv => by
  obtain ⟨id, m, c, qs, rfl, hc, hk, hq⟩ := hv
  unfold nb n7
  dsimp only
  rw [m8]
  refine ⟨fun hl => ?_, fun hl => ?_⟩
  ·have hl : m > 0 := of_decide_eq_true hl
   have e : IntKind.wrap .i64 (m - 1) = m - 1 := bR (by omega) (by omega)
   have hz : ∀ p : Ty.T y63, (qs ++ [p]).length * 96 <= 140737488351232 := fun p => by simp only [List.length_append, List.length_cons, List.length_nil]; omega
   rw [bL hc, Ju (bn hc), cond_true, cond_true, if_pos (hz _), aZ]
   exact .inr ⟨rfl, k - 1, by omega, _, m - 1, _, _, by rw [e], sW (bn hc), by omega, by simp only [List.length_append, List.length_cons, List.length_nil]; omega⟩
  ·have hl : ¬ m > 0 := of_decide_eq_false hl
   have : m = 0 := by omega
   subst this
   rw [aZ]
   exact .inl ⟨rfl, id, c, qs, hc, by omega, rfl⟩) n.toNat (id, n, c, s, q, ps, ss, ()) (nA (id, n, c, s, q, ps, ss, ())) ⟨id, n, c, ps, rfl, h, by omega, rfl⟩ (by simp only [nA]; omega)
 exact ⟨this.1.1, this.2⟩
theorem wD {a0 : Ty.T af} (h : cur a0) : Sat (mH a0 some) fun r => cur r.2.1 /\ 1 <= r.2.2.1.length /\ r.2.2.1.length <= 6 /\ r.2.2.2.length = 2 := by
 have d0 : d215 2 = true := rfl
 obtain ⟨k1, c1, ss1, hc1, hs1, w1⟩ := Ti (c := (aa 2 (aa 3 a0).2).2) (s := ([], [], 0, 0)) (q := ((aa 2 (aa 3 a0).2).1, IntKind.wrap .i64 ((2 : Int) + (aa 3 a0).1))) (ps := (DM 2).2.1) (ss := (DM 2).2.2) rfl (bn (bn h))
 have hb := (below 5 c1 hc1).2.1 (by omega)
 have e : IntKind.wrap .i64 ((1 : Int) + (aa 5 c1).1) = 1 + (aa 5 c1).1 := bR (by omega) (by omega)
 obtain ⟨k2, i2, c2, ps2, hc2, hl2, w2⟩ := U5 (id := 0) (n := 1 + (aa 5 c1).1) (c := (aa 5 c1).2) (s := ([], [], 0, 0)) (q := ((aa 2 (aa 3 a0).2).1, IntKind.wrap .i64 ((2 : Int) + (aa 3 a0).1))) (ps := (DM 2).2.1) (ss := ss1) (by omega) (by show ((([] : List (Ty.T y63)).length : Int)) + _ <= 1000; simp; omega) (bn hc1)
 have hl2 : (ps2.length : Int) = 1 + (aa 5 c1).1 := by rw [hl2]; show (0 : Int) + _ = _; omega
 unfold mH
 have e0 : dE a0 = _ := w1
 have e1 : lx a0 = (i2, (0 : Int), c2, ([], [], 0, 0), ((aa 2 (aa 3 a0).2).1, IntKind.wrap .i64 ((2 : Int) + (aa 3 a0).1)), ps2, ss1, ()) := by unfold lx; rw [e0]; dsimp only; rw [e]; exact w2
 rw [d0, bL h, bL (bn h), k1, e1, e0]
 dsimp only
 rw [e, bL hc1, k2]
 simp only [cond_true, aZ]
 exact ⟨hc2, by omega, by omega, hs1⟩
theorem YE {a0 : Ty.T af} (h : cur a0) : yX a0 = true := (wD h).d
theorem Ms {k : Int} {c : Ty.T af} {s : Ty.T y36} (h : cur c) (hl : 0 < s.1.length) : Sat (jf (k, c, s, ()) some) fun _ => True := by
 have b := (below (s.1.length : Int) c h).2.1 (by omega)
 obtain ⟨x, hx, _⟩ := Is (l := s.1) b.1 b.2
 unfold jf
 simp (maxDischargeDepth := 99) only [zzb, reduceCtorEq, Nat.reduceAdd, Nat.reduceLeDiff, Int.cast_ofNat_Int, ba, aL, a9, aM, bc, bf, bL, bn, dJ, cP, h]
 exact ⟨b.1, x, hx⟩
theorem K5 {a0 : Ty.T y36} {a1 : Ty.T af} (h : cur a1) : Sat (ns a0 a1 some) fun r => cur r.2 := by
 unfold ns
 rw [m8]
 refine ⟨fun _ => ?_, fun h0 => ?_⟩
 ·simp (maxDischargeDepth := 99) only [zzb, reduceCtorEq, Nat.reduceAdd, Nat.reduceLeDiff, Int.cast_ofNat_Int, ba, aL, a9, aM, bc, bf, bL, bn, dJ, cP, h]
 ·have hp : 0 < a0.1.length := by simp at h0; exact List.length_pos_iff.2 h0
  have g : yB (0, (ay 8 a1).2, a0, ()) = true := (Ms (cP h) hp).d
  simp (maxDischargeDepth := 99) only [zzb, reduceCtorEq, Nat.reduceAdd, Nat.reduceLeDiff, Int.cast_ofNat_Int, ba, aL, a9, aM, bc, bf, bL, bn, dJ, cP, h, g]
theorem tE {a0 : Ty.T y36} {a1 : Ty.T af} (h : cur a1) : iA a0 a1 = true := (K5 h).d
theorem im {a0 : Ty.T y36} {a1 : Ty.T af} (h : cur a1) : cur (bQ a0 a1).2 := (K5 h).v
theorem vz {a1 : Ty.T af} (h0 : cur a1) : cur (aY a1).2 := by
 unfold aY
 simp (maxDischargeDepth := 99) only [zzb, reduceCtorEq, Nat.reduceAdd, Nat.reduceLeDiff, Int.cast_ofNat_Int, cF, bM, h0]
theorem Ig {a0 : Ty.T y36} {a1 : Ty.T af} (h0 : cur a1) : cur (kW a0 a1).2 := by
 unfold kW
 simp (maxDischargeDepth := 99) only [zzb, reduceCtorEq, Nat.reduceAdd, Nat.reduceLeDiff, Int.cast_ofNat_Int, cF, bM, tE, im, vz, h0]
theorem KW {a0 : Ty.T y36} {a1 : Ty.T af} (h0 : cur a1) : Sat (mZ a0 a1 some) (fun r => cur r.2) := by
 unfold mZ
 simp (maxDischargeDepth := 99) only [zzb, reduceCtorEq, Nat.reduceAdd, Nat.reduceLeDiff, Int.cast_ofNat_Int, ba, aL, a9, aM, bc, bf, cF, bM, tE, im, vz, dJ, cP, bL, bn, Ig, h0]
theorem qU {a0 : Ty.T y36} {a1 : Ty.T af} (h0 : cur a1) : lU a0 a1 = true := (KW h0).d
theorem fQ {a0 : Ty.T y36} {a1 : Ty.T af} (h0 : cur a1) : cur (al a0 a1).2 := (KW h0).v
theorem B8 {v : dk} (h0 : cur v.2.1) : Sat (iT v some) (fun r => cur r.1) := by
 unfold iT
 simp (maxDischargeDepth := 99) only [zzb, reduceCtorEq, Nat.reduceAdd, Nat.reduceLeDiff, Int.cast_ofNat_Int, ba, aL, a9, aM, bc, bf, cF, bM, h0]
theorem HT {v : dk} (h0 : cur v.2.1) : zH v = true := (B8 h0).d
theorem vQ {v : dk} (h0 : cur v.2.1) : cur (yT v).1 := (B8 h0).v
theorem BZ {v : gC} (h0 : cur v.2.2.1) : Sat (gq v some) (fun r => cur r.1) := by
 unfold gq
 simp (maxDischargeDepth := 99) only [zzb, reduceCtorEq, Nat.reduceAdd, Nat.reduceLeDiff, Int.cast_ofNat_Int, ba, aL, a9, aM, bc, bf, dJ, cP, tE, im, cF, bM, h0]
theorem Fy {v : gC} (h0 : cur v.2.2.1) : zp v = true := (BZ h0).d
theorem vZ {v : gC} (h0 : cur v.2.2.1) : cur (Aa v).1 := (BZ h0).v
theorem BU {v : gG} (h0 : cur v.1) : Sat (jb v some) (fun r => cur r.2) := by
 unfold jb
 simp (maxDischargeDepth := 99) only [zzb, reduceCtorEq, Nat.reduceAdd, Nat.reduceLeDiff, Int.cast_ofNat_Int, ba, aL, a9, aM, bc, bf, dJ, cP, h0]
theorem FV {v : gG} (h0 : cur v.1) : yw v = true := (BU h0).d
theorem vY {v : gG} (h0 : cur v.1) : cur (xj v).2 := (BU h0).v
theorem At {v : dk} (h0 : cur v.2.1) : Sat (iG v some) (fun r => cur r.2) := by
 unfold iG
 simp (maxDischargeDepth := 99) only [zzb, reduceCtorEq, Nat.reduceAdd, Nat.reduceLeDiff, Int.cast_ofNat_Int, ba, aL, a9, aM, bc, bf, tE, im, h0]
theorem Ft {v : dk} (h0 : cur v.2.1) : zo v = true := (At h0).d
theorem v5 {v : dk} (h0 : cur v.2.1) : cur (y6 v).2 := (At h0).v
theorem vB {a1 : Ty.T af} (h0 : cur a1) : cur (fg a1).2 := by
 unfold fg
 simp (maxDischargeDepth := 99) only [zzb, reduceCtorEq, Nat.reduceAdd, Nat.reduceLeDiff, Int.cast_ofNat_Int, cF, bM, h0]
theorem vy {a0 : Ty.T y36} {a1 : Ty.T af} (h0 : cur a1) : cur (eB a0 a1).1 := by
 unfold eB
 simp (maxDischargeDepth := 99) only [zzb, reduceCtorEq, Nat.reduceAdd, Nat.reduceLeDiff, Int.cast_ofNat_Int, HT, vQ, dJ, cP, vB, cF, bM, h0]
theorem nj {a0 : Ty.T y36} {a1 : Ty.T af} (h0 : cur a1) : cur (gB a0 a1).1 := by
 unfold gB
 simp (maxDischargeDepth := 99) only [zzb, reduceCtorEq, Nat.reduceAdd, Nat.reduceLeDiff, Int.cast_ofNat_Int, Fy, vZ, vy, h0]
theorem vJ {a0 : Ty.T y36} {a1 : Ty.T af} (h0 : cur a1) : cur (kN a0 a1).2 := by
 unfold kN
 simp (maxDischargeDepth := 99) only [zzb, reduceCtorEq, Nat.reduceAdd, Nat.reduceLeDiff, Int.cast_ofNat_Int, FV, vY, nj, h0]
theorem GG {a0 : Ty.T y36} {a1 : Ty.T af} (h0 : cur a1) : cur (sk a0 a1).2 := by
 unfold sk
 simp (maxDischargeDepth := 99) only [zzb, reduceCtorEq, Nat.reduceAdd, Nat.reduceLeDiff, Int.cast_ofNat_Int, Ft, v5, vJ, nj, h0]
theorem KQ {a0 : Ty.T y36} {a1 : Ty.T af} (h0 : cur a1) : Sat (oy a0 a1 some) (fun r => cur r.2) := by
 unfold oy
 simp (maxDischargeDepth := 99) only [zzb, reduceCtorEq, Nat.reduceAdd, Nat.reduceLeDiff, Int.cast_ofNat_Int, ba, aL, a9, aM, bc, bf, cF, bM, dJ, cP, vB, HT, vQ, Fy, vZ, vy, FV, vY, nj, Ft, v5, vJ, GG, h0]
theorem qp {a0 : Ty.T y36} {a1 : Ty.T af} (h0 : cur a1) : DX a0 a1 = true := (KQ h0).d
theorem fJ {a0 : Ty.T y36} {a1 : Ty.T af} (h0 : cur a1) : cur (aH a0 a1).2 := (KQ h0).v
theorem Lo {a0 : Ty.T af} (h0 : cur a0) : Sat (oT a0 some) (fun r => cur r.2) := by
 unfold oT
 simp (maxDischargeDepth := 99) only [zzb, reduceCtorEq, Nat.reduceAdd, Nat.reduceLeDiff, Int.cast_ofNat_Int, ba, aL, a9, aM, bc, bf, dJ, cP, bL, bn, cF, bM, h0]
theorem qY {a0 : Ty.T af} (h0 : cur a0) : CT a0 = true := (Lo h0).d
theorem fO {a0 : Ty.T af} (h0 : cur a0) : cur (cI a0).2 := (Lo h0).v
theorem LC {a0 : Ty.T af} (h0 : cur a0) : Sat (qB a0 some) (fun r => cur r.2) := by
 unfold qB
 simp (maxDischargeDepth := 99) only [zzb, reduceCtorEq, Nat.reduceAdd, Nat.reduceLeDiff, Int.cast_ofNat_Int, ba, aL, a9, aM, bc, bf, cF, bM, h0]
theorem Xl {a0 : Ty.T af} (h0 : cur a0) : Il a0 = true := (LC h0).d
theorem My {a0 : Ty.T af} (h0 : cur a0) : cur (Cc a0).2 := (LC h0).v
theorem LI {a0 : Ty.T af} (h0 : cur a0) : Sat (rh a0 some) (fun r => cur r.2) := by
 unfold rh
 simp (maxDischargeDepth := 99) only [zzb, reduceCtorEq, Nat.reduceAdd, Nat.reduceLeDiff, Int.cast_ofNat_Int, ba, aL, a9, aM, bc, bf, dJ, cP, Xl, My, cF, bM, h0]
theorem qP {a0 : Ty.T af} (h0 : cur a0) : iX a0 = true := (LI h0).d
theorem fY {a0 : Ty.T af} (h0 : cur a0) : cur (dn a0).2 := (LI h0).v
theorem Le {a0 : Ty.T y36} {a1 : Ty.T af} (h0 : cur a1) : Sat (n9 a0 a1 some) (fun r => cur r.2) := by
 unfold n9
 simp (maxDischargeDepth := 99) only [zzb, reduceCtorEq, Nat.reduceAdd, Nat.reduceLeDiff, Int.cast_ofNat_Int, ba, aL, a9, aM, bc, bf, qp, fJ, bL, bn, cF, bM, qP, fY, h0]
theorem XX {a0 : Ty.T y36} {a1 : Ty.T af} (h0 : cur a1) : Jj a0 a1 = true := (Le h0).d
theorem Mb {a0 : Ty.T y36} {a1 : Ty.T af} (h0 : cur a1) : cur (DI a0 a1).2 := (Le h0).v
theorem LY {a0 : Ty.T af} (h0 : cur a0) : Sat (nB a0 some) (fun r => cur r.2) := by
 unfold nB
 simp (maxDischargeDepth := 99) only [zzb, reduceCtorEq, Nat.reduceAdd, Nat.reduceLeDiff, Int.cast_ofNat_Int, ba, aL, a9, aM, bc, bf, qY, fO, bL, bn, cF, bM, qP, fY, h0]
theorem W6 {a0 : Ty.T af} (h0 : cur a0) : KA a0 = true := (LY h0).d
theorem MU {a0 : Ty.T af} (h0 : cur a0) : cur (CW a0).2 := (LY h0).v
theorem Lc {a0 : Ty.T y36} {a1 : Ty.T af} (h0 : cur a1) : Sat (oz a0 a1 some) (fun r => cur r.2) := by
 unfold oz
 simp (maxDischargeDepth := 99) only [zzb, reduceCtorEq, Nat.reduceAdd, Nat.reduceLeDiff, Int.cast_ofNat_Int, ba, aL, a9, aM, bc, bf, qU, fQ, bL, bn, cF, bM, qP, fY, h0]
theorem KF {a0 : Ty.T y36} {a1 : Ty.T af} (h0 : cur a1) : CY a0 a1 = true := (Lc h0).d
theorem Bw {a0 : Ty.T y36} {a1 : Ty.T af} (h0 : cur a1) : cur (n6 a0 a1).2 := (Lc h0).v
theorem Au {v : gm} (h0 : cur v.2.2.1) : Sat (gb v some) (fun r => cur r.2) := by
 unfold gb
 simp (maxDischargeDepth := 99) only [zzb, reduceCtorEq, Nat.reduceAdd, Nat.reduceLeDiff, Int.cast_ofNat_Int, ba, aL, a9, aM, bc, bf, cF, bM, qP, fY, h0]
theorem PD {v : gm} (h0 : cur v.2.2.1) : zz v = true := (Au h0).d
theorem G2 {v : gm} (h0 : cur v.2.2.1) : cur (rv v).2 := (Au h0).v
theorem LA {a0 : Ty.T af} (h0 : cur a0) : Sat (ql a0 some) (fun r => cur r.2) := by
 unfold ql
 simp (maxDischargeDepth := 99) only [zzb, reduceCtorEq, Nat.reduceAdd, Nat.reduceLeDiff, Int.cast_ofNat_Int, ba, aL, a9, aM, bc, bf, bL, bn, Ju, sW, PD, G2, h0]
theorem R7 {a0 : Ty.T af} (h0 : cur a0) : Cq a0 = true := (LA h0).d
theorem Bk {a0 : Ty.T af} (h0 : cur a0) : cur (iO a0).2 := (LA h0).v
theorem Dz {n : Int} {c : Ty.T af} {s : Ty.T y36} {y : Ty.T bm} {q : Ty.T q2} {l : List (Ty.T y27)} (h : cur c) : xx n 0 c s y q l 0 = true /\ cur (ou n 0 c s y q l).2.2.1 /\ (ou n 0 c s y q l).2.2.2.2.2.2.1 = l := by
 have := jO (s := nN) (Q := fun v => cur v.2.2.1 /\ v.2.2.2.2.2.2.1 = l) (fun k v => ∃ (i : Int) (c : Ty.T af) (q : Ty.T q2), v = (n, i, c, s, y, q, l, ()) /\ cur c /\ 0 <= i /\ i + k = 6) (fun k v hv => by
  obtain ⟨i, c, q, rfl, h1, h3, h4⟩ := hv
  unfold nN nW
  dsimp only
  have e : IntKind.wrap .i64 (i + 1) = i + 1 := bR (by omega) (by omega)
  rw [m8, bL h1, cond_true, aZ, aZ]
  refine ⟨fun hl => ?_, fun _ => .inl ⟨rfl, h1, rfl⟩⟩
  have hi : i < 6 := by
   by_cases hi : i < 6
   ·exact hi
   ·unfold xD m7 at hl
    dsimp only at hl
    rw [show decide (i < (6 : Int)) = false from decide_eq_false hi] at hl
    cases hl
  exact .inr ⟨rfl, k - 1, by omega, i + 1, _, _, by rw [e] <;> rfl, bn h1, by omega, by omega⟩) 6 (n, 0, c, s, y, q, l, ()) (nr (n, 0, c, s, y, q, l, ())) ⟨0, c, q, rfl, h, by omega, by omega⟩ (by simp only [nr]; omega)
 exact ⟨this.1.1, this.2⟩
theorem Dc {n : Int} {c : Ty.T af} {s : Ty.T y36} {y : Ty.T bm} {q : Ty.T q2} {l : List (Ty.T y27)} (h : cur c) : xx n 0 c s y q l 0 = true := (Dz h).1
theorem CG {n : Int} {c : Ty.T af} {s : Ty.T y36} {y : Ty.T bm} {q : Ty.T q2} {l : List (Ty.T y27)} (h : cur c) : cur (ou n 0 c s y q l).2.2.1 := (Dz h).2.1
theorem wx {n : Int} {c : Ty.T af} {s : Ty.T y36} {y : Ty.T bm} {q : Ty.T q2} {l : List (Ty.T y27)} (h : cur c) : (ou n 0 c s y q l).2.2.2.2.2.2.1 = l := (Dz h).2.2
theorem Ax {v : dR} (h0 : cur v.2.1) : Sat (jj v some) (fun r => cur r.2) := by
 unfold jj
 simp (maxDischargeDepth := 99) only [zzb, reduceCtorEq, Nat.reduceAdd, Nat.reduceLeDiff, Int.cast_ofNat_Int, ba, aL, a9, aM, bc, bf, bL, bn, tE, im, h0]
theorem HY {v : dR} (h0 : cur v.2.1) : xN v = true := (Ax h0).d
theorem vR {v : dR} (h0 : cur v.2.1) : cur (zn v).2 := (Ax h0).v
theorem Bf {v : gD} (h0 : cur v.2.2.2.2.2.1) : Sat (ji v some) (fun r => cur r.2.2) := by
 unfold ji
 simp (maxDischargeDepth := 99) only [zzb, reduceCtorEq, Nat.reduceAdd, Nat.reduceLeDiff, Int.cast_ofNat_Int, ba, aL, a9, aM, bc, bf, dJ, cP, h0]
theorem Fb {v : gD} (h0 : cur v.2.2.2.2.2.1) : zU v = true := (Bf h0).d
theorem v9 {v : gD} (h0 : cur v.2.2.2.2.2.1) : cur (fh v).2.2 := (Bf h0).v
theorem Ci {n : Int} {c : Ty.T af} {s : Ty.T y36} {y : Ty.T bm} {q : Ty.T q2} {l : List (Ty.T y27)} (h0 : 0 <= n) (hn : n <= 2) (hl : l = []) (h : cur c) : zY n c s y q l 0 = true /\ cur (oq n c s y q l).2.1 /\ List.length (oq n c s y q l).2.2.2.2.2.1 <= 2 := by
 have := jO (s := nT) (Q := fun v => cur v.2.1 /\ List.length v.2.2.2.2.2.1 <= 2) (fun k v => ∃ (i : Int) (c : Ty.T af) (l : List (Ty.T y27)), v = (i, c, s, y, q, l, ()) /\ cur c /\ i = k /\ (l.length : Int) + i <= 2) (fun k v hv => by
  obtain ⟨i, c, l, rfl, h1, h3, h4⟩ := hv
  have e : 0 <= i -> IntKind.wrap .i64 (i - 1) = i - 1 := fun _ => bR (by omega) (by omega)
  have hz : ∀ x, (l ++ [x]).length * 56 <= 140737488351232 := fun x => by simp only [List.length_append, List.length_cons, List.length_nil]; omega
  unfold nT mW
  dsimp only
  simp (maxDischargeDepth := 99) only [zzb, reduceCtorEq, Nat.reduceAdd, Nat.reduceLeDiff, Int.cast_ofNat_Int, ba, aL, a9, aM, bc, bf, qU, fQ, Fb, v9, h1, hz, if_true]
  refine ⟨fun hl => ?_, fun _ => by omega⟩
  have hl : i > 0 := of_decide_eq_true hl
  refine ⟨k - 1, by omega, i - 1, _, _, by rw [e (by omega)] <;> rfl, ?_, by omega, by simp only [List.length_append, List.length_cons, List.length_nil]; omega⟩
  simp (maxDischargeDepth := 99) only [zzb, reduceCtorEq, Nat.reduceAdd, Nat.reduceLeDiff, Int.cast_ofNat_Int, ba, aL, a9, aM, bc, bf, qU, fQ, Fb, v9, h1]) n.toNat (n, c, s, y, q, l, ()) (m5 (n, c, s, y, q, l, ())) ⟨n, c, l, rfl, h, by omega, by subst hl; show (0 : Int) + n <= 2; omega⟩ (by simp only [m5]; omega)
 exact ⟨this.1.1, this.2⟩
theorem wbA {c : Ty.T af} (h : cur c) : 0 <= IntKind.wrap .i64 ((1 : Int) + (aa 2 c).1) := by
 have := (below 2 c h).2.1 (by omega)
 rw [bR (by omega) (by omega)]
 omega
theorem wbB {c : Ty.T af} (h : cur c) : IntKind.wrap .i64 ((1 : Int) + (aa 2 c).1) <= 2 := by
 have := (below 2 c h).2.1 (by omega)
 rw [bR (by omega) (by omega)]
 omega
theorem Cb {n : Int} {c : Ty.T af} {s : Ty.T y36} {y : Ty.T bm} {q : Ty.T q2} {l : List (Ty.T y27)} (h0 : 0 <= n) (hn : n <= 2) (hl : l = []) (h : cur c) : zY n c s y q l 0 = true := (Ci h0 hn hl h).1
theorem Dr {n : Int} {c : Ty.T af} {s : Ty.T y36} {y : Ty.T bm} {q : Ty.T q2} {l : List (Ty.T y27)} (h0 : 0 <= n) (hn : n <= 2) (hl : l = []) (h : cur c) : cur (oq n c s y q l).2.1 := (Ci h0 hn hl h).2.1
theorem Ca {n : Int} {c : Ty.T af} {s : Ty.T y36} {y : Ty.T bm} {q : Ty.T q2} {l : List (Ty.T y27)} (h0 : 0 <= n) (hn : n <= 2) (hl : l = []) (h : cur c) : Ty.few 2 (.sl 41 y27) (oq n c s y q l).2.2.2.2.2.1 := TX rfl (Nat.le_trans (Ci h0 hn hl h).2.2 (by decide))
theorem jW {a0 : Ty.T y36} {a1 : Int} {a2 : Ty.T af} (h0 : cur a2) : cur (aG a0 a1 a2).2.2.1 := by
 unfold aG
 simp (maxDischargeDepth := 99) only [zzb, reduceCtorEq, Nat.reduceAdd, Nat.reduceLeDiff, Int.cast_ofNat_Int, Dc, CG, wx, cF, bM, h0]
theorem jR {a0 : Ty.T y36} {a1 : Int} {a2 : Ty.T af} (h0 : cur a2) : (aG a0 a1 a2).2.2.2.2.2.2.1 = [] := by
 unfold aG
 exact wx (by simp (maxDischargeDepth := 99) only [zzb, reduceCtorEq, Nat.reduceAdd, Nat.reduceLeDiff, Int.cast_ofNat_Int, Dc, CG, wx, cF, bM, h0])
theorem Hu {a0 : Ty.T y36} {a1 : Int} {a2 : Ty.T af} (h0 : cur a2) : cur (rN a0 a1 a2).2 := by
 unfold rN
 simp (maxDischargeDepth := 99) only [zzb, reduceCtorEq, Nat.reduceAdd, Nat.reduceLeDiff, Int.cast_ofNat_Int, HY, vR, dJ, cP, jW, jR, h0]
theorem FW {a0 : Ty.T y36} {a1 : Int} {a2 : Ty.T af} (h0 : cur a2) : cur (jd a0 a1 a2).2.1 := by
 unfold jd
 simp (maxDischargeDepth := 99) only [zzb, reduceCtorEq, Nat.reduceAdd, Nat.reduceLeDiff, Int.cast_ofNat_Int, Cb, Dr, Ca, wbA, wbB, bL, bn, jW, jR, h0]
theorem HH {a0 : Ty.T y36} {a1 : Int} {a2 : Ty.T af} (h0 : cur a2) : Ty.few 2 (.sl 41 y27) (jd a0 a1 a2).2.2.2.2.2.1 := by
 unfold jd
 simp (maxDischargeDepth := 99) only [zzb, reduceCtorEq, Nat.reduceAdd, Nat.reduceLeDiff, Int.cast_ofNat_Int, Cb, Dr, Ca, wbA, wbB, bL, bn, jW, jR, h0]
theorem DT {a0 : Ty.T y36} {a1 : Int} {a2 : Ty.T af} (h0 : cur a2) : Sat (oR a0 a1 a2 some) (fun r => cur r.2.1 /\ Ty.few 2 (.sl 41 y27) r.2.2) := by
 unfold oR
 simp (maxDischargeDepth := 99) only [zzb, reduceCtorEq, Nat.reduceAdd, Nat.reduceLeDiff, Int.cast_ofNat_Int, ba, aL, a9, aM, bc, bf, cF, bM, Dc, CG, wx, jW, jR, dJ, cP, HY, vR, Hu, bL, bn, Cb, Dr, Ca, wbA, wbB, FW, HH, h0]
theorem tr {a0 : Ty.T y36} {a1 : Int} {a2 : Ty.T af} (h0 : cur a2) : Ep a0 a1 a2 = true := (DT h0).d
theorem hZ {a0 : Ty.T y36} {a1 : Int} {a2 : Ty.T af} (h0 : cur a2) : cur (cJ a0 a1 a2).2.1 := (DT h0).v.1
theorem fI {a0 : Ty.T y36} {a1 : Int} {a2 : Ty.T af} (h0 : cur a2) : Ty.few 2 (.sl 41 y27) (cJ a0 a1 a2).2.2 := (DT h0).v.2
theorem e5 {a0 : Ty.T y36} {a1 : Int} {a2 : Ty.T af} (h0 : cur a2) : Ty.few 8 (.sl 41 y27) (cJ a0 a1 a2).2.2 := eA (by decide) _ _ (fI h0)
theorem AG {v : gn} (h0 : cur v.1) : Sat (jG v some) (fun r => cur r.2) := by
 unfold jG
 simp (maxDischargeDepth := 99) only [zzb, reduceCtorEq, Nat.reduceAdd, Nat.reduceLeDiff, Int.cast_ofNat_Int, ba, aL, a9, aM, bc, bf, dJ, cP, h0]
theorem Ib {v : gn} (h0 : cur v.1) : yb v = true := (AG h0).d
theorem vC {v : gn} (h0 : cur v.1) : cur (yf v).2 := (AG h0).v
theorem A5 {v : di} (h0 : cur v.2.1) : Sat (jz v some) (fun r => cur r.1) := by
 unfold jz
 simp (maxDischargeDepth := 99) only [zzb, reduceCtorEq, Nat.reduceAdd, Nat.reduceLeDiff, Int.cast_ofNat_Int, ba, aL, a9, aM, bc, bf, tE, im, h0]
theorem Gx {v : di} (h0 : cur v.2.1) : xH v = true := (A5 h0).d
theorem vN {v : di} (h0 : cur v.2.1) : cur (w6 v).1 := (A5 h0).v
theorem Mx {v : iI} (h0 : cur v.1) : Sat (iH v some) (fun _ => True) := by
 unfold iH
 simp (maxDischargeDepth := 99) only [zzb, reduceCtorEq, Nat.reduceAdd, Nat.reduceLeDiff, Int.cast_ofNat_Int, ba, aL, a9, aM, bc, bf, bL, bn, h0]
theorem Pp {v : iI} (h0 : cur v.1) : wF v = true := (Mx h0).d
theorem BK {v : di} (h0 : cur v.2.1) : Sat (jB v some) (fun r => cur r.1) := by
 unfold jB
 simp (maxDischargeDepth := 99) only [zzb, reduceCtorEq, Nat.reduceAdd, Nat.reduceLeDiff, Int.cast_ofNat_Int, ba, aL, a9, aM, bc, bf, Pp, bL, bn, h0]
theorem HO {v : di} (h0 : cur v.2.1) : xh v = true := (BK h0).d
theorem vM {v : di} (h0 : cur v.2.1) : cur (xU v).1 := (BK h0).v
theorem Be {v : gI} (h0 : cur v.2.1) : Sat (iV v some) (fun r => cur r.2) := by
 unfold iV
 simp (maxDischargeDepth := 99) only [zzb, reduceCtorEq, Nat.reduceAdd, Nat.reduceLeDiff, Int.cast_ofNat_Int, ba, aL, a9, aM, bc, bf, cF, bM, dJ, cP, bL, bn, h0]
theorem Gj {v : gI} (h0 : cur v.2.1) : xC v = true := (Be h0).d
theorem vP {v : gI} (h0 : cur v.2.1) : cur (xQ v).2 := (Be h0).v
theorem vv {a0 : Ty.T y36} {a1 : Int} {a2 : Ty.T af} (h0 : cur a2) : cur (kM a0 a1 a2).2 := by
 unfold kM
 simp (maxDischargeDepth := 99) only [zzb, reduceCtorEq, Nat.reduceAdd, Nat.reduceLeDiff, Int.cast_ofNat_Int, Ib, vC, cF, bM, bL, bn, h0]
theorem e6 {a0 : Ty.T y36} {a1 : Int} {a2 : Ty.T af} (h0 : cur a2) : cur (aK a0 a1 a2).1 := by
 unfold aK
 simp (maxDischargeDepth := 99) only [zzb, reduceCtorEq, Nat.reduceAdd, Nat.reduceLeDiff, Int.cast_ofNat_Int, Gx, vN, vv, bL, bn, cF, bM, h0]
theorem nD {a0 : Ty.T y36} {a1 : Int} {a2 : Ty.T af} (h0 : cur a2) : cur (ca a0 a1 a2).2.1 := by
 unfold ca
 simp (maxDischargeDepth := 99) only [zzb, reduceCtorEq, Nat.reduceAdd, Nat.reduceLeDiff, Int.cast_ofNat_Int, tr, hZ, fI, e5, qp, fJ, e6, qY, fO, h0]
theorem mS {a0 : Ty.T y36} {a1 : Int} {a2 : Ty.T af} (h0 : cur a2) : Ty.few 2 (.sl 41 y27) (ca a0 a1 a2).2.2 := by
 unfold ca
 simp (maxDischargeDepth := 99) only [zzb, reduceCtorEq, Nat.reduceAdd, Nat.reduceLeDiff, Int.cast_ofNat_Int, tr, hZ, fI, e5, qp, fJ, e6, qY, fO, h0]
theorem oJ {a0 : Ty.T y36} {a1 : Int} {a2 : Ty.T af} (h0 : cur a2) : Ty.few 8 (.sl 41 y27) (ca a0 a1 a2).2.2 := by
 unfold ca
 simp (maxDischargeDepth := 99) only [zzb, reduceCtorEq, Nat.reduceAdd, Nat.reduceLeDiff, Int.cast_ofNat_Int, tr, hZ, fI, e5, qp, fJ, e6, qY, fO, h0]
theorem vx {a0 : Ty.T y36} {a1 : Int} {a2 : Ty.T af} (h0 : cur a2) : cur (kH a0 a1 a2).1 := by
 unfold kH
 simp (maxDischargeDepth := 99) only [zzb, reduceCtorEq, Nat.reduceAdd, Nat.reduceLeDiff, Int.cast_ofNat_Int, HO, vM, dJ, cP, nD, mS, oJ, e6, qp, fJ, qY, fO, h0]
theorem F7 {a0 : Ty.T y36} {a1 : Int} {a2 : Ty.T af} (h0 : cur a2) : cur (rT a0 a1 a2).2 := by
 unfold rT
 simp (maxDischargeDepth := 99) only [zzb, reduceCtorEq, Nat.reduceAdd, Nat.reduceLeDiff, Int.cast_ofNat_Int, Gj, vP, e6, qp, fJ, qY, fO, nD, mS, oJ, vx, h0]
theorem Ce {a0 : Ty.T y36} {a1 : Int} {a2 : Ty.T af} (h0 : cur a2) : Sat (oN a0 a1 a2 some) (fun r => cur r.2.2.1 /\ Ty.few 8 (.sl 41 y27) r.2.2.2) := by
 unfold oN
 simp (maxDischargeDepth := 99) only [zzb, reduceCtorEq, Nat.reduceAdd, Nat.reduceLeDiff, Int.cast_ofNat_Int, ba, aL, a9, aM, bc, bf, bL, bn, cF, bM, Ib, vC, Gx, vN, vv, qp, fJ, e6, qY, fO, tr, hZ, fI, e5, dJ, cP, nD, mS, oJ, HO, vM, Gj, vP, vx, F7, h0]
theorem eM {a0 : Ty.T y36} {a1 : Int} {a2 : Ty.T af} (h0 : cur a2) : q8 a0 a1 a2 = true := (Ce h0).d
theorem cU {a0 : Ty.T y36} {a1 : Int} {a2 : Ty.T af} (h0 : cur a2) : cur (an a0 a1 a2).2.2.1 := (Ce h0).v.1
theorem cS {a0 : Ty.T y36} {a1 : Int} {a2 : Ty.T af} (h0 : cur a2) : Ty.few 8 (.sl 41 y27) (an a0 a1 a2).2.2.2 := (Ce h0).v.2
theorem Yr {l m : List (Int × Int × Int × Int × Int × Int × Bool)} (h : Ty.few 2 (.sl 41 y27) l) (hm : m.length <= 6) : (@List.length (Int × Int × Int × Int × Int × Int × Bool) (@HAppend.hAppend (List (Int × Int × Int × Int × Int × Int × Bool)) (List (Int × Int × Int × Int × Int × Int × Bool)) (List (Int × Int × Int × Int × Int × Int × Bool)) _ l m) * 56 <= 140737488351232) = True := eq_true (LL (t := y27) h hm (by decide))
theorem X9 {l m : List (Int × Int × Int × Int × Int × Int × Bool)} (h : Ty.few 2 (.sl 41 y27) l) (hm : m.length <= 6) : Ty.few 8 (.sl 41 y27) (@HAppend.hAppend (List (Int × Int × Int × Int × Int × Int × Bool)) (List (Int × Int × Int × Int × Int × Int × Bool)) (List (Int × Int × Int × Int × Int × Int × Bool)) _ l m) = True := eq_true (CV (t := y27) h (by decide) (fun x _ => sS _ rfl x) hm (by decide))
theorem YD {l : Ty.T (.sl 41 y27)} (h : Ty.few 2 (.sl 41 y27) l) : Ty.few 8 (.sl 41 y27) l = True := eq_true (eA (by decide) _ _ h)
theorem Mz {v : iu} (h0 : cur v.1) : Sat (jx v some) (fun _ => True) := by
 unfold jx
 simp (maxDischargeDepth := 99) only [zzb, reduceCtorEq, Nat.reduceAdd, Nat.reduceLeDiff, Int.cast_ofNat_Int, ba, aL, a9, aM, bc, bf, bL, bn, tr, hZ, fI, e5, h0]
theorem Ss {v : iu} (h0 : cur v.1) : zu v = true := (Mz h0).d
theorem Nb {v : bg} (h0 : cur v.1) (h1 : Ty.few 2 (.sl 41 y27) v.2.2.2.2.1) : Sat (jw v some) (fun _ => True) := by
 unfold jw
 simp (maxDischargeDepth := 99) only [zzb, reduceCtorEq, Nat.reduceAdd, Nat.reduceLeDiff, Int.cast_ofNat_Int, ba, aL, a9, aM, bc, bf, KF, Bw, Yr, X9, YD, h0, h1]
theorem RX {v : bg} (h0 : cur v.1) (h1 : Ty.few 2 (.sl 41 y27) v.2.2.2.2.1) : z0 v = true := (Nb h0 h1).d
theorem M7 {v : bg} (h0 : cur v.1) (h1 : Ty.few 2 (.sl 41 y27) v.2.2.2.2.1) : Sat (gz v some) (fun _ => True) := by
 unfold gz
 simp (maxDischargeDepth := 99) only [zzb, reduceCtorEq, Nat.reduceAdd, Nat.reduceLeDiff, Int.cast_ofNat_Int, ba, aL, a9, aM, bc, bf, qU, fQ, Yr, X9, YD, h0, h1]
theorem N0 {v : bg} (h0 : cur v.1) (h1 : Ty.few 2 (.sl 41 y27) v.2.2.2.2.1) : zD v = true := (M7 h0 h1).d
theorem ud {v : fj} (h0 : cur v.2.2.1) (h1 : Ty.few 2 (.sl 41 y27) v.2.2.2.2.2.2.1) : Sat (gu v some) (fun r => cur r.2.1 /\ Ty.few 8 (.sl 41 y27) r.2.2) := by
 unfold gu
 simp (maxDischargeDepth := 99) only [zzb, reduceCtorEq, Nat.reduceAdd, Nat.reduceLeDiff, Int.cast_ofNat_Int, ba, aL, a9, aM, bc, bf, cF, bM, qP, fY, RX, KF, Bw, Yr, X9, YD, N0, qU, fQ, h0, h1]
theorem Ov {v : fj} (h0 : cur v.2.2.1) (h1 : Ty.few 2 (.sl 41 y27) v.2.2.2.2.2.2.1) : yK v = true := (ud h0 h1).d
theorem H0 {v : fj} (h0 : cur v.2.2.1) (h1 : Ty.few 2 (.sl 41 y27) v.2.2.2.2.2.2.1) : cur (lp v).2.1 := (ud h0 h1).v.1
theorem H9 {v : fj} (h0 : cur v.2.2.1) (h1 : Ty.few 2 (.sl 41 y27) v.2.2.2.2.2.2.1) : Ty.few 8 (.sl 41 y27) (lp v).2.2 := (ud h0 h1).v.2
theorem DK {a0 : Ty.T y36} {a1 : Ty.T af} (h0 : cur a1) : Sat (ra a0 a1 some) (fun r => cur r.2.1 /\ Ty.few 8 (.sl 41 y27) r.2.2) := by
 unfold ra
 simp (maxDischargeDepth := 99) only [zzb, reduceCtorEq, Nat.reduceAdd, Nat.reduceLeDiff, Int.cast_ofNat_Int, ba, aL, a9, aM, bc, bf, Ss, bL, bn, tr, hZ, fI, e5, Ov, H0, H9, h0]
theorem YZ {a0 : Ty.T y36} {a1 : Ty.T af} (h0 : cur a1) : KC a0 a1 = true := (DK h0).d
theorem Mv {a0 : Ty.T y36} {a1 : Ty.T af} (h0 : cur a1) : cur (uM a0 a1).2.1 := (DK h0).v.1
theorem L5 {a0 : Ty.T y36} {a1 : Ty.T af} (h0 : cur a1) : Ty.few 8 (.sl 41 y27) (uM a0 a1).2.2 := (DK h0).v.2
theorem Mc {v : iS} (h0 : cur v.1) : Sat (iB v some) (fun _ => True) := by
 unfold iB
 simp (maxDischargeDepth := 99) only [zzb, reduceCtorEq, Nat.reduceAdd, Nat.reduceLeDiff, Int.cast_ofNat_Int, ba, aL, a9, aM, bc, bf, bL, bn, eM, cU, cS, h0]
theorem SM {v : iS} (h0 : cur v.1) : yn v = true := (Mc h0).d
theorem uq {v : fu} (h0 : cur v.2.2.1) (h1 : Ty.few 8 (.sl 41 y27) v.2.2.2.2.2.2.2.1) : Sat (gH v some) (fun r => cur r.2.2.1 /\ Ty.few 8 (.sl 41 y27) r.2.2.2) := by
 unfold gH
 simp (maxDischargeDepth := 99) only [zzb, reduceCtorEq, Nat.reduceAdd, Nat.reduceLeDiff, Int.cast_ofNat_Int, ba, aL, a9, aM, bc, bf, cF, bM, XX, Mb, W6, MU, YZ, Mv, L5, h0, h1]
theorem yA {v : fu} (h0 : cur v.2.2.1) (h1 : Ty.few 8 (.sl 41 y27) v.2.2.2.2.2.2.2.1) : xe v = true := (uq h0 h1).d
theorem mF {v : fu} (h0 : cur v.2.2.1) (h1 : Ty.few 8 (.sl 41 y27) v.2.2.2.2.2.2.2.1) : cur (rW v).2.2.1 := (uq h0 h1).v.1
theorem mK {v : fu} (h0 : cur v.2.2.1) (h1 : Ty.few 8 (.sl 41 y27) v.2.2.2.2.2.2.2.1) : Ty.few 8 (.sl 41 y27) (rW v).2.2.2 := (uq h0 h1).v.2
theorem nd {a0 : Ty.T y36} {a1 : Ty.T af} (h0 : cur a1) : cur (cZ a0 a1).2.2.1 := by
 unfold cZ
 simp (maxDischargeDepth := 99) only [zzb, reduceCtorEq, Nat.reduceAdd, Nat.reduceLeDiff, Int.cast_ofNat_Int, eM, cU, cS, bL, bn, h0]
theorem mC {a0 : Ty.T y36} {a1 : Ty.T af} (h0 : cur a1) : Ty.few 8 (.sl 41 y27) (cZ a0 a1).2.2.2 := by
 unfold cZ
 simp (maxDischargeDepth := 99) only [zzb, reduceCtorEq, Nat.reduceAdd, Nat.reduceLeDiff, Int.cast_ofNat_Int, eM, cU, cS, bL, bn, h0]
theorem Gs {a0 : Ty.T y36} {a1 : Ty.T af} (h0 : cur a1) : cur (gE a0 a1).2.2.1 := by
 unfold gE
 simp (maxDischargeDepth := 99) only [zzb, reduceCtorEq, Nat.reduceAdd, Nat.reduceLeDiff, Int.cast_ofNat_Int, yA, mF, mK, bL, bn, nd, mC, h0]
theorem HB {a0 : Ty.T y36} {a1 : Ty.T af} (h0 : cur a1) : Ty.few 8 (.sl 41 y27) (gE a0 a1).2.2.2 := by
 unfold gE
 simp (maxDischargeDepth := 99) only [zzb, reduceCtorEq, Nat.reduceAdd, Nat.reduceLeDiff, Int.cast_ofNat_Int, yA, mF, mK, bL, bn, nd, mC, h0]
theorem DH {a0 : Ty.T y36} {a1 : Ty.T af} (h0 : cur a1) : Sat (qG a0 a1 some) (fun r => cur r.2.2.1 /\ Ty.few 8 (.sl 41 y27) r.2.2.2) := by
 unfold qG
 simp (maxDischargeDepth := 99) only [zzb, reduceCtorEq, Nat.reduceAdd, Nat.reduceLeDiff, Int.cast_ofNat_Int, ba, aL, a9, aM, bc, bf, SM, bL, bn, nd, mC, yA, mF, mK, Gs, HB, h0]
theorem Yk {a0 : Ty.T y36} {a1 : Ty.T af} (h0 : cur a1) : Cw a0 a1 = true := (DH h0).d
theorem Mi {a0 : Ty.T y36} {a1 : Ty.T af} (h0 : cur a1) : cur (bA a0 a1).2.2.1 := (DH h0).v.1
theorem MH {a0 : Ty.T y36} {a1 : Ty.T af} (h0 : cur a1) : Ty.few 8 (.sl 41 y27) (bA a0 a1).2.2.2 := (DH h0).v.2
theorem jU {v : ez} (h0 : cur v.2.2.2.1) : cur (bx v).2.2.1 := by
 unfold bx
 simp (maxDischargeDepth := 99) only [zzb, reduceCtorEq, Nat.reduceAdd, Nat.reduceLeDiff, Int.cast_ofNat_Int, eM, cU, cS, bL, bn, h0]
theorem kd {v : ez} (h0 : cur v.2.2.2.1) : Ty.few 8 (.sl 41 y27) (bx v).2.2.2 := by
 unfold bx
 simp (maxDischargeDepth := 99) only [zzb, reduceCtorEq, Nat.reduceAdd, Nat.reduceLeDiff, Int.cast_ofNat_Int, eM, cU, cS, bL, bn, h0]
theorem EF {r : List (Ty.T ab)} {n : Int} {c : Ty.T af} {s : Ty.T y36} {l : List (Ty.T ab)} (h0 : 0 <= n) (hn : n <= 4) (hl : l = []) (h : cur c) : xg r 0 n c s l 0 = true /\ cur (ld r 0 n c s l).2.2.2.1 /\ Ty.few 8 (.sl 109 ab) (ld r 0 n c s l).2.2.2.2.2.1 := by
 have := jO (s := nY) (Q := fun v => cur v.2.2.2.1 /\ Ty.few 8 (.sl 109 ab) v.2.2.2.2.2.1) (fun k v => ∃ (i id : Int) (c : Ty.T af) (l : List (Ty.T ab)), v = (r, id, i, c, s, l, ()) /\ cur c /\ i = k /\ (l.length : Int) + i <= 4 /\ ∀ x, x ∈ l -> Ty.few 8 ab x) (fun k v hv => by
  obtain ⟨i, id, c, l, rfl, h1, h3, h4, h5⟩ := hv
  have e : 0 <= i -> IntKind.wrap .i64 (i - 1) = i - 1 := fun _ => bR (by omega) (by omega)
  have hz : ∀ x : Int × Int × Int × Int × (Int × Int × Int × Int × Int × Int × Int) × (Int × Int) × (Int × Int × Int × Int × Int × Bool × List (Int × Int × Int × Int × Int × Int × Bool)) × Int × Int, (@List.length (Int × Int × Int × Int × (Int × Int × Int × Int × Int × Int × Int) × (Int × Int) × (Int × Int × Int × Int × Int × Bool × List (Int × Int × Int × Int × Int × Int × Bool)) × Int × Int) (l ++ [x]) * 192 <= 140737488351232) = True := fun x => eq_true (by simp only [List.length_append, List.length_cons, List.length_nil]; omega)
  unfold nY mG
  dsimp only
  simp (maxDischargeDepth := 99) only [zzb, reduceCtorEq, Nat.reduceAdd, Nat.reduceLeDiff, Int.cast_ofNat_Int, ba, aL, a9, aM, bc, bf, bL, bn, eM, cU, cS, jU, kd, h1, hz]
  refine ⟨fun hl => ?_, fun _ => ⟨by omega, h5⟩⟩
  have hl : i > 0 := of_decide_eq_true hl
  refine ⟨k - 1, by omega, i - 1, _, _, _, by rw [e (by omega)] <;> rfl, ?_, by omega, by simp only [List.length_append, List.length_cons, List.length_nil]; omega, fun x hx => ?_⟩
  ·simp (maxDischargeDepth := 99) only [zzb, reduceCtorEq, Nat.reduceAdd, Nat.reduceLeDiff, Int.cast_ofNat_Int, ba, aL, a9, aM, bc, bf, bL, bn, eM, cU, cS, jU, kd, h1]
  ·rcases List.mem_append.1 hx with hx | hx
   ·have h6 := h5 x hx
    simp (maxDischargeDepth := 99) only [zzb, reduceCtorEq, Nat.reduceAdd, Nat.reduceLeDiff, Int.cast_ofNat_Int, ba, aL, a9, aM, bc, bf, bL, bn, eM, cU, cS, jU, kd] at h6 ⊢
    exact h6
   ·cases List.mem_singleton.1 hx
    simp (maxDischargeDepth := 99) only [zzb, reduceCtorEq, Nat.reduceAdd, Nat.reduceLeDiff, Int.cast_ofNat_Int, ba, aL, a9, aM, bc, bf, bL, bn, eM, cU, cS, jU, kd, h1]) n.toNat (r, 0, n, c, s, l, ()) (nZ (r, 0, n, c, s, l, ())) ⟨n, 0, c, l, rfl, h, by omega, by subst hl; show (0 : Int) + n <= 4; omega, by subst hl; exact fun x hx => absurd hx List.not_mem_nil⟩ (by simp only [nZ]; omega)
 exact ⟨this.1.1, this.2⟩
theorem vbA {c : Ty.T af} (h : cur c) : 0 <= (aa 5 c).1 := ((below 5 c h).2.1 (by omega)).1
theorem vbB {c : Ty.T af} (h : cur c) : (aa 5 c).1 <= 4 := by
 have := (below 5 c h).2.1 (by omega)
 omega
theorem TP {r : List (Ty.T ab)} {n : Int} {c : Ty.T af} {s : Ty.T y36} {l : List (Ty.T ab)} (h0 : 0 <= n) (hn : n <= 4) (hl : l = []) (h : cur c) : xg r 0 n c s l 0 = true := (EF h0 hn hl h).1
theorem Te {r : List (Ty.T ab)} {n : Int} {c : Ty.T af} {s : Ty.T y36} {l : List (Ty.T ab)} (h0 : 0 <= n) (hn : n <= 4) (hl : l = []) (h : cur c) : cur (ld r 0 n c s l).2.2.2.1 := (EF h0 hn hl h).2.1
theorem Ua {r : List (Ty.T ab)} {n : Int} {c : Ty.T af} {s : Ty.T y36} {l : List (Ty.T ab)} (h0 : 0 <= n) (hn : n <= 4) (hl : l = []) (h : cur c) : Ty.few 8 (.sl 109 ab) (ld r 0 n c s l).2.2.2.2.2.1 := (EF h0 hn hl h).2.2
theorem sN {a0 : Ty.T y36} {a1 : Ty.T af} (h0 : cur a1) : Sat (qc a0 a1 some) (fun r => cur r.1 /\ Ty.few 8 (.sl 109 ab) r.2) := by
 unfold qc
 simp (maxDischargeDepth := 99) only [zzb, reduceCtorEq, Nat.reduceAdd, Nat.reduceLeDiff, Int.cast_ofNat_Int, ba, aL, a9, aM, bc, bf, bL, bn, TP, Te, Ua, vbA, vbB, h0]
theorem Wn {a0 : Ty.T y36} {a1 : Ty.T af} (h0 : cur a1) : yl a0 a1 = true := (sN h0).d
theorem Nd {a0 : Ty.T y36} {a1 : Ty.T af} (h0 : cur a1) : cur (bZ a0 a1).1 := (sN h0).v.1
theorem Nl {a0 : Ty.T y36} {a1 : Ty.T af} (h0 : cur a1) : Ty.few 8 (.sl 109 ab) (bZ a0 a1).2 := (sN h0).v.2
theorem Mt {l m : List (Int × Int × Int × Int × (Int × Int × Int × Int × Int × Int × Int) × (Int × Int) × (Int × Int × Int × Int × Int × Bool × List (Int × Int × Int × Int × Int × Int × Bool)) × Int × Int)} (h : Ty.few 8 (.sl 109 ab) l) (hm : m.length <= 4) : (@List.length (Int × Int × Int × Int × (Int × Int × Int × Int × Int × Int × Int) × (Int × Int) × (Int × Int × Int × Int × Int × Bool × List (Int × Int × Int × Int × Int × Int × Bool)) × Int × Int) (@HAppend.hAppend (List (Int × Int × Int × Int × (Int × Int × Int × Int × Int × Int × Int) × (Int × Int) × (Int × Int × Int × Int × Int × Bool × List (Int × Int × Int × Int × Int × Int × Bool)) × Int × Int)) (List (Int × Int × Int × Int × (Int × Int × Int × Int × Int × Int × Int) × (Int × Int) × (Int × Int × Int × Int × Int × Bool × List (Int × Int × Int × Int × Int × Int × Bool)) × Int × Int)) (List (Int × Int × Int × Int × (Int × Int × Int × Int × Int × Int × Int) × (Int × Int) × (Int × Int × Int × Int × Int × Bool × List (Int × Int × Int × Int × Int × Int × Bool)) × Int × Int)) _ l m) * 192 <= 140737488351232) = True := eq_true (LL (t := ab) h hm (by decide))
theorem A0 {l : List (Int × Int × Int × Int × (Int × Int × Int × Int × Int × Int × Int) × (Int × Int) × (Int × Int × Int × Int × Int × Bool × List (Int × Int × Int × Int × Int × Int × Bool)) × Int × Int)} {x0 : Int × Int × Int × Int × (Int × Int × Int × Int × Int × Int × Int) × (Int × Int) × (Int × Int × Int × Int × Int × Bool × List (Int × Int × Int × Int × Int × Int × Bool)) × Int × Int} (h : Ty.few 8 (.sl 109 ab) l) (hx0 : Ty.few 12 ab x0) : Ty.few 12 (.sl 109 ab) (@HAppend.hAppend (List (Int × Int × Int × Int × (Int × Int × Int × Int × Int × Int × Int) × (Int × Int) × (Int × Int × Int × Int × Int × Bool × List (Int × Int × Int × Int × Int × Int × Bool)) × Int × Int)) (List (Int × Int × Int × Int × (Int × Int × Int × Int × Int × Int × Int) × (Int × Int) × (Int × Int × Int × Int × Int × Bool × List (Int × Int × Int × Int × Int × Int × Bool)) × Int × Int)) (List (Int × Int × Int × Int × (Int × Int × Int × Int × Int × Int × Int) × (Int × Int) × (Int × Int × Int × Int × Int × Bool × List (Int × Int × Int × Int × Int × Int × Bool)) × Int × Int)) _ l (@List.cons (Int × Int × Int × Int × (Int × Int × Int × Int × Int × Int × Int) × (Int × Int) × (Int × Int × Int × Int × Int × Bool × List (Int × Int × Int × Int × Int × Int × Bool)) × Int × Int) x0 (@List.nil (Int × Int × Int × Int × (Int × Int × Int × Int × Int × Int × Int) × (Int × Int) × (Int × Int × Int × Int × Int × Bool × List (Int × Int × Int × Int × Int × Int × Bool)) × Int × Int)))) = True := eq_true (CV (C := 1) (t := ab) h (by decide) (fun y hy => by simp only [List.mem_cons, List.not_mem_nil, or_false] at hy; rcases hy with rfl <;> assumption) (Nat.le_refl _) (by decide))
theorem AQ {l : List (Int × Int × Int × Int × (Int × Int × Int × Int × Int × Int × Int) × (Int × Int) × (Int × Int × Int × Int × Int × Bool × List (Int × Int × Int × Int × Int × Int × Bool)) × Int × Int)} {x0 : Int × Int × Int × Int × (Int × Int × Int × Int × Int × Int × Int) × (Int × Int) × (Int × Int × Int × Int × Int × Bool × List (Int × Int × Int × Int × Int × Int × Bool)) × Int × Int} {x1 : Int × Int × Int × Int × (Int × Int × Int × Int × Int × Int × Int) × (Int × Int) × (Int × Int × Int × Int × Int × Bool × List (Int × Int × Int × Int × Int × Int × Bool)) × Int × Int} {x2 : Int × Int × Int × Int × (Int × Int × Int × Int × Int × Int × Int) × (Int × Int) × (Int × Int × Int × Int × Int × Bool × List (Int × Int × Int × Int × Int × Int × Bool)) × Int × Int} (h : Ty.few 8 (.sl 109 ab) l) (hx0 : Ty.few 12 ab x0) (hx1 : Ty.few 12 ab x1) (hx2 : Ty.few 12 ab x2) : Ty.few 12 (.sl 109 ab) (@HAppend.hAppend (List (Int × Int × Int × Int × (Int × Int × Int × Int × Int × Int × Int) × (Int × Int) × (Int × Int × Int × Int × Int × Bool × List (Int × Int × Int × Int × Int × Int × Bool)) × Int × Int)) (List (Int × Int × Int × Int × (Int × Int × Int × Int × Int × Int × Int) × (Int × Int) × (Int × Int × Int × Int × Int × Bool × List (Int × Int × Int × Int × Int × Int × Bool)) × Int × Int)) (List (Int × Int × Int × Int × (Int × Int × Int × Int × Int × Int × Int) × (Int × Int) × (Int × Int × Int × Int × Int × Bool × List (Int × Int × Int × Int × Int × Int × Bool)) × Int × Int)) _ l (@List.cons (Int × Int × Int × Int × (Int × Int × Int × Int × Int × Int × Int) × (Int × Int) × (Int × Int × Int × Int × Int × Bool × List (Int × Int × Int × Int × Int × Int × Bool)) × Int × Int) x0 (@List.cons (Int × Int × Int × Int × (Int × Int × Int × Int × Int × Int × Int) × (Int × Int) × (Int × Int × Int × Int × Int × Bool × List (Int × Int × Int × Int × Int × Int × Bool)) × Int × Int) x1 (@List.cons (Int × Int × Int × Int × (Int × Int × Int × Int × Int × Int × Int) × (Int × Int) × (Int × Int × Int × Int × Int × Bool × List (Int × Int × Int × Int × Int × Int × Bool)) × Int × Int) x2 (@List.nil (Int × Int × Int × Int × (Int × Int × Int × Int × Int × Int × Int) × (Int × Int) × (Int × Int × Int × Int × Int × Bool × List (Int × Int × Int × Int × Int × Int × Bool)) × Int × Int)))))) = True := eq_true (CV (C := 3) (t := ab) h (by decide) (fun y hy => by simp only [List.mem_cons, List.not_mem_nil, or_false] at hy; rcases hy with rfl | rfl | rfl <;> assumption) (Nat.le_refl _) (by decide))
theorem Nt {l : Ty.T (.sl 109 ab)} (h : Ty.few 8 (.sl 109 ab) l) : Ty.few 12 (.sl 109 ab) l = True := eq_true (eA (by decide) _ _ h)
theorem Ns {l : List (Int × Int × Int × Int × (Int × Int × Int × Int × Int × Int × Int) × (Int × Int) × (Int × Int × Int × Int × Int × Bool × List (Int × Int × Int × Int × Int × Int × Bool)) × Int × Int)} {x : Int × Int × Int × Int × (Int × Int × Int × Int × Int × Int × Int) × (Int × Int) × (Int × Int × Int × Int × Int × Bool × List (Int × Int × Int × Int × Int × Int × Bool)) × Int × Int} (h : Ty.few 8 (.sl 109 ab) l) (hx : Ty.few 12 ab x) : Ty.few 12 (.sl 109 ab) (@List.set (Int × Int × Int × Int × (Int × Int × Int × Int × Int × Int × Int) × (Int × Int) × (Int × Int × Int × Int × Int × Bool × List (Int × Int × Int × Int × Int × Int × Bool)) × Int × Int) l 0 x) = True := eq_true (UM (t := ab) h (by decide) hx)
theorem Mo {l : Ty.T (.sl 41 y27)} (h : Ty.few 8 (.sl 41 y27) l) : Ty.few 12 (.sl 41 y27) l = True := eq_true (eA (by decide) _ _ h)
theorem Hr {v : dX} (h0 : cur v.2.1) : cur (cQ v).2.2.1 := by
 unfold cQ
 simp (maxDischargeDepth := 99) only [zzb, reduceCtorEq, Nat.reduceAdd, Nat.reduceLeDiff, Int.cast_ofNat_Int, eM, cU, cS, Mt, A0, AQ, Nt, Ns, Mo, h0]
theorem Hd {v : dX} (h0 : cur v.2.1) : Ty.few 8 (.sl 41 y27) (cQ v).2.2.2 := by
 unfold cQ
 simp (maxDischargeDepth := 99) only [zzb, reduceCtorEq, Nat.reduceAdd, Nat.reduceLeDiff, Int.cast_ofNat_Int, eM, cU, cS, Mt, A0, AQ, Nt, Ns, Mo, h0]
theorem Ml {v : dX} (h0 : Ty.few 8 (.sl 109 ab) v.1) (h1 : cur v.2.1) (h2 : Ty.few 8 (.sl 109 ab) v.2.2.2.1) : Sat (iQ v some) (fun _ => True) := by
 unfold iQ
 simp (maxDischargeDepth := 99) only [zzb, reduceCtorEq, Nat.reduceAdd, Nat.reduceLeDiff, Int.cast_ofNat_Int, ba, aL, a9, aM, bc, bf, eM, cU, cS, Mt, A0, AQ, Nt, Ns, Mo, Hr, Hd, h0, h1, h2]
theorem SS {v : dX} (h0 : Ty.few 8 (.sl 109 ab) v.1) (h1 : cur v.2.1) (h2 : Ty.few 8 (.sl 109 ab) v.2.2.2.1) : xc v = true := (Ml h0 h1 h2).d
theorem Gu {v : dP} (h0 : cur v.2.2.2.1) : cur (bz v).2.2.1 := by
 unfold bz
 simp (maxDischargeDepth := 99) only [zzb, reduceCtorEq, Nat.reduceAdd, Nat.reduceLeDiff, Int.cast_ofNat_Int, eM, cU, cS, Mt, A0, AQ, Nt, Ns, Mo, h0]
theorem Gm {v : dP} (h0 : cur v.2.2.2.1) : Ty.few 8 (.sl 41 y27) (bz v).2.2.2 := by
 unfold bz
 simp (maxDischargeDepth := 99) only [zzb, reduceCtorEq, Nat.reduceAdd, Nat.reduceLeDiff, Int.cast_ofNat_Int, eM, cU, cS, Mt, A0, AQ, Nt, Ns, Mo, h0]
theorem tz {v : dP} (h0 : Ty.few 8 (.sl 109 ab) v.1) (h1 : cur v.2.2.2.1) (h2 : Ty.few 8 (.sl 109 ab) v.2.2.2.2.2.1) : Sat (gl v some) (fun r => cur r.1 /\ Ty.few 12 (.sl 109 ab) r.2) := by
 unfold gl
 simp (maxDischargeDepth := 99) only [zzb, reduceCtorEq, Nat.reduceAdd, Nat.reduceLeDiff, Int.cast_ofNat_Int, ba, aL, a9, aM, bc, bf, Yk, Mi, MH, Mt, A0, AQ, Nt, Ns, Mo, SS, eM, cU, cS, Gu, Gm, h0, h1, h2]
 intro _ _ _ h
 have h := of_decide_eq_true h
 exact ⟨h, _, List.getElem?_eq_getElem (by omega)⟩
theorem QA {v : dP} (h0 : Ty.few 8 (.sl 109 ab) v.1) (h1 : cur v.2.2.2.1) (h2 : Ty.few 8 (.sl 109 ab) v.2.2.2.2.2.1) : zb v = true := (tz h0 h1 h2).d
theorem Fc {v : dP} (h0 : Ty.few 8 (.sl 109 ab) v.1) (h1 : cur v.2.2.2.1) (h2 : Ty.few 8 (.sl 109 ab) v.2.2.2.2.2.1) : cur (nC v).1 := (tz h0 h1 h2).v.1
theorem EU {v : dP} (h0 : Ty.few 8 (.sl 109 ab) v.1) (h1 : cur v.2.2.2.1) (h2 : Ty.few 8 (.sl 109 ab) v.2.2.2.2.2.1) : Ty.few 12 (.sl 109 ab) (nC v).2 := (tz h0 h1 h2).v.2
theorem KR {a0 : Ty.T y36} {a1 : Ty.T af} (h0 : cur a1) : Sat (qb a0 a1 some) (fun r => cur r.1 /\ Ty.few 12 (.sl 109 ab) r.2) := by
 unfold qb
 simp (maxDischargeDepth := 99) only [zzb, reduceCtorEq, Nat.reduceAdd, Nat.reduceLeDiff, Int.cast_ofNat_Int, ba, aL, a9, aM, bc, bf, Wn, Nd, Nl, bL, bn, QA, Fc, EU, h0]
theorem XP {a0 : Ty.T y36} {a1 : Ty.T af} (h0 : cur a1) : JP a0 a1 = true := (KR h0).d
theorem MM {a0 : Ty.T y36} {a1 : Ty.T af} (h0 : cur a1) : Ty.few 12 (.sl 109 ab) (JU a0 a1).2 := (KR h0).v.2
theorem CU {V : Type} {s : V -> Option (Nat × V)} {Q : Nat -> V -> Prop} (Inv : Nat -> V -> Prop) (h : ∀ k v, Inv k v -> Sat (s v) fun r => (∃ c, r.1 = c + 1 /\ Q c r.2) ∨ (r.1 = 0 /\ ∃ k', k = k' + 1 /\ Inv k' r.2)) : ∀ (k : Nat) (v : V) (n : Nat), Inv k v -> k < n -> ∃ c v', iter s n v = some (c, v') /\ Q c v'
 | k, v, 0, _, hn => by omega
 | k, v, n + 1, hI, hn => by
  obtain ⟨⟨c, v'⟩, h1, h2⟩ := h k v hI
  rcases h2 with ⟨c, rfl, h2⟩ | ⟨rfl, k', rfl, h4⟩
  ·exact ⟨c, v', by rw [iter, h1] <;> rfl, h2⟩
  ·obtain ⟨c, v2, h5, h6⟩ := CU Inv h k' v' n h4 (by omega)
   exact ⟨c, v2, by rw [iter, h1]; exact h5, h6⟩
theorem Tg {n : Int} {c : Ty.T af} (h0 : 0 <= n) (hn : n <= 7) (h : cur c) : Hh [] n c [] 0 = true /\ cur (rS [] n c []).2.2.1 /\ List.length (rS [] n c []).2.2.2.1 <= 7 := by
 have := jO (s := og) (Q := fun v => cur v.2.2.1 /\ List.length v.2.2.2.1 <= 7) (fun k v => ∃ (i : Int) (c : Ty.T af) (l : List Int), v = ([], i, c, l, ()) /\ cur c /\ i = k /\ (l.length : Int) + i <= 7) (fun k v hv => by
  obtain ⟨i, c, l, rfl, h1, h3, h4⟩ := hv
  have e : 0 <= i -> IntKind.wrap .i64 (i - 1) = i - 1 := fun _ => bR (by omega) (by omega)
  have hz : ∀ x : Int, (@List.length Int (l ++ [x]) * 8 <= 140737488351232) = True := fun x => eq_true (by simp only [List.length_append, List.length_cons, List.length_nil]; omega)
  have b := oneOf [0, 1, 2, 1, 3, 5, (-1)] c (by simp) h1
  unfold og oQ
  dsimp only
  simp (maxDischargeDepth := 99) only [zzb, reduceCtorEq, Nat.reduceAdd, Nat.reduceLeDiff, Int.cast_ofNat_Int, ba, aL, a9, aM, bc, bf, cF, bM, b.1, h1, hz]
  refine ⟨fun hl => ?_, fun _ => by omega⟩
  have hl : i > 0 := of_decide_eq_true hl
  exact ⟨k - 1, by omega, i - 1, _, _, by rw [e (by omega)] <;> rfl, b.2.2, by omega, by simp only [List.length_append, List.length_cons, List.length_nil]; omega⟩) n.toNat ([], n, c, [], ()) (oV ([], n, c, [], ())) ⟨n, c, [], rfl, h, by omega, by show (0 : Int) + n <= 7; omega⟩ (by simp only [oV]; omega)
 exact ⟨this.1.1, this.2⟩
theorem KS {a0 : Ty.T af} (h : cur a0) : Sat (qR a0 some) fun r => cur r.1 /\ List.length r.2 <= 7 := by
 have b := below 8 a0 h
 have b2 := b.2.1 (by omega)
 have l := Tg b2.1 (by omega) b.2.2
 unfold qR
 rw [b.1, l.1]
 simp only [cond_true, aZ]
 exact l.2
theorem Wl {a0 : Ty.T af} (h : cur a0) : Dx a0 = true := (KS h).d
theorem X6 {a0 : Ty.T af} (h : cur a0) : cur (p9 a0).1 /\ List.length (p9 a0).2 <= 7 := (KS h).v
theorem UL {l : List (Ty.T ab)} {k kk : Int} {b : Bool} {c : Ty.T af} {s : Ty.T y36} {r e : Ty.T y27} (hb : s.1.length <= 1048576) (hs : s.2.1.length <= 1048576) (hl : l.length <= 1048576) (hv : ∀ x ∈ l, x.2.2.2.2.2.2.1.2.2.2.2.2.2.length <= 1048576) :
  ∃ (cd : Nat) (i : Int) (r' : Ty.T y27), iter kJ (kQ (l, k, 0, kk, b, c, s, r, e, ())) (l, k, 0, kk, b, c, s, r, e, ()) = some (cd, (l, k, i, kk, b, c, s, r', e, ())) /\ ((cd = 0 /\ r' = e) ∨ cd = 1) := by
 obtain ⟨cd, v', h1, i, r', rfl, h3⟩ := CU (s := kJ) (Q := fun cd v => ∃ (i : Int) (r' : Ty.T y27), v = (l, k, i, kk, b, c, s, r', e, ()) /\ ((cd = 0 /\ r' = e) ∨ cd = 1)) (fun m v => ∃ i : Int, v = (l, k, i, kk, b, c, s, r, e, ()) /\ 0 <= i /\ i + m = l.length) (fun m v hI => by
  obtain ⟨i, rfl, h0, hm⟩ := hI
  unfold kJ mY
  dsimp only
  by_cases hi : i < (l.length : Int)
  ·obtain ⟨x, hx, hxm⟩ := Is h0 hi
   have hf := fits s x e hb hs (hv x hxm)
   have hw : IntKind.wrap .i64 (i + 1) = i + 1 := bR (by omega) (by omega)
   rw [decide_eq_true hi, cond_true, if_pos h0, hx]
   simp only [aA]
   rw [hf.1, cond_true]
   cases gV s x e
   ·rw [cond_false, aZ]
    exact .inr ⟨rfl, m - 1, by omega, i + 1, by rw [hw], by omega, by omega⟩
   ·rw [cond_true, aZ]
    exact .inl ⟨0, rfl, i, e, rfl, .inl ⟨rfl, rfl⟩⟩
  ·rw [decide_eq_false hi, cond_false, aZ]
   exact .inl ⟨1, rfl, i, r, rfl, .inr rfl⟩) l.length (l, k, 0, kk, b, c, s, r, e, ()) (kQ (l, k, 0, kk, b, c, s, r, e, ())) ⟨0, rfl, by omega, by omega⟩ (by simp only [kQ]; omega)
 exact ⟨cd, i, r', h1, h3⟩
theorem UD {l : List (Ty.T ab)} {c : Ty.T af} {s : Ty.T y36} {r e : Ty.T y27} (P : Ty.T y27 -> Prop) (hP : ∀ c, cur c -> P (al s c).1) (he : P e) (h : cur c) (hb : s.1.length <= 1048576) (hs : s.2.1.length <= 1048576) (hl : l.length <= 1048576) (hv : ∀ x ∈ l, x.2.2.2.2.2.2.1.2.2.2.2.2.2.length <= 1048576) :
  ∃ (cd : Nat) (v' : gk), iter lg (ky (l, 0, c, s, r, e, ())) (l, 0, c, s, r, e, ()) = some (cd, v') /\ cur v'.2.2.1 /\ ((cd = 0 /\ P v'.2.2.2.2.1) ∨ (cd = 1 /\ P v'.2.2.2.2.2.1)) := by
 refine CU (s := lg) (Q := fun cd v => cur v.2.2.1 /\ ((cd = 0 /\ P v.2.2.2.2.1) ∨ (cd = 1 /\ P v.2.2.2.2.2.1))) (fun m v => ∃ (i : Int) (c : Ty.T af) (r e : Ty.T y27), v = (l, i, c, s, r, e, ()) /\ cur c /\ P e /\ 0 <= i /\ i + m = 5) (fun m v hI => ?_) 5 (l, 0, c, s, r, e, ()) (ky (l, 0, c, s, r, e, ())) ⟨0, c, r, e, rfl, h, he, by omega, by omega⟩ (by simp only [ky]; omega)
 obtain ⟨i, c, r, e, rfl, hc, he, h0, hm⟩ := hI
 unfold lg mR
 dsimp only
 by_cases hi : i < 5
 ·obtain ⟨cd, i', r', h1, h2⟩ := UL (k := i) (kk := i) (b := decide (i < (5 : Int))) (c := c) (r := r) (e := e) hb hs hl hv
  have hw : c9 l i 0 i (decide (i < (5 : Int))) c s r e = _ := bp h1
  have hk0 : rI l i 0 i (decide (i < (5 : Int))) c s r e 0 = (cd == 0) := aS h1 0
  have hk1 : rI l i 0 i (decide (i < (5 : Int))) c s r e 1 = (cd == 1) := aS h1 1
  rw [hk0, hk1, hw]
  dsimp only
  rw [decide_eq_true hi, cond_true]
  rcases h2 with ⟨rfl, h2⟩ | rfl
  ·rw [show ((0 : Nat) == 0) = true from rfl, cond_true, aZ]
   exact .inl ⟨0, rfl, hc, .inl ⟨rfl, by rw [h2]; exact he⟩⟩
  ·rw [show ((1 : Nat) == 0) = false from rfl, cond_false, show ((1 : Nat) == 1) = true from rfl, cond_true]
   have hw2 : IntKind.wrap .i64 (i + 1) = i + 1 := bR (by omega) (by omega)
   rw [qU hc, cond_true, aZ]
   exact .inr ⟨rfl, m - 1, by omega, i + 1, _, r', _, by rw [hw2], fQ hc, hP c hc, by omega, by omega⟩
 ·rw [decide_eq_false hi, cond_false, aZ]
  exact .inl ⟨1, rfl, hc, .inr ⟨rfl, he⟩⟩
theorem Ug {a0 : Ty.T y36} {a1 : List (Ty.T ab)} {a2 : Ty.T af} (P : Ty.T y27 -> Prop) (hP : ∀ c, cur c -> P (al a0 c).1) (h : cur a2) (hb : a0.1.length <= 1048576) (hs : a0.2.1.length <= 1048576) (hl : a1.length <= 1048576) (hv : ∀ x ∈ a1, x.2.2.2.2.2.2.1.2.2.2.2.2.2.length <= 1048576) : Sat (qh a0 a1 a2 some) fun r => P r.1 /\ cur r.2 := by
 obtain ⟨cd, v', h1, h2, h3⟩ := UD (c := (al a0 a2).2) (s := a0) (r := (0, 0, 0, 0, 0, 0, false)) (e := (al a0 a2).1) P hP (hP a2 h) (fQ h) hb hs hl hv
 have hw : na a1 0 (al a0 a2).2 a0 (0, 0, 0, 0, 0, 0, false) (al a0 a2).1 = _ := bp h1
 have hk0 : sa a1 0 (al a0 a2).2 a0 (0, 0, 0, 0, 0, 0, false) (al a0 a2).1 0 = (cd == 0) := aS h1 0
 have hk1 : sa a1 0 (al a0 a2).2 a0 (0, 0, 0, 0, 0, 0, false) (al a0 a2).1 1 = (cd == 1) := aS h1 1
 unfold qh
 rw [qU h, cond_true, hk0, hk1, hw]
 rcases h3 with ⟨rfl, h3⟩ | ⟨rfl, h3⟩
 ·rw [show ((0 : Nat) == 0) = true from rfl, cond_true, aZ]
  exact ⟨h3, h2⟩
 ·rw [show ((1 : Nat) == 0) = false from rfl, cond_false, show ((1 : Nat) == 1) = true from rfl, cond_true, aZ]
  exact ⟨h3, h2⟩
theorem Lh {a0 : Ty.T af} (h : cur a0) : Sat (p3 a0 some) fun r => (r.1.1.length <= 6 /\ r.1.2.1.length = 2) /\ Ty.few 8 (.sl 109 ab) r.2.1 /\ cur r.2.2.2.1 /\ List.length r.2.2.2.2 <= 7 := by
 obtain ⟨s1, s2, s3, s4⟩ : cur (ag a0).2.1 /\ 1 <= (ag a0).2.2.1.length /\ (ag a0).2.2.1.length <= 6 /\ (ag a0).2.2.2.length = 2 := (wD h).v
 have d1 : yX a0 = true := (wD h).d
 obtain ⟨l1, l2⟩ : cur (bZ ((ag a0).2.2.1, (ag a0).2.2.2, (ag a0).1) (ag a0).2.1).1 /\ Ty.few 8 (.sl 109 ab) (bZ ((ag a0).2.2.1, (ag a0).2.2.2, (ag a0).1) (ag a0).2.1).2 := (sN (a0 := ((ag a0).2.2.1, (ag a0).2.2.2, (ag a0).1)) (a1 := (ag a0).2.1) s1).v
 have d2 : yl ((ag a0).2.2.1, (ag a0).2.2.2, (ag a0).1) (ag a0).2.1 = true := (sN s1).d
 have e1 := Ug (a0 := ((ag a0).2.2.1, (ag a0).2.2.2, (ag a0).1)) (a1 := (bZ ((ag a0).2.2.1, (ag a0).2.2.2, (ag a0).1) (ag a0).2.1).2) (fun _ => True) (fun _ _ => trivial) l1 (show (ag a0).2.2.1.length <= _ by omega) (show (ag a0).2.2.2.length <= _ by omega) (Nat.le_trans l2.1 (by decide)) (fun x hx => Nat.le_trans (l2.2 x hx).2.2.2.2.2.2.1.2.2.2.2.2.2.1 (by decide))
 have d3 : Kb ((ag a0).2.2.1, (ag a0).2.2.2, (ag a0).1) (bZ ((ag a0).2.2.1, (ag a0).2.2.2, (ag a0).1) (ag a0).2.1).2 (bZ ((ag a0).2.2.1, (ag a0).2.2.2, (ag a0).1) (ag a0).2.1).1 = true := e1.d
 have e2 : True /\ cur (qx ((ag a0).2.2.1, (ag a0).2.2.2, (ag a0).1) (bZ ((ag a0).2.2.1, (ag a0).2.2.2, (ag a0).1) (ag a0).2.1).2 (bZ ((ag a0).2.2.1, (ag a0).2.2.2, (ag a0).1) (ag a0).2.1).1).2 := e1.v
 have c2 := X6 e2.2
 have d4 := Wl e2.2
 unfold p3
 rw [d1, cond_true, d2, cond_true, d3, cond_true]
 have g : ∀ (T : List (Ty.T ab)) (c : Ty.T af) (s : Ty.T y36) (e : Ty.T y27), Dx c = true -> se ([], [], T, c, ([], [], 0, 0), (0, 0, 0, 0, 0, 0, false), s, e, ()) = true := fun T c s e hv => by
  unfold se kC
  rw [hv]
  rfl
 rw [g _ _ _ _ d4, cond_true, aZ]
 exact ⟨⟨s3, s4⟩, l2, c2.1, c2.2⟩
theorem YN {a0 : Ty.T af} (h : cur a0) : JD a0 = true := (Lh h).d
theorem Y4 {a0 : Ty.T af} (h : cur a0) : ((bY a0).1.1.length <= 6 /\ (bY a0).1.2.1.length = 2) /\ Ty.few 8 (.sl 109 ab) (bY a0).2.1 /\ cur (bY a0).2.2.2.1 /\ List.length (bY a0).2.2.2.2 <= 7 := (Lh h).v
theorem p5a {v : b9} (h : cur v.1) (hl : v.2.2.2.2.1.length <= 100) : ze v = true := by
 have q : Sat (jc v some) fun _ => True := by
  unfold jc
  rw [qP h, cond_true, if_pos (by simp only [List.length_append, List.length_cons, List.length_nil]; omega), aZ]
  trivial
 exact q.d
theorem p5b {v : b9} (h : cur v.1) (hl : 1 <= v.2.2.2.2.1.length) : yR v = true /\ (xI v).length = v.2.2.2.2.1.length := by
 have q : Sat (jt v some) fun r => List.length r = v.2.2.2.2.1.length := by
  unfold jt
  obtain ⟨x, hx, _⟩ := Is (l := v.2.2.2.2.1) (i := 0) (by omega) (by omega)
  have hx : v.2.2.2.2.1[0]? = some x := hx
  rw [qP h, cond_true, if_pos (by omega), hx, aA, aZ]
  exact List.length_set
 exact ⟨q.d, q.v (z := [])⟩
theorem p5c {v : b9} (h : cur v.1) (hl : v.2.2.2.1.length <= 100) : yV v = true := by
 have q : Sat (iR v some) fun _ => True := by
  unfold iR
  rw [R7 h, cond_true, if_pos (by simp only [List.length_append, List.length_cons, List.length_nil]; omega), aZ]
  trivial
 exact q.d
theorem p5d {v : b9} (h : cur v.1) (hl : 1 <= v.2.2.2.1.length) : yv v = true := by
 have q : Sat (jA v some) fun _ => True := by
  unfold jA
  obtain ⟨x, hx, _⟩ := Is (l := v.2.2.2.1) (i := 0) (by omega) (by omega)
  have hx : v.2.2.2.1[0]? = some x := hx
  rw [R7 h, cond_true, if_pos (by omega), hx, aA, aZ]
  trivial
 exact q.d
theorem p5e {v : ec} (h : cur v.2.2.2.1) (hl : v.2.2.2.2.2.2.1.length <= 100) : xz v = true := by
 have q : Sat (jh v some) fun _ => True := by
  unfold jh
  rw [Ju h, cond_true, if_pos (by simp only [List.length_append, List.length_cons, List.length_nil]; omega), aZ]
  trivial
 exact q.d
theorem abt {c : Ty.T af} {q r ps ss} (h : cur c) (hl : List.length ps <= 6) : ER 40 c q r ps ss 0 = true /\ ∃ (c' : Ty.T af) (ps' : List (Ty.T y63)), cur c' /\ ps'.length <= 12 /\ HQ 40 c q r ps ss = ((46 : Int), c', q, r, ps', ss, ()) := by
 have := jO (s := od) (Q := fun v => ∃ (c' : Ty.T af) (ps' : List (Ty.T y63)), cur c' /\ ps'.length <= 12 /\ v = ((46 : Int), c', q, r, ps', ss, ())) (fun k v => ∃ (i : Int) (c : Ty.T af) (ps : List (Ty.T y63)), v = (i, c, q, r, ps, ss, ()) /\ cur c /\ i + k = 46 /\ (ps.length : Int) + 46 <= 12 + i) (fun k v hv => by
  obtain ⟨i, c, ps, rfl, h1, h2, h3⟩ := hv
  unfold od oK
  dsimp only
  by_cases hl : i < 46
  ·have e : IntKind.wrap .i64 (i + 1) = i + 1 := bR (by omega) (by omega)
   rw [decide_eq_true hl, cond_true, p5e (v := (i, i, true, c, q, r, ps, ss, ())) h1 (by show List.length ps <= 100; omega), cond_true, aZ, e]
   exact .inr ⟨rfl, k - 1, by omega, i + 1, _, _, rfl, sW h1, by omega, by rw [List.length_append, List.length_cons, List.length_nil]; omega⟩
  ·have hi : i = 46 := by omega
   subst hi
   rw [decide_eq_false (by omega), cond_false, aZ]
   exact .inl ⟨rfl, c, ps, h1, by omega, rfl⟩) 6 ((40 : Int), c, q, r, ps, ss, ()) (nP ((40 : Int), c, q, r, ps, ss, ())) ⟨40, c, ps, rfl, h, by omega, by omega⟩ (by simp only [nP]; omega)
 exact ⟨this.1.1, this.2⟩
theorem afc {a0 : Ty.T af} (h : cur a0) : Sat (nF a0 some) fun r => cur r.2.1 /\ r.2.2.1.length <= 100 /\ r.2.2.2.length <= 100 := by
 have z := YE h
 have u : cur (ag a0).2.1 /\ 1 <= (ag a0).2.2.1.length /\ (ag a0).2.2.1.length <= 6 /\ (ag a0).2.2.2.length = 2 := (wD h).v
 obtain ⟨u1, u2, u3, u4⟩ := u
 have b := below 18 _ u1
 have b2 := b.2.2
 obtain ⟨y, hy⟩ : ∃ y, (aa 18 (ag a0).2.1) = y := ⟨_, rfl⟩
 obtain ⟨yi, yc⟩ := y
 unfold nF
 rw [z, cond_true, b.1, cond_true]
 unfold zP m4
 rw [hy] at b2 ⊢
 dsimp only at b2 ⊢
 obtain ⟨k4, c', ps', k1, k2, k3⟩ := abt (q := ([], [], 0, 0)) (r := (ag a0).1) (ss := (ag a0).2.2.2) b2 u3
 have q2 := oneOf [(-1), 2, 3] yc (by simp) b2
 have q3 := oneOf [(-1), 0, 9999, 10000] yc (by simp) b2
 cases (yi == (0 : Int))
 ·simp only [cond_false]
  cases (yi == (1 : Int))
  ·simp only [cond_false]
   cases (yi == (2 : Int))
   ·simp only [cond_false]
    cases (yi == (3 : Int))
    ·simp only [cond_false]
     cases (yi == (4 : Int))
     ·simp only [cond_false]
      cases (yi == (5 : Int))
      ·simp only [cond_false]
       cases (yi == (6 : Int))
       ·simp only [cond_false]
        cases (yi == (7 : Int))
        ·rw [cond_false, aZ]
         dsimp only
         exact ⟨b2, by omega, by omega⟩
        ·rw [cond_true, k4, cond_true, aZ, k3]
         dsimp only
         exact ⟨k1, by omega, by omega⟩
       ·rw [cond_true, p5d (by exact b2) (by exact u2), cond_true, aZ]
        dsimp only
        exact ⟨Bk b2, by rw [List.length_set]; omega, by omega⟩
      ·rw [cond_true, if_pos (by omega), aZ]
       dsimp only
       exact ⟨b2, by omega, by rw [List.length_take]; omega⟩
     ·rw [cond_true, p5c (by exact b2) (by dsimp only; omega), cond_true, aZ]
      dsimp only
      exact ⟨Bk b2, by rw [List.length_append, List.length_cons, List.length_nil]; omega, by omega⟩
    ·have p := p5b (v := (yc, ([], [], 0, 0), (ag a0).1, (ag a0).2.2.1, (ag a0).2.2.2, ())) b2 (by dsimp only; omega)
     rw [cond_true, p.1, cond_true, aZ]
     dsimp only
     refine ⟨fY b2, by omega, ?_⟩
     have h9 := p.2
     dsimp only at h9
     exact Nat.le_trans (Nat.le_of_eq h9) (by omega)
   ·rw [cond_true, p5a (by exact b2) (by dsimp only; omega), cond_true, aZ]
    dsimp only
    exact ⟨fY b2, by omega, by rw [List.length_append, List.length_cons, List.length_nil]; omega⟩
  ·rw [cond_true, q3.1, cond_true, aZ]
   dsimp only
   exact ⟨q3.2.2, by omega, by omega⟩
 ·rw [cond_true, q2.1, cond_true, aZ]
  dsimp only
  exact ⟨q2.2.2, by omega, by omega⟩
theorem drR (a : List Int) (ha : (a.length : Int) <= 1099511627776) : d50 a = true /\ (v50 a).1.1.length <= 1048576 /\ (v50 a).1.2.1.length <= 1048576 /\ (v50 a).2.1.length <= 1048576 /\ (∀ x ∈ (v50 a).2.1, x.2.2.2.2.2.2.1.2.2.2.2.2.2.length <= 1048576) /\ (v50 a).2.2.2.length <= 1048576 := by
 have nc := aha a ha
 have z := YN nc.2
 have u := Y4 nc.2
 have key : Sat (t50 a some) fun r => r.1.1.length <= 1048576 /\ r.1.2.1.length <= 1048576 /\ Ty.few 12 (.sl 109 ab) r.2.1 /\ r.2.2.2.length <= 1048576 := by
  obtain ⟨⟨s, l, e, c, cs⟩, hq⟩ : ∃ q, bY (dW a) = q := ⟨_, rfl⟩
  rw [hq] at u
  obtain ⟨⟨u1, u2⟩, u3, u4, u5⟩ := u
  dsimp only at u1 u2 u3 u4 u5
  have b := below 16 c u4
  have fl := eA (B := 8) (C := 12) (by decide) _ _ u3
  unfold t50
  rw [nc.1, cond_true, z, cond_true, hq]
  dsimp only
  rw [b.1, cond_true]
  have q : Sat (vD ([], [], l, (aa 16 c).1, ((aa 16 c).1 == (0 : Int)), ([], [], 0, 0), (0, 0, 0, 0, 0, 0, false), (aa 16 c).2, s, e, cs, ()) some) fun r => Ty.few 12 (.sl 109 ab) r.1 /\ r.2.1.1.length <= 1048576 /\ r.2.1.2.1.length <= 1048576 := by
   unfold vD
   dsimp only
   cases ((aa 16 c).1 == (0 : Int))
   ·rw [cond_false]
    cases ((aa 16 c).1 == (1 : Int))
    ·rw [cond_false]
     cases ((aa 16 c).1 == (2 : Int))
     ·rw [cond_false, aZ]
      exact ⟨fl, by dsimp only; omega, by dsimp only; omega⟩
     ·rw [cond_true, KF b.2.2, cond_true, aZ]
      exact ⟨fl, by dsimp only; omega, by dsimp only; omega⟩
    ·rw [cond_true, XP b.2.2, cond_true, aZ]
     exact ⟨MM b.2.2, by dsimp only; omega, by dsimp only; omega⟩
   ·have w := afc b.2.2
    have w1 : Kw (aa 16 c).2 = true := w.d
    have w2 : cur (qI (aa 16 c).2).2.1 /\ (qI (aa 16 c).2).2.2.1.length <= 100 /\ (qI (aa 16 c).2).2.2.2.length <= 100 := w.v
    rw [cond_true, w1, cond_true, aZ]
    exact ⟨fl, by dsimp only; omega, by dsimp only; omega⟩
  have g : ON ([], [], l, (aa 16 c).1, ((aa 16 c).1 == (0 : Int)), ([], [], 0, 0), (0, 0, 0, 0, 0, 0, false), (aa 16 c).2, s, e, cs, ()) = true := q.d
  have cq : Ty.few 12 (.sl 109 ab) (xE ([], [], l, (aa 16 c).1, ((aa 16 c).1 == (0 : Int)), ([], [], 0, 0), (0, 0, 0, 0, 0, 0, false), (aa 16 c).2, s, e, cs, ())).1 /\ (xE ([], [], l, (aa 16 c).1, ((aa 16 c).1 == (0 : Int)), ([], [], 0, 0), (0, 0, 0, 0, 0, 0, false), (aa 16 c).2, s, e, cs, ())).2.1.1.length <= 1048576 /\ (xE ([], [], l, (aa 16 c).1, ((aa 16 c).1 == (0 : Int)), ([], [], 0, 0), (0, 0, 0, 0, 0, 0, false), (aa 16 c).2, s, e, cs, ())).2.1.2.1.length <= 1048576 := q.v
  rw [g, cond_true, aZ]
  exact ⟨cq.2.1, cq.2.2, cq.1, by dsimp only; omega⟩
 have kv : (v50 a).1.1.length <= 1048576 /\ (v50 a).1.2.1.length <= 1048576 /\ Ty.few 12 (.sl 109 ab) (v50 a).2.1 /\ (v50 a).2.2.2.length <= 1048576 := key.v
 have kf := kv.2.2.1
 exact ⟨key.d, kv.1, kv.2.1, Nat.le_trans kf.1 (by decide), fun x hx => Nat.le_trans (kf.2 x hx).2.2.2.2.2.2.1.2.2.2.2.2.2.1 (by decide), kv.2.2.2⟩
theorem ZG (cs : List (Ty.T (.int .i64))) (n : Nat) (hcs : cs.length <= 1048576) : d57 cs (cs.drop n) = true /\ v57 cs (cs.drop n) = true := by
 have hl : (cs.drop n).length <= cs.length := by rw [List.length_drop]; omega
 have hw : IntKind.wrap .i64 ((cs.length : Int) - ((cs.drop n).length : Int)) = ((cs.length - (cs.drop n).length : Nat) : Int) := by rw [bR (by omega) (by omega)]; omega
 have hd : (cs.take cs.length).drop (cs.length - (cs.drop n).length) = cs.drop n := by
  rw [List.take_length, List.length_drop]
  by_cases h : n <= cs.length
  ·congr 1; omega
  ·rw [List.drop_of_length_le (by omega), List.drop_of_length_le (by omega)]
 have r := LR (cs.drop n) (by omega)
 unfold d57 v57
 rw [hw, Int.toNat_natCast, hd, r.1, r.2, decide_eq_true (show ((cs.drop n).length : Int) <= (cs.length : Int) by omega)]
 simp
theorem aca (s : Ty.T y36) (e : Ty.T y27) (A : List (Ty.T y27)) (T : List (Ty.T ab)) (C : List (Ty.T (.int .i64))) (U : List (Ty.T y66)) (cs : List (Ty.T (.int .i64))) (hA : A.length <= 1048576) (hv : ∀ y ∈ A, cu y = true /\ mA y = false) : Ub false 0 s e A T C U cs 0 = false /\ Ub false 0 s e A T C U cs 1 = true /\ aa0 false 0 s e A T C U cs = (false, (A.length : Int), s, e, A, T, C, U, cs, ()) := by
 have h := gp (s := M1) (mk := fun i => (false, i, s, e, A, T, C, U, cs, ())) (c := 1) (N := A.length) (fun i hi => by
  have r := hv _ (List.getElem_mem hi)
  have hx : A[i]? = some A[i] := List.getElem?_eq_getElem hi
  have g0 : (0 : Int) <= (i : Int) := by omega
  have g1 : (i : Int) < (A.length : Int) := by omega
  have e1 : v53 A[i] = true := by rw [Al]; exact r.1
  have e2 : v54 A[i] = false := r.2
  have key : ∀ a b c f g, Fx (a, (i : Int), b, c, f, s, e, A, g, C, U, cs, ()) some = some (A[i], true, false, false, false) := fun a b c f g => by
   unfold Fx
   dsimp only
   rw [if_pos g0, if_pos g1, Int.toNat_natCast, hx, aA, e1]
   simp only [Bool.not_true, cond_false]
   rw [if_pos g0, if_pos g1, aA, e2]
  unfold M1 Mr YG Y7
  dsimp only
  rw [decide_eq_true g1, cond_true, key]
  simp only [Option.isSome_some, Option.getD_some, cond_true, cond_false, aX (n := i) (by omega)]) (by simp [M1, Mr]) A.length 0 (PF (false, 0, s, e, A, T, C, U, cs, ())) (by omega) (by simp only [PF]; omega)
 exact ⟨aS h 0, aS h 1, bp h⟩
theorem ZT (s : Ty.T y36) (e : Ty.T y27) (A : List (Ty.T y27)) (T : List (Ty.T ab)) (C : List (Ty.T (.int .i64))) (U : List (Ty.T y66)) (cs : List (Ty.T (.int .i64))) (hU : U.length <= 1048576) (hv : ∀ t ∈ U, d55 t = true /\ v55 t = true) : Td false 0 s e A T C U cs 0 = false /\ Td false 0 s e A T C U cs 1 = true /\ abN false 0 s e A T C U cs = (false, (U.length : Int), s, e, A, T, C, U, cs, ()) := by
 have h := gp (s := MG) (mk := fun i => (false, i, s, e, A, T, C, U, cs, ())) (c := 1) (N := U.length) (fun i hi => by
  have r := hv _ (List.getElem_mem hi)
  have hx : U[i]? = some U[i] := List.getElem?_eq_getElem hi
  have g0 : (0 : Int) <= (i : Int) := by omega
  have g1 : (i : Int) < (U.length : Int) := by omega
  unfold MG MY
  dsimp only
  rw [decide_eq_true g1, cond_true, if_pos g0, if_pos g1, Int.toNat_natCast, hx, aA, r.1, r.2]
  simp only [Bool.not_true, cond_true, cond_false, aX (n := i) (by omega)]) (by simp [MG, MY]) U.length 0 (OS (false, 0, s, e, A, T, C, U, cs, ())) (by omega) (by simp only [OS]; omega)
 exact ⟨aS h 0, aS h 1, bp h⟩
theorem aje (e : Ty.T y27) (A A2 : List (Ty.T y27)) (T T2 : List (Ty.T ab)) (C2 cs : List (Ty.T (.int .i64))) (U U2 : List (Ty.T y66)) (n : Nat) (hcs : cs.length <= 1048576) (hA : A2 = cond (v54 e) [] [e]) (hU : U2 = []) :
  T4 (false, (n : Int), IntKind.wrap .i64 ((cs.length : Int) - ((cs.drop n).length : Int)), e, A, A2, T, T2, cs.drop n, C2, U, U2, cs, ()) = true /\ U3 (false, (n : Int), IntKind.wrap .i64 ((cs.length : Int) - ((cs.drop n).length : Int)), e, A, A2, T, T2, cs.drop n, C2, U, U2, cs, ()) = true := by
 have ed := ZG cs n hcs
 have key : Hp (false, (n : Int), IntKind.wrap .i64 ((cs.length : Int) - ((cs.drop n).length : Int)), e, A, A2, T, T2, cs.drop n, C2, U, U2, cs, ()) some = some true := by
  unfold Hp
  dsimp only
  rw [ed.1, ed.2, cond_true, cond_true]
  subst hU
  by_cases h : n <= cs.length
  ·have hw : IntKind.wrap .i64 ((cs.length : Int) - ((cs.drop n).length : Int)) = (n : Int) := by
    rw [List.length_drop, bR (by omega) (by omega)]
    omega
   rw [hw, beq_self_eq_true, cond_true]
   cases hg : v54 e <;> rw [hg] at hA <;> subst hA <;> simp [aA]
  ·have hd : cs.drop n = [] := List.drop_of_length_le (by omega)
   have hw : IntKind.wrap .i64 ((cs.length : Int) - ((cs.drop n).length : Int)) = (cs.length : Int) := by
    rw [hd, List.length_nil, bR (by omega) (by omega)]
    omega
   rw [hw, show ((cs.length : Int) == (n : Int)) = false from beq_eq_false_iff_ne.2 (by omega), decide_eq_true (show (cs.length : Int) < (n : Int) by omega), hd]
   cases hg : v54 e <;> rw [hg] at hA <;> subst hA <;> simp [aA]
 unfold T4 U3
 rw [key]
 exact ⟨rfl, rfl⟩
theorem acN (s : Ty.T y36) (e : Ty.T y27) (cs : List (Ty.T (.int .i64))) (hb : s.1.length <= 1048576) (hs : s.2.1.length <= 1048576) : rwM s [] e cs = cond (kj s && cu e) (cond (v54 e) [] [e], [], cs, []) ([], [], cs, []) := by
 have ht : pD [] = true := rfl
 have ho : ej s [] e [] = [] := (Ql s [] e [] hb hs (by simp) (by simp) (fun x hx => by cases hx)).2
 unfold rwM
 rw [ht, Bool.and_true]
 cases (kj s && cu e)
 ·rfl
 ·simp only [cond_true]
  rw [mw, ho]
  rfl
theorem law (a0 : List (Ty.T (.int .u8))) (w0 : Ty.ok (.sl 5 (.int .u8)) a0) : d7 a0 = true /\ v7 a0 = true := by
 unfold d7 v7
 cases hb : v28 a0 with
 | true => exact ⟨rfl, rfl⟩
 | false =>
  have hl : a0.length <= 1048576 := by
   have : ¬ ((a0.length : Int) > 1048576) := of_decide_eq_false hb
   omega
  obtain ⟨dr1, g1, g2, g3, g4, g5⟩ := drR a0 (by omega)
  obtain ⟨⟨s, l, e, cs⟩, hq⟩ : ∃ q, v50 a0 = q := ⟨_, rfl⟩
  rw [hq] at g1 g2 g3 g4 g5
  dsimp only at g1 g2 g3 g4 g5
  obtain ⟨r1, r2, r3, r4, r5, r6, r7, r8, r9, r10⟩ := rewrite s l e cs g1 g2 g3 g4 g5
  obtain ⟨q1, q2, q3, q4⟩ := rwV s l e cs g1 g2 g3 g4 g5
  have sf := UZ (rwM s l e cs) r5 (by rw [r6]; exact g3) r7 r8 r9 r10
  obtain ⟨⟨A, T, C, U⟩, hM⟩ : ∃ q, rwM s l e cs = q := ⟨_, rfl⟩
  rw [hM] at r3 r4 r5 r9 q1 q2 q3 q4 sf
  dsimp only at r5 r9 q1 q2 q3 q4
  obtain ⟨y1, y2, y3, y4, -⟩ := rewrite s [] e cs g1 g2 (by simp) (fun x hx => by cases hx) g5
  have hN := acN s e cs g1 g2
  have nI := aaK (A, T, C, U) r9
  have sO := Ln s g1 g2
  have E0 : RU a0 = true := by unfold RU; rw [hq]; dsimp only; rw [r4, r3]; exact sf.1
  have E1 : Pf a0 = true := by unfold Pf; rw [hq]; dsimp only; rw [r4, r3]; exact sf.2
  obtain ⟨k0, k1, kw⟩ := aca s e A T C U cs r5 q1
  have E2 : fF a0 = (false, (A.length : Int), s, e, A, T, C, U, cs, ()) := by unfold fF; rw [hq]; dsimp only; rw [r4]; exact kw
  have E3 : Qg a0 = false := by unfold Qg; rw [hq]; dsimp only; rw [r4]; exact k0
  have E4 : NV a0 = true := by unfold NV; rw [hq]; dsimp only; rw [r4]; exact k1
  obtain ⟨t0, t1, tw⟩ := ZT s e A T C U cs r9 q2
  have E5 : cC a0 = (false, (U.length : Int), s, e, A, T, C, U, cs, ()) := by unfold cC; rw [E2]; exact tw
  have E6 : R6 a0 = false := by unfold R6; rw [E2]; exact t0
  have E7 : RB a0 = true := by unfold RB; rw [E2]; exact t1
  have E8 : OH a0 = true := by unfold OH; rw [E5]; exact y2
  have E9 : jM a0 = rwM s [] e cs := by unfold jM; rw [E5]; exact y4
  have E10 : Fi a0 = true := by unfold Fi; rw [E5]; exact nI.1
  have E11 : yo a0 = (jZ U : Int) := by unfold yo; rw [E5]; exact nI.2
  have E15 : EY a0 = true /\ H2 a0 = !(kj s && cu e) := by
   unfold EY H2
   rw [E5]
   unfold Xr YM L1
   dsimp only
   rw [sO.2.1, sO.2.2, Al]
   cases kj s <;> cases cu e <;> exact ⟨rfl, rfl⟩
  have r42 : d42 s l e cs = true := r2
  rw [dr1, hq, E0, E1, E2, E3, E4, E5, E6, E7, E8, E10, E15.1, E15.2]
  dsimp only
  rw [r1, r42]
  cases hok : (kj s && cu e)
  ·have hA := q4 hok
   have E12 : Li a0 = true := by
    unfold Li
    rw [E5, E9, hN, hok, hA]
    rfl
   rw [E12]
   exact ⟨rfl, rfl⟩
  ·have p := aje e A (cond (v54 e) [] [e]) T [] cs cs U [] (jZ U) g5 rfl rfl
   have E13 : Hf a0 = true := by
    unfold Hf
    rw [E5, E9, E11, hN, hok, q3]
    exact p.1
   have E14 : KP a0 = true := by
    unfold KP
    rw [E5, E9, E11, hN, hok, q3]
    exact p.2
   rw [E13, E14]
   exact ⟨rfl, rfl⟩
end Go.Proofs.YtahlaccdpmddbaaGreat.Vm
namespace Go.Proofs.YtahlaccdpmddbaaGreat.Pure
open Go Go.Proofs.YtahlaccdpmddbaaGreat.Lib Go.Proofs.YtahlaccdpmddbaaGreat.Vm
theorem fnRewrites : Go.Proofs.YtahlaccdpmddbaaGreat.fnRewrites.Pure := fun a0 w0 => by
  have h := law a0 w0
  show cond (d7 a0) (some (f7 (v7 a0))) none = _
  rw [h.1, h.2]
  rfl
end Go.Proofs.YtahlaccdpmddbaaGreat.Pure
