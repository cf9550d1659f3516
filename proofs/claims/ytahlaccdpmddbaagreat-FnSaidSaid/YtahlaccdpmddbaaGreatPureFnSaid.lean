/- FnSaid: the law holds of the plain functions that the contracts name. No condition. -/
import Derived.Test.YtahlaccdpmddbaaGreatVmRowFnSaid
import Derived.Test.YtahlaccdpmddbaaGreatVmLibThree
namespace Go.Proofs.YtahlaccdpmddbaaGreat.Vm
open Go Go.Proofs.YtahlaccdpmddbaaGreat.Lib
set_option maxRecDepth 100000
set_option linter.unusedVariables false
set_option linter.unusedSimpArgs false
theorem YT (a : Int) (b : Int) (c : Int) (d : Int) (n : Int) (z : Int) (t : Bool) : v53 ((a, b, c, d, n, z, t) : Ty.T y27) = c8 ((a, b, c, d, n, z, t) : Ty.T y27) := by
  simp only [v53, t53, c8, t157, bt, cu, sa, nu, eD, v164, pB, tS]
  dsimp only [Ty.T]
  have cc : ∀ (p q r : Bool), cond p q r = true ↔ (p = true /\ q = true) ∨ (p = false /\ r = true) := by decide
  have cf : ∀ (p q r : Bool), cond p q r = false ↔ (p = true /\ q = false) ∨ (p = false /\ r = false) := by decide
  by_cases h1 : a = 1
  · subst h1; rw [Bool.eq_iff_iff]; cases t <;> simp [cc, cf, *] <;> omega
  by_cases h2 : a = 2
  · subst h2; rw [Bool.eq_iff_iff]; cases t <;> simp [cc, cf, *] <;> omega
  by_cases h3 : a = 3
  · subst h3; rw [Bool.eq_iff_iff]; cases t <;> simp [cc, cf, *] <;> omega
  by_cases h4 : a = 4
  · subst h4; rw [Bool.eq_iff_iff]; cases t <;> simp [cc, cf, *] <;> omega
  by_cases h5 : a = 5
  · subst h5; rw [Bool.eq_iff_iff]; cases t <;> simp [cc, cf, *] <;> omega
  by_cases h6 : a = 6
  · subst h6; rw [Bool.eq_iff_iff]; cases t <;> simp [cc, cf, *] <;> omega
  rw [Bool.eq_iff_iff]; cases t <;> simp [cc, cf, *] <;> omega
theorem M0 (e : Ty.T y27) : v53 e = c8 e := by
  obtain ⟨a, b, c, d, n, z, t⟩ := e
  exact YT a b c d n z t
theorem VM (a b c d z : Int) (t : Bool) : c8 ((a, b, c, d, -1, z, t) : Ty.T y27) = false := by
  simp only [c8, t157, bt]
  dsimp only [Ty.T]
  have cc : ∀ (p q r : Bool), cond p q r = true ↔ (p = true /\ q = true) ∨ (p = false /\ r = true) := by decide
  have cf : ∀ (p q r : Bool), cond p q r = false ↔ (p = true /\ q = false) ∨ (p = false /\ r = false) := by decide
  cases t <;> simp [cc, cf]
theorem TO (e : Ty.T y27) : KX e = lA e := by
  obtain ⟨a, b, c, d, n, z, t⟩ := e
  have h := VM a b c d z t
  simp only [KX, lA, M0]
  by_cases hn : n = (-1 : Int)
  · subst hn
    rw [h]
    cases (a == (2 : Int)) <;> simp [bne, *]
  · have h1 : (n == (-1 : Int)) = false := by simpa using hn
    simp only [h1]
    cases (c8 (a, b, c, d, n, z, t)) <;> cases (a == (2 : Int)) <;> simp [bne, *]
theorem TJ (k : Int) (w : Int) (s : Int) (p : Int) (l : Int) (t : Int) (z : Int) : yl ((k, w, s, p, l, t, z) : Ty.T bS) = tU ((k, w, s, p, l, t, z) : Ty.T bS) := by
  simp only [yl, t283, tU, t297, bt, cu, sa, Le, Lt]
  dsimp only [Ty.T]
  have cc : ∀ (p q r : Bool), cond p q r = true ↔ (p = true /\ q = true) ∨ (p = false /\ r = true) := by decide
  have cf : ∀ (p q r : Bool), cond p q r = false ↔ (p = true /\ q = false) ∨ (p = false /\ r = false) := by decide
  by_cases h1 : k = 1
  · subst h1; rw [Bool.eq_iff_iff]; simp [cc, cf, *] <;> omega
  by_cases h2 : k = 2
  · subst h2; rw [Bool.eq_iff_iff]; simp [cc, cf, *] <;> omega
  by_cases h3 : k = 3
  · subst h3; rw [Bool.eq_iff_iff]; simp [cc, cf, *] <;> omega
  by_cases h4 : k = 4
  · subst h4; rw [Bool.eq_iff_iff]; simp [cc, cf, *] <;> omega
  by_cases h5 : k = 5
  · subst h5; rw [Bool.eq_iff_iff]; simp [cc, cf, *] <;> omega
  by_cases h6 : k = 6
  · subst h6; rw [Bool.eq_iff_iff]; simp [cc, cf, *] <;> omega
  rw [Bool.eq_iff_iff]; simp [cc, cf, *] <;> omega
theorem RE (e : Ty.T bS) : yl e = tU e := by
  obtain ⟨k, w, s, p, l, t, z⟩ := e
  exact TJ k w s p l t z
theorem Mg (k : Int) (n : Int) : uV ((k, n) : Ty.T aB) = we ((k, n) : Ty.T aB) := by
  simp only [uV, t284, we, t298, bt, cu, dZ]
  dsimp only [Ty.T]
  have cc : ∀ (p q r : Bool), cond p q r = true ↔ (p = true /\ q = true) ∨ (p = false /\ r = true) := by decide
  have cf : ∀ (p q r : Bool), cond p q r = false ↔ (p = true /\ q = false) ∨ (p = false /\ r = false) := by decide
  by_cases h0 : k = 0
  · subst h0; rw [Bool.eq_iff_iff]; simp [cc, cf, *] <;> omega
  by_cases h1 : k = 1
  · subst h1; rw [Bool.eq_iff_iff]; simp [cc, cf, *] <;> omega
  by_cases h2 : k = 2
  · subst h2; rw [Bool.eq_iff_iff]; simp [cc, cf, *] <;> omega
  by_cases h3 : k = 3
  · subst h3; rw [Bool.eq_iff_iff]; simp [cc, cf, *] <;> omega
  by_cases h4 : k = 4
  · subst h4; rw [Bool.eq_iff_iff]; simp [cc, cf, *] <;> omega
  by_cases h5 : k = 5
  · subst h5; rw [Bool.eq_iff_iff]; simp [cc, cf, *] <;> omega
  rw [Bool.eq_iff_iff]; simp [cc, cf, *] <;> omega
theorem Ka (e : Ty.T aB) : uV e = we e := by
  obtain ⟨k, n⟩ := e
  exact Mg k n
theorem Rh (a : Ty.T bo) (hb : a.2.2.2.2.2.2.length <= 1048576) : (a.2.2.2.2.2.2.any (fun x => !lA x) = true /\ w9 false 0 a 0 = true /\ ∃ j : Nat, xl false 0 a = (false, (j : Int), a, ())) ∨ (a.2.2.2.2.2.2.any (fun x => !lA x) = false /\ w9 false 0 a 0 = false /\ w9 false 0 a 1 = true /\ xl false 0 a = (false, (a.2.2.2.2.2.2.length : Int), a, ())) := by
  have h := dm (s := rC) (mk := fun i => (false, i, a, ())) (fin := fun i => (false, (i : Int), a, ())) (p := fun i => match a.2.2.2.2.2.2[i]? with | some x => !lA x | none => false) (N := a.2.2.2.2.2.2.length) (fun i hi => by
    have h1 := List.getElem?_eq_getElem hi
    simp only [h1]
    skip
    cases ht : (lA a.2.2.2.2.2.2[i] : Bool) <;> simp [rC, rr, ay, hi, h1, ht,  bE (n := i) (by omega)]) (by simp [rC, rr]) a.2.2.2.2.2.2.length 0 (wB (false, 0, a, ())) (by omega) (by simp only [wB]; omega)
  have hf := gI (p := fun x => !lA x) (xs := a.2.2.2.2.2.2) (q := fun i => match a.2.2.2.2.2.2[i]? with | some x => !lA x | none => false) (fun i x h1 => by simp only [h1])
  revert h hf
  generalize first _ 0 a.2.2.2.2.2.2.length = o
  intro h hf
  cases o with
  | none => exact .inr ⟨hf.symm, bg h 0, bg h 1, bD h⟩
  | some j => exact .inl ⟨hf.symm, bg h 0, j, bD h⟩
theorem Mu (l : List (Ty.T y27)) (hb : l.length <= 1048576) : (l.any (fun x => !lA x) = true /\ e9 l 0 ((l).length : Int) 0 0 = true /\ ∃ j : Nat, qK l 0 ((l).length : Int) 0 = (l, (j : Int), ((l).length : Int), (j : Int), ())) ∨ (l.any (fun x => !lA x) = false /\ e9 l 0 ((l).length : Int) 0 0 = false /\ e9 l 0 ((l).length : Int) 0 1 = true /\ qK l 0 ((l).length : Int) 0 = (l, 0, ((l).length : Int), (l.length : Int), ())) := by
  have h := dm (s := jG) (mk := fun i => (l, 0, ((l).length : Int), i, ())) (fin := fun i => (l, (i : Int), ((l).length : Int), (i : Int), ())) (p := fun i => match l[i]? with | some x => !lA x | none => false) (N := l.length) (fun i hi => by
    have h1 := List.getElem?_eq_getElem hi
    simp only [h1]
    skip
    cases ht : (lA l[i] : Bool) <;> simp [jG, jA, ay, hi, h1, ht, QA, TO, bE (n := i) (by omega)]) (by simp [jG, jA]) l.length 0 (mM (l, 0, ((l).length : Int), 0, ())) (by omega) (by simp only [mM]; omega)
  have hf := gI (p := fun x => !lA x) (xs := l) (q := fun i => match l[i]? with | some x => !lA x | none => false) (fun i x h1 => by simp only [h1])
  revert h hf
  generalize first _ 0 l.length = o
  intro h hf
  cases o with
  | none => exact .inr ⟨hf.symm, bg h 0, bg h 1, bD h⟩
  | some j => exact .inl ⟨hf.symm, bg h 0, j, bD h⟩
theorem Rw (l : List (Ty.T y27)) (hb : l.length <= 1048576) : xN l = true /\ xE l = l.any (fun x => !lA x) := by
  unfold xN xE sf xe
  rcases Mu l hb with ⟨hB, e0, j, hw⟩ | ⟨hB, e0, e1, hw⟩
  · rw [e0, hw, hB]
    exact ⟨rfl, decide_eq_true (show ((j : Int)) ≥ 0 by omega)⟩
  · rw [e0, e1, hB]
    exact ⟨rfl, rfl⟩
theorem Oo (k n p s z kind : Int) (b : Bool) (l : List (Ty.T y27)) : Bg ((k, n, p, s, z, b, l) : Ty.T bo) kind = lF ((k, n, p, s, z, b, l) : Ty.T bo) kind := by
  simp only [Bg, t286, lF, t271, bt, cu, Le]
  dsimp only [Ty.T]
  have cc : ∀ (p q r : Bool), cond p q r = true ↔ (p = true /\ q = true) ∨ (p = false /\ r = true) := by decide
  have cf : ∀ (p q r : Bool), cond p q r = false ↔ (p = true /\ q = false) ∨ (p = false /\ r = false) := by decide
  by_cases h1 : k = 1
  · subst h1; rw [Bool.eq_iff_iff]; simp [cc, cf] <;> omega
  by_cases h2 : k = 2
  · subst h2; rw [Bool.eq_iff_iff]; simp [cc, cf] <;> omega
  by_cases h3 : k = 3
  · subst h3; rw [Bool.eq_iff_iff]; simp [cc, cf] <;> omega
  by_cases h4 : k = 4
  · subst h4; rw [Bool.eq_iff_iff]; simp [cc, cf] <;> omega
  by_cases h5 : k = 5
  · subst h5; rw [Bool.eq_iff_iff]; simp [cc, cf] <;> omega
  by_cases h6 : k = 6
  · subst h6; rw [Bool.eq_iff_iff]; simp [cc, cf] <;> omega
  by_cases h7 : k = 7
  · subst h7; rw [Bool.eq_iff_iff]; simp [cc, cf] <;> omega
  by_cases h8 : k = 8
  · subst h8; rw [Bool.eq_iff_iff]; simp [cc, cf] <;> omega
  by_cases h9 : k = 9
  · subst h9; rw [Bool.eq_iff_iff]; simp [cc, cf] <;> omega
  rw [Bool.eq_iff_iff]; simp [cc, cf, *] <;> omega
theorem I9 (a : Ty.T bo) (kind : Int) : Bg a kind = lF a kind := by
  obtain ⟨k, n, p, s, z, b, l⟩ := a
  exact Oo k n p s z kind b l
theorem So (k n p s z : Int) (b : Bool) (l : List (Ty.T y27)) (hb : l.length <= 1048576) : d299 ((k, n, p, s, z, b, l) : Ty.T bo) = true /\ d285 ((k, n, p, s, z, b, l) : Ty.T bo) = true /\ rH ((k, n, p, s, z, b, l) : Ty.T bo) = yy ((k, n, p, s, z, b, l) : Ty.T bo) := by
  have hi := Rw l hb
  have hs := Rh ((k, n, p, s, z, b, l) : Ty.T bo) hb
  dsimp only at hs
  have cc : ∀ (p q r : Bool), cond p q r = true ↔ (p = true /\ q = true) ∨ (p = false /\ r = true) := by decide
  have cf : ∀ (p q r : Bool), cond p q r = false ↔ (p = true /\ q = false) ∨ (p = false /\ r = false) := by decide
  rcases hs with ⟨hB, e0, j, hw⟩ | ⟨hB, e0, e1, hw⟩
  · simp only [d299, t299, d285, t285, yy, rH, AK, rh, C0, rP, CV, rT, Cn, te, Dh, rM, B6, rl, AD, sJ, Aw, rE, vG, ov, Bd, ra, wv, mS, uW, id, nfs, K2, bt, cu, nu, v164, tS, hi.1, hi.2, hB, e0, hw]
    dsimp only [Ty.T]
    have hl : 0 <= (List.length (α := Ty.T y27) l : Int) := by omega
    generalize (List.length (α := Ty.T y27) l : Int) = m at hl
    by_cases h1 : k = 1
    · subst h1; refine ⟨by simp, by simp, ?_⟩; rw [Bool.eq_iff_iff]; cases b <;> simp [cc, cf, *] <;> omega
    by_cases h2 : k = 2
    · subst h2; refine ⟨by simp, by simp, ?_⟩; rw [Bool.eq_iff_iff]; cases b <;> simp [cc, cf, *] <;> omega
    by_cases h3 : k = 3
    · subst h3; refine ⟨by simp, by simp, ?_⟩; rw [Bool.eq_iff_iff]; cases b <;> simp [cc, cf, *] <;> omega
    by_cases h4 : k = 4
    · subst h4; refine ⟨by simp, by simp, ?_⟩; rw [Bool.eq_iff_iff]; cases b <;> simp [cc, cf, *] <;> omega
    by_cases h5 : k = 5
    · subst h5; refine ⟨by simp, by simp, ?_⟩; rw [Bool.eq_iff_iff]; cases b <;> simp [cc, cf, *] <;> omega
    by_cases h6 : k = 6
    · subst h6; refine ⟨by simp, by simp, ?_⟩; rw [Bool.eq_iff_iff]; cases b <;> simp [cc, cf, *] <;> omega
    by_cases h7 : k = 7
    · subst h7; refine ⟨by simp, by simp, ?_⟩; rw [Bool.eq_iff_iff]; cases b <;> simp [cc, cf, *] <;> omega
    by_cases h8 : k = 8
    · subst h8; refine ⟨by simp, by simp, ?_⟩; rw [Bool.eq_iff_iff]; cases b <;> simp [cc, cf, *] <;> omega
    by_cases h9 : k = 9
    · subst h9; refine ⟨by simp, by simp, ?_⟩; rw [Bool.eq_iff_iff]; cases b <;> simp [cc, cf, *] <;> omega
    refine ⟨by simp [*], by simp [*], ?_⟩; rw [Bool.eq_iff_iff]; cases b <;> simp [cc, cf, *] <;> omega
  · simp only [d299, t299, d285, t285, yy, rH, AK, rh, C0, rP, CV, rT, Cn, te, Dh, rM, B6, rl, AD, sJ, Aw, rE, vG, ov, Bd, ra, wv, mS, uW, id, nfs, K2, bt, cu, nu, v164, tS, hi.1, hi.2, hB, e0, e1, hw]
    dsimp only [Ty.T]
    have hl : 0 <= (List.length (α := Ty.T y27) l : Int) := by omega
    generalize (List.length (α := Ty.T y27) l : Int) = m at hl
    by_cases h1 : k = 1
    · subst h1; refine ⟨by simp, by simp, ?_⟩; rw [Bool.eq_iff_iff]; cases b <;> simp [cc, cf, *] <;> omega
    by_cases h2 : k = 2
    · subst h2; refine ⟨by simp, by simp, ?_⟩; rw [Bool.eq_iff_iff]; cases b <;> simp [cc, cf, *] <;> omega
    by_cases h3 : k = 3
    · subst h3; refine ⟨by simp, by simp, ?_⟩; rw [Bool.eq_iff_iff]; cases b <;> simp [cc, cf, *] <;> omega
    by_cases h4 : k = 4
    · subst h4; refine ⟨by simp, by simp, ?_⟩; rw [Bool.eq_iff_iff]; cases b <;> simp [cc, cf, *] <;> omega
    by_cases h5 : k = 5
    · subst h5; refine ⟨by simp, by simp, ?_⟩; rw [Bool.eq_iff_iff]; cases b <;> simp [cc, cf, *] <;> omega
    by_cases h6 : k = 6
    · subst h6; refine ⟨by simp, by simp, ?_⟩; rw [Bool.eq_iff_iff]; cases b <;> simp [cc, cf, *] <;> omega
    by_cases h7 : k = 7
    · subst h7; refine ⟨by simp, by simp, ?_⟩; rw [Bool.eq_iff_iff]; cases b <;> simp [cc, cf, *] <;> omega
    by_cases h8 : k = 8
    · subst h8; refine ⟨by simp, by simp, ?_⟩; rw [Bool.eq_iff_iff]; cases b <;> simp [cc, cf, *] <;> omega
    by_cases h9 : k = 9
    · subst h9; refine ⟨by simp, by simp, ?_⟩; rw [Bool.eq_iff_iff]; cases b <;> simp [cc, cf, *] <;> omega
    refine ⟨by simp [*], by simp [*], ?_⟩; rw [Bool.eq_iff_iff]; cases b <;> simp [cc, cf, *] <;> omega
theorem Sj (a : Ty.T bo) (hb : a.2.2.2.2.2.2.length <= 1048576) : d299 a = true /\ d285 a = true /\ rH a = yy a := by
  obtain ⟨k, n, p, s, z, b, l⟩ := a
  exact So k n p s z b l hb
theorem Ku (i1 i2 i3 i4 : Int) (p : Ty.T bS) (g : Ty.T aB) (a : Ty.T bo) (u l : Int) (hb : a.2.2.2.2.2.2.length <= 1048576) : d242 ((i1, i2, i3, i4, p, g, a, u, l) : Ty.T aq) = true /\ d227 ((i1, i2, i3, i4, p, g, a, u, l) : Ty.T aq) = true /\ yA ((i1, i2, i3, i4, p, g, a, u, l) : Ty.T aq) = ga ((i1, i2, i3, i4, p, g, a, u, l) : Ty.T aq) := by
  have ha := Sj a hb
  simp only [d242, t242, d227, t227, ga, yA, bt, cu, nu, v164, RE, Ka, I9, ha.1, ha.2.1, ha.2.2, nfs]
  generalize tU p = b1
  generalize we g = b2
  generalize lF a p.1 = b3
  generalize yy a = b4
  generalize (a.1 == (2 : Int)) = b5
  dsimp only [Ty.T]
  have cc : ∀ (p q r : Bool), cond p q r = true ↔ (p = true /\ q = true) ∨ (p = false /\ r = true) := by decide
  have cf : ∀ (p q r : Bool), cond p q r = false ↔ (p = true /\ q = false) ∨ (p = false /\ r = false) := by decide
  cases b5
  · cases b1 <;> cases b2 <;> cases b3 <;> cases b4 <;> (refine ⟨by simp, by simp, ?_⟩; rw [Bool.eq_iff_iff]; simp [cc, cf] <;> omega)
  · cases b1 <;> cases b2 <;> cases b3 <;> cases b4 <;> (refine ⟨by simp, by simp, ?_⟩; rw [Bool.eq_iff_iff]; simp [cc, cf] <;> omega)
theorem km (e : Ty.T aq) (hb : e.2.2.2.2.2.2.1.2.2.2.2.2.2.length <= 1048576) : d242 e = true /\ d227 e = true /\ yA e = ga e := by
  obtain ⟨i1, i2, i3, i4, p, g, a, u, l⟩ := e
  exact Ku i1 i2 i3 i4 p g a u l hb
theorem wA {V W : Type} {s1 : V -> Option (Nat × V)} {s2 : W -> Option (Nat × W)} {mk1 : Int -> V} {mk2 : Int -> W} {fin1 : Nat -> V} {fin2 : Nat -> W} {N : Nat}
    (h : ∀ i : Nat, i < N -> (s1 (mk1 (i : Int)) = some (0, mk1 ((i + 1 : Nat) : Int)) /\ s2 (mk2 (i : Int)) = some (0, mk2 ((i + 1 : Nat) : Int))) ∨ (s1 (mk1 (i : Int)) = some (1, fin1 i) /\ s2 (mk2 (i : Int)) = some (1, fin2 i)))
    (e1 : s1 (mk1 (N : Int)) = some (2, mk1 (N : Int))) (e2 : s2 (mk2 (N : Int)) = some (2, mk2 (N : Int))) : ∀ (k i n m : Nat), i + k = N -> k < n -> k < m ->
    (∃ j, iter s1 n (mk1 (i : Int)) = some (0, fin1 j) /\ iter s2 m (mk2 (i : Int)) = some (0, fin2 j)) ∨ (iter s1 n (mk1 (i : Int)) = some (1, mk1 (N : Int)) /\ iter s2 m (mk2 (i : Int)) = some (1, mk2 (N : Int)))
  | 0, i, n, m, hk, hn, hm => by
    obtain ⟨n, rfl⟩ : ∃ x, n = x + 1 := ⟨n - 1, by omega⟩
    obtain ⟨m, rfl⟩ : ∃ x, m = x + 1 := ⟨m - 1, by omega⟩
    have : i = N := by omega
    subst this
    exact .inr ⟨by rw [iter, e1]; rfl, by rw [iter, e2]; rfl⟩
  | k + 1, i, n, m, hk, hn, hm => by
    obtain ⟨n, rfl⟩ : ∃ x, n = x + 1 := ⟨n - 1, by omega⟩
    obtain ⟨m, rfl⟩ : ∃ x, m = x + 1 := ⟨m - 1, by omega⟩
    rcases h i (by omega) with ⟨a, b⟩ | ⟨a, b⟩
    · rw [iter, a, iter, b]
      exact wA h e1 e2 k (i + 1) n m (by omega) (by omega) (by omega)
    · exact .inl ⟨i, by rw [iter, a]; rfl, by rw [iter, b]; rfl⟩
theorem Au (j : Nat) (h : (j : Int) <= 9223372036854775806) : IntKind.wrap .i64 (((j + 1 : Nat) : Int) - 1) = (j : Int) := by rw [ba (by omega) (by omega)]; omega
theorem OP (a : Int) (b : Int) (c : Int) (d : Int) (e : Int) (f : Int) (g : Int) (h : Int) (p : Int) (q : Int) (r : Int) (s : Bool) (t : Bool) : MU ((a, b, c, d, e, f, g, h, p, q, r, s, t) : Ty.T y63) = DU ((a, b, c, d, e, f, g, h, p, q, r, s, t) : Ty.T y63) := by
  simp only [MU, t170, DU, t240, bt, cu, nu, v164, tS, Kj, Lt, sa]
  dsimp only [Ty.T]
  have cc : ∀ (p q r : Bool), cond p q r = true ↔ (p = true /\ q = true) ∨ (p = false /\ r = true) := by decide
  have cf : ∀ (p q r : Bool), cond p q r = false ↔ (p = true /\ q = false) ∨ (p = false /\ r = false) := by decide
  rw [Bool.eq_iff_iff]; cases s <;> cases t <;> simp [cc, cf, *] <;> omega
theorem Cy (e : Ty.T y63) : MU e = DU e := by
  obtain ⟨a, b, c, d, e, f, g, h, p, q, r, s, t⟩ := e
  exact OP a b c d e f g h p q r s t
theorem LR (p : Ty.T y63) (h : DU p = true) : (0 : Int) <= p.2.1 /\ (0 : Int) <= p.2.2.1 := by
  simp only [DU, t240, bt] at h
  have cc : ∀ (p q r : Bool), cond p q r = true ↔ (p = true /\ q = true) ∨ (p = false /\ r = true) := by decide
  have cf : ∀ (p q r : Bool), cond p q r = false ↔ (p = true /\ q = false) ∨ (p = false /\ r = false) := by decide
  simp [cc, cf] at h
  dsimp only [Ty.T] at h ⊢
  omega
theorem RA (x m : Int) (hx : 0 <= x) (hm : 0 <= m) (hm2 : m <= 1048576) : cu x 0 (IntKind.wrap .i64 (m - 1)) = !decide (x ≥ m) := by
  rw [ba (by omega) (by omega)]
  simp only [cu]
  rw [Bool.eq_iff_iff]
  have cc : ∀ (p q r : Bool), cond p q r = true ↔ (p = true /\ q = true) ∨ (p = false /\ r = true) := by decide
  have cf : ∀ (p q r : Bool), cond p q r = false ↔ (p = true /\ q = false) ∨ (p = false /\ r = false) := by decide
  simp [cc, cf]
  omega
theorem Rc (a : Ty.T y36) (hb : a.1.length <= 1048576) (hl : a.2.1.length <= 1048576) : (∃ j : Nat, iter jr (rV (false, 0, a, ())) (false, 0, a, ()) = some (0, (false, (j : Int), a, ())) /\ iter n8 (Ai (false, a.1, ((a.1).length : Int), 0, a, ())) (false, a.1, ((a.1).length : Int), 0, a, ()) = some (0, (false, a.1, ((a.1).length : Int), (j : Int), a, ()))) ∨ (iter jr (rV (false, 0, a, ())) (false, 0, a, ()) = some (1, (false, (a.1.length : Int), a, ())) /\ iter n8 (Ai (false, a.1, ((a.1).length : Int), 0, a, ())) (false, a.1, ((a.1).length : Int), 0, a, ()) = some (1, (false, a.1, ((a.1).length : Int), (a.1.length : Int), a, ()))) := by
  refine wA (s1 := jr) (s2 := n8) (mk1 := fun i => (false, i, a, ())) (mk2 := fun i => (false, a.1, ((a.1).length : Int), i, a, ())) (fin1 := fun i => (false, (i : Int), a, ())) (fin2 := fun i => (false, a.1, ((a.1).length : Int), (i : Int), a, ())) (N := a.1.length) (fun i hi => ?_) (by simp [jr, mX]) (by simp [n8, tt]) a.1.length 0 _ _ (by omega) (by simp only [rV]; omega) (by simp only [Ai]; omega)
  have h1 : a.1[i]? = some a.1[i] := List.getElem?_eq_getElem hi
  have h3 : (i : Int) < (a.1.length : Int) := by omega
  generalize a.1[i] = p at h1
  cases hp : DU p with
  | false =>
    refine .inr ⟨?_, ?_⟩
    · simp only [jr, mX, decide_eq_true h3, cond_true, if_pos (show (0 : Int) <= (i : Int) by omega), Int.toNat_natCast, h1, ay, hp, Bool.not_false]
    · simp only [n8, tt, decide_eq_true h3, cond_true, if_pos (show (0 : Int) <= (i : Int) by omega), Int.toNat_natCast, h1, ay, Cy, hp, Bool.not_false]
  | true =>
    have hlow := LR p hp
    have hs1 := RA p.2.1 (a.2.1.length : Int) hlow.1 (by omega) (by omega)
    have hs2 := RA p.2.2.1 (a.2.1.length : Int) hlow.2 (by omega) (by omega)
    have hw := bE (n := i) (by omega)
    match i, hi, h1, h3, hw with
    | 0, hi, h1, h3, hw =>
      simp only [jr, mX, n8, tt, nZ, decide_eq_true h3, cond_true, if_pos (show (0 : Int) <= ((0 : Nat) : Int) by omega), Int.toNat_natCast, h1, ay, Cy, hp, Bool.not_true, cond_false, hs1, hs2, Bool.not_not, decide_eq_false (show ¬ ((0 : Nat) : Int) > 0 by omega), hw]
      cases decide (p.2.1 ≥ (a.2.1.length : Int)) <;> cases decide (p.2.2.1 ≥ (a.2.1.length : Int)) <;> cases decide (p.2.2.2.2.1 > a.2.2.2) <;> first | exact .inl ⟨rfl, rfl⟩ | exact .inr ⟨rfl, rfl⟩
    | j + 1, hi, h1, h3, hw =>
      have h2 : a.1[j]? = some a.1[j] := List.getElem?_eq_getElem (by omega)
      generalize a.1[j] = q at h2
      simp only [jr, mX, n8, tt, nZ, decide_eq_true h3, cond_true, if_pos (show (0 : Int) <= ((j + 1 : Nat) : Int) by omega), Int.toNat_natCast, h1, h2, ay, Cy, hp, Bool.not_true, cond_false, hs1, hs2, Bool.not_not, decide_eq_true (show ((j + 1 : Nat) : Int) > 0 by omega), Au j (by omega), if_pos (show (0 : Int) <= (j : Int) by omega), hw]
      cases decide (q.1 ≥ p.1) <;> cases decide (p.2.1 ≥ (a.2.1.length : Int)) <;> cases decide (p.2.2.1 ≥ (a.2.1.length : Int)) <;> cases decide (p.2.2.2.2.1 > a.2.2.2) <;> first | exact .inl ⟨rfl, rfl⟩ | exact .inr ⟨rfl, rfl⟩
theorem Qr (x y : Int) (t : Bool) : Lk ((x, y, t) : Ty.T aM) = !kA ((x, y, t) : Ty.T aM) := by
  simp only [Lk, kA, bt, cu, dZ, sa]
  try dsimp only [Ty.T]
  have cc : ∀ (p q r : Bool), cond p q r = true ↔ (p = true /\ q = true) ∨ (p = false /\ r = true) := by decide
  have cf : ∀ (p q r : Bool), cond p q r = false ↔ (p = true /\ q = false) ∨ (p = false /\ r = false) := by decide
  rw [Bool.eq_iff_iff]
  simp [cc, cf]
  omega
theorem Ur (s : Ty.T aM) : Lk s = !kA s := Qr s.1 s.2.1 s.2.2
theorem Kp (a : Ty.T y36) (hb : a.2.1.length <= 1048576) : (a.2.1.any (fun x => !kA x) = true /\ wG false 0 a 0 = true /\ ∃ j : Nat, Hf false 0 a = (false, (j : Int), a, ())) ∨ (a.2.1.any (fun x => !kA x) = false /\ wG false 0 a 0 = false /\ wG false 0 a 1 = true /\ Hf false 0 a = (false, (a.2.1.length : Int), a, ())) := by
  have h := dm (s := sW) (mk := fun i => (false, i, a, ())) (fin := fun i => (false, (i : Int), a, ())) (p := fun i => match a.2.1[i]? with | some x => !kA x | none => false) (N := a.2.1.length) (fun i hi => by
    have h1 := List.getElem?_eq_getElem hi
    simp only [h1]
    skip
    cases ht : (kA a.2.1[i] : Bool) <;> simp [sW, ta, ay, hi, h1, ht,  bE (n := i) (by omega)]) (by simp [sW, ta]) a.2.1.length 0 (yo (false, 0, a, ())) (by omega) (by simp only [yo]; omega)
  have hf := gI (p := fun x => !kA x) (xs := a.2.1) (q := fun i => match a.2.1[i]? with | some x => !kA x | none => false) (fun i x h1 => by simp only [h1])
  revert h hf
  generalize first _ 0 a.2.1.length = o
  intro h hf
  cases o with
  | none => exact .inr ⟨hf.symm, bg h 0, bg h 1, bD h⟩
  | some j => exact .inl ⟨hf.symm, bg h 0, j, bD h⟩
theorem Ha (l : List (Ty.T aM)) (hb : l.length <= 1048576) : (l.any (fun x => !kA x) = true /\ eZ l 0 ((l).length : Int) 0 0 = true /\ ∃ j : Nat, qp l 0 ((l).length : Int) 0 = (l, (j : Int), ((l).length : Int), (j : Int), ())) ∨ (l.any (fun x => !kA x) = false /\ eZ l 0 ((l).length : Int) 0 0 = false /\ eZ l 0 ((l).length : Int) 0 1 = true /\ qp l 0 ((l).length : Int) 0 = (l, 0, ((l).length : Int), (l.length : Int), ())) := by
  have h := dm (s := jB) (mk := fun i => (l, 0, ((l).length : Int), i, ())) (fin := fun i => (l, (i : Int), ((l).length : Int), (i : Int), ())) (p := fun i => match l[i]? with | some x => !kA x | none => false) (N := l.length) (fun i hi => by
    have h1 := List.getElem?_eq_getElem hi
    simp only [h1]
    skip
    cases ht : (kA l[i] : Bool) <;> simp [jB, jS, ay, hi, h1, ht, Ur, bE (n := i) (by omega)]) (by simp [jB, jS]) l.length 0 (mg (l, 0, ((l).length : Int), 0, ())) (by omega) (by simp only [mg]; omega)
  have hf := gI (p := fun x => !kA x) (xs := l) (q := fun i => match l[i]? with | some x => !kA x | none => false) (fun i x h1 => by simp only [h1])
  revert h hf
  generalize first _ 0 l.length = o
  intro h hf
  cases o with
  | none => exact .inr ⟨hf.symm, bg h 0, bg h 1, bD h⟩
  | some j => exact .inl ⟨hf.symm, bg h 0, j, bD h⟩
theorem K1 (l : List (Ty.T aM)) (hb : l.length <= 1048576) : wa l = true /\ xh l = l.any (fun x => !kA x) := by
  unfold wa xh sq yq
  rcases Ha l hb with ⟨hB, e0, j, hw⟩ | ⟨hB, e0, e1, hw⟩
  · rw [e0, hw, hB]
    exact ⟨rfl, decide_eq_true (show ((j : Int)) ≥ 0 by omega)⟩
  · rw [e0, e1, hB]
    exact ⟨rfl, rfl⟩
theorem uf (a : Ty.T y36) (hb : a.1.length <= 1048576) (hl : a.2.1.length <= 1048576) : d155 a = true /\ d56 a = true /\ v56 a = vF a := by
  have hi := K1 a.2.1 hl
  unfold d155 d56 vF v56 t155 t56
  try simp only [nfs]
  simp only [nZ, Kj, cu, bt]
  rcases Rc a hb hl with ⟨j, x1, x2⟩ | ⟨x1, x2⟩
  · have e0 : xO false 0 a 0 = true := bg x1 0
    have f0 : Eu false a.1 ((a.1).length : Int) 0 a 0 = true := bg x2 0
    have ew : kx false 0 a = _ := bD x1
    have fw : FK false a.1 ((a.1).length : Int) 0 a = _ := bD x2
    simp only [e0, f0, ew, fw]
    generalize decide ((a.1.length : Int) > (8 : Int)) = b1
    cases b1
    · refine ⟨?_, ?_, ?_⟩ <;> simp
    · exact ⟨rfl, rfl, rfl⟩
  · have e0 : xO false 0 a 0 = false := bg x1 0
    have e1 : xO false 0 a 1 = true := bg x1 1
    have f0 : Eu false a.1 ((a.1).length : Int) 0 a 0 = false := bg x2 0
    have f1 : Eu false a.1 ((a.1).length : Int) 0 a 1 = true := bg x2 1
    have ew : kx false 0 a = _ := bD x1
    have fw : FK false a.1 ((a.1).length : Int) 0 a = _ := bD x2
    simp only [e0, e1, f0, f1, ew, fw, hi.1, hi.2]
    rcases Kp a hl with ⟨hB, y0, k, hw⟩ | ⟨hB, y0, y1, hw⟩
    · simp only [y0, hw, hB]
      generalize decide ((a.1.length : Int) > (8 : Int)) = b1
      cases b1
      · refine ⟨?_, ?_, ?_⟩ <;> simp
      · exact ⟨rfl, rfl, rfl⟩
    · simp only [y0, y1, hw, hB]
      generalize decide ((a.1.length : Int) > (8 : Int)) = b1
      cases b1
      · refine ⟨?_, ?_, ?_⟩ <;> simp
      · exact ⟨rfl, rfl, rfl⟩
theorem Up (l : List (Ty.T aq)) (hb : l.length <= 1048576) (hv : ∀ x ∈ l, x.2.2.2.2.2.2.1.2.2.2.2.2.2.length <= 1048576) : (∃ j : Nat, iter kz (qR (l, false, 0, ())) (l, false, 0, ()) = some (0, (l, false, (j : Int), ())) /\ iter lj (sT (l, false, l, ((l).length : Int), 0, ())) (l, false, l, ((l).length : Int), 0, ()) = some (0, (l, false, l, ((l).length : Int), (j : Int), ()))) ∨ (iter kz (qR (l, false, 0, ())) (l, false, 0, ()) = some (1, (l, false, (l.length : Int), ())) /\ iter lj (sT (l, false, l, ((l).length : Int), 0, ())) (l, false, l, ((l).length : Int), 0, ()) = some (1, (l, false, l, ((l).length : Int), (l.length : Int), ()))) := by
  refine wA (s1 := kz) (s2 := lj) (mk1 := fun i => (l, false, i, ())) (mk2 := fun i => (l, false, l, ((l).length : Int), i, ())) (fin1 := fun i => (l, false, (i : Int), ())) (fin2 := fun i => (l, false, l, ((l).length : Int), (i : Int), ())) (N := l.length) (fun i hi => ?_) (by simp [kz, pQ]) (by simp [lj, oH]) l.length 0 _ _ (by omega) (by simp only [qR]; omega) (by simp only [sT]; omega)
  have h1 : l[i]? = some l[i] := List.getElem?_eq_getElem hi
  have h3 : (i : Int) < (l.length : Int) := by omega
  have hq := km l[i] (hv _ (List.getElem_mem hi))
  generalize l[i] = p at h1 hq
  have hw := bE (n := i) (by omega)
  match i, hi, h1, h3, hw with
  | 0, hi, h1, h3, hw =>
    simp only [kz, pQ, lj, oH, decide_eq_true h3, cond_true, if_pos (show (0 : Int) <= ((0 : Nat) : Int) by omega), Int.toNat_natCast, h1, ay, hq.1, hq.2.1, hq.2.2, decide_eq_false (show ¬ ((0 : Nat) : Int) > 0 by omega), cond_false, hw]
    cases ga p <;> first | exact .inl ⟨rfl, rfl⟩ | exact .inr ⟨rfl, rfl⟩
  | j + 1, hi, h1, h3, hw =>
    have h2 : l[j]? = some l[j] := List.getElem?_eq_getElem (by omega)
    generalize l[j] = q at h2
    simp only [kz, pQ, lj, oH, decide_eq_true h3, cond_true, if_pos (show (0 : Int) <= ((j + 1 : Nat) : Int) by omega), Int.toNat_natCast, h1, h2, ay, hq.1, hq.2.1, hq.2.2, decide_eq_true (show ((j + 1 : Nat) : Int) > 0 by omega), Au j (by omega), if_pos (show (0 : Int) <= (j : Int) by omega), hw]
    cases ga p <;> cases decide (q.1 ≥ p.1) <;> first | exact .inl ⟨rfl, rfl⟩ | exact .inr ⟨rfl, rfl⟩
theorem Z4 (l : List (Ty.T aq)) (hb : l.length <= 1048576) (hv : ∀ x ∈ l, x.2.2.2.2.2.2.1.2.2.2.2.2.2.length <= 1048576) : d156 l = true /\ d136 l = true /\ Rv l = Qc l := by
  unfold d156 d136 Qc Rv
  rcases Up l hb hv with ⟨j, x1, x2⟩ | ⟨x1, x2⟩
  · have e0 : kQ l false 0 0 = true := bg x1 0
    have f0 : kC l false l ((l).length : Int) 0 0 = true := bg x2 0
    have ew : sQ l false 0 = _ := bD x1
    have fw : rA l false l ((l).length : Int) 0 = _ := bD x2
    simp only [e0, f0, ew, fw]
    first | exact ⟨rfl, rfl, rfl⟩ | simp
  · have e0 : kQ l false 0 0 = false := bg x1 0
    have e1 : kQ l false 0 1 = true := bg x1 1
    have f0 : kC l false l ((l).length : Int) 0 0 = false := bg x2 0
    have f1 : kC l false l ((l).length : Int) 0 1 = true := bg x2 1
    have ew : sQ l false 0 = _ := bD x1
    have fw : rA l false l ((l).length : Int) 0 = _ := bD x2
    simp only [e0, e1, f0, f1, ew, fw]
    first | exact ⟨rfl, rfl, rfl⟩ | simp
theorem acn (u : List (Ty.T (.int .i64))) (n : Int) (hb : u.length <= 1048576) : d300 u n = true /\ Oj u n = (u.any fun x => x == n) := by
  have h := dm (s := sk) (mk := fun i => (u, n, false, i, ())) (fin := fun i => (u, n, true, (i : Int), ())) (p := fun i => match u[i]? with | some x => (x == n) | none => false) (N := u.length) (fun i hi => by
    have h1 := List.getElem?_eq_getElem hi
    simp only [h1]
    skip
    cases ht : ((u[i] : Int) == n) <;> simp [sk, sG, ay, hi, h1, ht,  bE (n := i) (by omega)]) (by simp [sk, sG]) u.length 0 (xG (u, n, false, 0, ())) (by omega) (by simp [xG]; omega)
  have hf := gI (p := fun x => (x == n)) (xs := u) (q := fun i => match u[i]? with | some x => (x == n) | none => false) (fun i x h1 => by simp only [h1])
  unfold d300 Oj
  revert h hf
  generalize first _ 0 u.length = o
  intro h hf
  cases o with
  | none =>
    have e0 : kP u n false 0 0 = false := bg h 0
    have e1 : kP u n false 0 1 = true := bg h 1
    rw [e0, e1, ← hf]
    exact ⟨rfl, rfl⟩
  | some j =>
    have e0 : kP u n false 0 0 = true := bg h 0
    have hw : HU u n false 0 = _ := bD h
    rw [e0, hw, ← hf]
    exact ⟨rfl, rfl⟩
theorem afy (u : List (Ty.T (.int .i64))) (n : Int) (hb : u.length <= 1048576) : d252 u n = true /\ KC u n = (match first (fun i => match u[i]? with | some x => (n == x) | none => false) 0 u.length with | some j => (j : Int) | none => -1) := by
  have h := dm (s := sZ) (mk := fun i => (u, n, 0, ((u).length : Int), i, ())) (fin := fun i => (u, n, (i : Int), ((u).length : Int), (i : Int), ())) (p := fun i => match u[i]? with | some x => (n == x) | none => false) (N := u.length) (fun i hi => by
    have h1 := List.getElem?_eq_getElem hi
    simp only [h1]
    skip
    cases ht : ((n == (u[i] : Int)) : Bool) <;> simp [sZ, tc, ay, hi, h1, ht,  bE (n := i) (by omega)]) (by simp [sZ, tc]) u.length 0 (vv (u, n, 0, ((u).length : Int), 0, ())) (by omega) (by simp [vv]; omega)
  unfold d252 KC
  revert h
  generalize first _ 0 u.length = o
  intro h
  cases o with
  | none =>
    have e0 : lk u n 0 ((u).length : Int) 0 0 = false := bg h 0
    have e1 : lk u n 0 ((u).length : Int) 0 1 = true := bg h 1
    rw [e0, e1]
    exact ⟨rfl, rfl⟩
  | some j =>
    have e0 : lk u n 0 ((u).length : Int) 0 0 = true := bg h 0
    have hw : Ia u n 0 ((u).length : Int) 0 = _ := bD h
    rw [e0, hw]
    exact ⟨rfl, rfl⟩
theorem afj (u : List (Ty.T (.int .i64))) (n : Int) (hb : u.length <= 1048576) : d75 u n = true /\ v75 u n = u.any fun x => x == n := by
  have h := afy u n hb
  have e : (first (fun i => match u[i]? with | some x => n == x | none => false) 0 u.length).isSome = u.any fun x => n == x := gI (fun i x h => by simp only [h])
  have e2 : (u.any fun x => n == x) = u.any fun x => x == n := by congr 1; funext x; exact Bool.beq_comm
  unfold d75 v75 d181 My
  rw [h.1, h.2, ← e2, ← e]
  cases first (fun i => match u[i]? with | some x => n == x | none => false) 0 u.length with
  | none => exact ⟨by simp, by simp⟩
  | some j => exact ⟨by simp, by simp⟩
theorem ZC (l : List (Ty.T y27)) (hb : l.length <= 1048576) : d177 l = true := decide_eq_true (show List.length l * _ <= _ by omega)
theorem cpI (e : Ty.T aq) (hb : e.2.2.2.2.2.2.1.2.2.2.2.2.2.length <= 1048576) : d226 e = true /\ cL e = ((e.1, e.2.1, e.2.2.1, e.2.2.2.1, e.2.2.2.2.1, e.2.2.2.2.2.1, e.2.2.2.2.2.2.1.1, e.2.2.2.2.2.2.1.2.1, e.2.2.2.2.2.2.1.2.2.1, e.2.2.2.2.2.2.1.2.2.2.1, e.2.2.2.2.2.2.1.2.2.2.2.1, e.2.2.2.2.2.2.1.2.2.2.2.2.1), e.2.2.2.2.2.2.2, e.2.2.2.2.2.2.1.2.2.2.2.2.2) := by
  have h := ZC _ hb
  unfold d226 cL t226
  try simp only [nfs]
  rw [h]
  exact ⟨rfl, rfl⟩
theorem cpS (e : Ty.T aq) (hb : e.2.2.2.2.2.2.1.2.2.2.2.2.2.length <= 1048576) : d238 e = true /\ dv e = ((e.1, e.2.1, e.2.2.1, e.2.2.2.1, e.2.2.2.2.1, e.2.2.2.2.2.1, e.2.2.2.2.2.2.1.1, e.2.2.2.2.2.2.1.2.1, e.2.2.2.2.2.2.1.2.2.1, e.2.2.2.2.2.2.1.2.2.2.1, e.2.2.2.2.2.2.1.2.2.2.2.1, e.2.2.2.2.2.2.1.2.2.2.2.2.1), e.2.2.2.2.2.2.2, e.2.2.2.2.2.2.1.2.2.2.2.2.2) := by
  have h : d296 e.2.2.2.2.2.2.1 = true := by
    unfold d296
    simp only [List.nil_append, Bool.and_true]
    exact decide_eq_true (by omega)
  unfold d238 dv t238
  try simp only [nfs]
  rw [h]
  exact ⟨rfl, rfl⟩
theorem ctI (l : List (Ty.T aq)) (hb : l.length <= 1048576) (hv : ∀ x ∈ l, x.2.2.2.2.2.2.1.2.2.2.2.2.2.length <= 1048576) : d134 l = true /\ Ra l = l := by
  have h := dK (s := rq) (f := fun i => ([], l, ((l).length : Int), (i : Int), l.take i, ())) (c := 0) (N := l.length) (v' := ([], l, ((l).length : Int), (l.length : Int), l.take l.length, ())) (fun i hi => by
    have h1 : l[i]? = some l[i] := List.getElem?_eq_getElem hi
    have hw := bE (n := i) (by omega)
    have hc := cpI l[i] (hv _ (List.getElem_mem hi))
    have hz : ∀ x : Ty.T aq, (l.take i ++ [x]).length * 192 <= 140737488351232 := fun x => by simp only [List.length_append, List.length_cons, List.length_nil, List.length_take]; omega
    rw [dV h1]
    simp only [rq, rF, decide_eq_true (show (i : Int) < (l.length : Int) by omega), cond_true, if_pos (show (0 : Int) <= (i : Int) by omega), Int.toNat_natCast, h1, ay, hw, hc.1, hc.2, if_pos (hz _)] <;> rfl) (by simp [rq, rF]) l.length 0 (wD ([], l, ((l).length : Int), 0, [], ())) (by omega) (by simp only [wD]; omega)
  have hk : AY [] l ((l).length : Int) 0 [] 0 = true := bg h 0
  have hw : HH [] l ((l).length : Int) 0 [] = _ := bD h
  unfold d134 Ra
  rw [hk, hw]
  exact ⟨rfl, by simp⟩
theorem ctS (l : List (Ty.T aq)) (hb : l.length <= 1048576) (hv : ∀ x ∈ l, x.2.2.2.2.2.2.1.2.2.2.2.2.2.length <= 1048576) : d154 l = true /\ QW l = l := by
  have h := dK (s := sE) (f := fun i => (l, [], (i : Int), l.take i, ())) (c := 0) (N := l.length) (v' := (l, [], (l.length : Int), l.take l.length, ())) (fun i hi => by
    have h1 : l[i]? = some l[i] := List.getElem?_eq_getElem hi
    have hw := bE (n := i) (by omega)
    have hc := cpS l[i] (hv _ (List.getElem_mem hi))
    have hz : ∀ x : Ty.T aq, (l.take i ++ [x]).length * 192 <= 140737488351232 := fun x => by simp only [List.length_append, List.length_cons, List.length_nil, List.length_take]; omega
    rw [dV h1]
    simp only [sE, rm, decide_eq_true (show (i : Int) < (l.length : Int) by omega), cond_true, if_pos (show (0 : Int) <= (i : Int) by omega), Int.toNat_natCast, h1, ay, hw, hc.1, hc.2, if_pos (hz _)] <;> rfl) (by simp [sE, rm]) l.length 0 (wR (l, [], 0, [], ())) (by omega) (by simp only [wR]; omega)
  have hk : AT l [] 0 [] 0 = true := bg h 0
  have hw : HK l [] 0 [] = _ := bD h
  unfold d154 QW
  rw [hk, hw]
  exact ⟨rfl, by simp⟩
theorem pa (s : Ty.T y36) (id : Int) (hb : s.1.length <= 1048576) : d279 s id = true /\ bW s id = (match first (fun i => match s.1[i]? with | some x => (x.1 == id) | none => false) 0 s.1.length with | some j => (j : Int) | none => -1) := by
  have h := dm (s := rU) (mk := fun i => (id, 0, i, s, ())) (fin := fun i => (id, (i : Int), (i : Int), s, ())) (p := fun i => match s.1[i]? with | some x => (x.1 == id) | none => false) (N := s.1.length) (fun i hi => by
    have h1 := List.getElem?_eq_getElem hi
    simp only [h1]
    skip
    cases ht : (((s.1[i]).1 == id) : Bool) <;> simp [rU, q9, ay, hi, h1, ht,  bE (n := i) (by omega)]) (by simp [rU, q9]) s.1.length 0 (xu (id, 0, 0, s, ())) (by omega) (by simp [xu]; omega)
  unfold d279 bW
  revert h
  generalize first _ 0 s.1.length = o
  intro h
  cases o with
  | none =>
    have e0 : kJ id 0 0 s 0 = false := bg h 0
    have e1 : kJ id 0 0 s 1 = true := bg h 1
    rw [e0, e1]
    exact ⟨rfl, rfl⟩
  | some j =>
    have e0 : kJ id 0 0 s 0 = true := bg h 0
    have hw : HF id 0 0 s = _ := bD h
    rw [e0, hw]
    exact ⟨rfl, rfl⟩
theorem ia (s : List (Ty.T y63)) (id : Int) (hb : s.length <= 1048576) : oN s id = true /\ s9 s id = (match first (fun i => match s[i]? with | some x => (x.1 == id) | none => false) 0 s.length with | some j => (j : Int) | none => -1) := by
  have h := dm (s := ko) (mk := fun i => (s, id, 0, ((s).length : Int), i, ())) (fin := fun i => (s, id, (i : Int), ((s).length : Int), (i : Int), ())) (p := fun i => match s[i]? with | some x => (x.1 == id) | none => false) (N := s.length) (fun i hi => by
    have h1 := List.getElem?_eq_getElem hi
    simp only [h1]
    skip
    cases ht : (((s[i]).1 == id) : Bool) <;> simp [ko, jV, ay, hi, h1, ht, B5, bE (n := i) (by omega)]) (by simp [ko, jV]) s.length 0 (np (s, id, 0, ((s).length : Int), 0, ())) (by omega) (by simp [np]; omega)
  unfold oN s9
  revert h
  generalize first _ 0 s.length = o
  intro h
  cases o with
  | none =>
    have e0 : eY s id 0 ((s).length : Int) 0 0 = false := bg h 0
    have e1 : eY s id 0 ((s).length : Int) 0 1 = true := bg h 1
    rw [e0, e1]
    exact ⟨rfl, rfl⟩
  | some j =>
    have e0 : eY s id 0 ((s).length : Int) 0 0 = true := bg h 0
    have hw : vc s id 0 ((s).length : Int) 0 = _ := bD h
    rw [e0, hw]
    exact ⟨rfl, rfl⟩
theorem pi (s : Ty.T y36) (id : Int) (hb : s.1.length <= 1048576) : d326 s id = true /\ oy s id = bW s id := by
  have h1 := pa s id hb
  have h2 := ia s.1 id hb
  unfold d326 oy
  rw [h2.1, h2.2, h1.2]
  exact ⟨rfl, rfl⟩
theorem paR (s : Ty.T y36) (id : Int) (hb : s.1.length <= 1048576) : bW s id < 0 ∨ (0 <= bW s id /\ ∃ p, s.1[(bW s id).toNat]? = some p /\ p.1 = id) := by
  rw [(pa s id hb).2]
  cases h : first (fun i => match s.1[i]? with | some x => (x.1 == id) | none => false) 0 s.1.length with
  | none => exact .inl (by decide)
  | some j =>
    obtain ⟨_, hj, hp⟩ := gN h
    have e : s.1[j]? = some s.1[j] := List.getElem?_eq_getElem (by omega)
    refine .inr ⟨by show (0 : Int) <= (j : Int); omega, s.1[j], by show s.1[((j : Nat) : Int).toNat]? = _; rw [Int.toNat_natCast]; exact e, ?_⟩
    simp only [e] at hp
    exact eq_of_beq hp
theorem src (s : Ty.T y36) (e : Ty.T y27) (hb : s.1.length <= 1048576) : d315 s e = true /\ d329 s e = true /\ Gj s e = fj s e := by
  have h1 := pa s e.2.1 hb
  have h2 := pi s e.2.1 hb
  have key : d315 s e = true := by
    unfold d315 FT
    try simp only [nfs]
    rw [h1.1]
    rcases paR s e.2.1 hb with h | ⟨h, p, hp, _⟩
    · cases (e.1 != (1 : Int)) <;> simp [h]
    · cases (e.1 != (1 : Int)) <;> simp [hp, ua, h]
  refine ⟨key, ?_, ?_⟩
  · rw [← key]
    unfold d315 d329 FT Gd
    try simp only [nfs]
    rw [h1.1, h2.1, h2.2]
  · unfold fj Gj FT Gd
    try simp only [nfs]
    rw [h1.1, h2.1, h2.2]
theorem N4 (s : Ty.T y36) (x : Int) : nZ s x = bt x 0 (IntKind.wrap .i64 (((s.2.1).length : Int) - (1 : Int))) := by
  simp only [nZ, bt, cu]
theorem tgt (s : Ty.T y36) (e : Ty.T y27) (hb : s.1.length <= 1048576) : d270 s e = true /\ d292 s e = true /\ sH s e = lI s e := by
  have h1 := pa s e.2.2.1 hb
  have h2 := pi s e.2.2.1 hb
  unfold d270 d292 lI sH
  rw [h1.1, h2.1, h2.2, N4]
  cases (e.2.2.1 == (0 : Int))
  · rcases paR s e.2.2.1 hb with h | ⟨h, p, hp, _⟩
    · simp [h]
    · simp [hp, ua, h]
  · cases bt e.2.2.2.1 0 (IntKind.wrap .i64 (((s.2.1).length : Int) - (1 : Int))) <;> exact ⟨rfl, rfl, rfl⟩
theorem afD (s : Ty.T y36) (x : Int) (p : Ty.T bS) (e : Ty.T y27) (hb : s.1.length <= 1048576) : d333 s x p e = true /\ d304 s x p e = true /\ KL s x p e = Lh s x p e := by
  have h := tgt s e hb
  unfold d333 d304 Lh KL Ir t304
  try simp only [nfs]
  rw [h.1, h.2.1, h.2.2]
  refine ⟨?_, ?_, rfl⟩ <;> simp
theorem ad9 (s : Ty.T y36) (p : Ty.T bS) (e : Ty.T y27) (hb : s.1.length <= 1048576) : d334 s p e = true /\ d305 s p e = true /\ Gg s p e = Hp s p e := by
  have h := src s e hb
  unfold d334 d305 Hp Gg
  rw [h.1, h.2.1, h.2.2]
  refine ⟨?_, ?_, rfl⟩ <;> simp
theorem afb (s : Ty.T y36) (x : Int) (p : Ty.T bS) (e : Ty.T y27) (hb : s.1.length <= 1048576) : d312 s x p e = true /\ d256 s x p e = true /\ K5 s x p e = Lr s x p e := by
  have h1 := afD s x p e hb
  have h2 := ad9 s p e hb
  unfold d312 d256 Lr K5
  rw [h1.1, h1.2.1, h1.2.2, h2.1, h2.2.1, h2.2.2, RE, M0]
  refine ⟨?_, ?_, rfl⟩ <;> simp
theorem gone (e : Ty.T y27) : v54 e = Lx e := rfl
theorem Zz (e : Ty.T aq) (t : Int) : Ln e t = Lv e t := rfl
theorem adS (e : Ty.T aq) (v : Ty.T y27) : Kv e v = KB e v := rfl
theorem Qe (s : Ty.T y36) (e : Ty.T y27) (hb : s.1.length <= 1048576) : d213 s e = true /\ d230 s e = true /\ P8 s e = tY s e := by
  have h := tgt s e hb
  unfold d213 d230 tY P8
  rw [h.1, h.2.1, h.2.2]
  cases hc : (lI s e == (-1 : Int)) <;> simp [bne, hc]
def FI (side : Int) (k : Int) (x : Ty.T y63) : Int := cond (x.2.2.2.1 == (2 : Int)) (cond (x.2.2.1 == side) (IntKind.wrap .i64 (k + 1)) k) k
def zM (side : Int) (k : Int) (x : Ty.T y63) : Int := cond (x.2.2.2.1 == (2 : Int)) (cond (x.2.2.1 == side) (cond x.2.2.2.2.2.2.2.2.2.2.2.2 (IntKind.wrap .i64 (k + 1)) k) k) k
theorem Xe (s : Ty.T y36) (side : Int) (hb : s.1.length <= 1048576) : d331 s side = true /\ Ot s side = s.1.foldl (FI side) 0 := by
  have h := fold_iter (s := r5) (mk := fun (k : Int) i => (side, 0, k, i, s, ())) (xs := s.1) (f := (FI side)) (Inv := fun _ _ => True) (fun i x k hx hI => by
    obtain ⟨hi, rfl⟩ := List.getElem?_eq_some_iff.1 hx
    refine ⟨?_, trivial⟩
    skip
    cases c1 : ((s.1[i]).2.2.2.1 == (2 : Int)) <;> cases c2 : ((s.1[i]).2.2.1 == side) <;> cases c3 : (s.1[i]).2.2.2.2.2.2.2.2.2.2.2.2 <;> simp [r5, sv, ay, hi, FI, c1, c2, c3, bE (n := i) (by omega)]) (fun k => by simp [r5, sv]) s.1.length 0 0 (w4 (side, 0, 0, 0, s, ())) (by omega) (by simp [w4]; omega) trivial
  have hk : Dl side 0 0 0 s 0 = true := bg h 0
  have hw : F9 side 0 0 0 s = _ := bD h
  unfold d331 Ot
  rw [hk, hw]
  exact ⟨rfl, rfl⟩
theorem Vy (s : Ty.T y36) (side : Int) (hb : s.1.length <= 1048576) : d332 s side = true /\ Mk s side = s.1.foldl (zM side) 0 := by
  have h := fold_iter (s := r7) (mk := fun (k : Int) i => (side, 0, k, i, s, ())) (xs := s.1) (f := (zM side)) (Inv := fun _ _ => True) (fun i x k hx hI => by
    obtain ⟨hi, rfl⟩ := List.getElem?_eq_some_iff.1 hx
    refine ⟨?_, trivial⟩
    skip
    cases c1 : ((s.1[i]).2.2.2.1 == (2 : Int)) <;> cases c2 : ((s.1[i]).2.2.1 == side) <;> cases c3 : (s.1[i]).2.2.2.2.2.2.2.2.2.2.2.2 <;> simp [r7, sL, ay, hi, zM, c1, c2, c3, bE (n := i) (by omega)]) (fun k => by simp [r7, sL]) s.1.length 0 0 (wq (side, 0, 0, 0, s, ())) (by omega) (by simp [wq]; omega) trivial
  have hk : BG side 0 0 0 s 0 = true := bg h 0
  have hw : GU side 0 0 0 s = _ := bD h
  unfold d332 Mk
  rw [hk, hw]
  exact ⟨rfl, rfl⟩
theorem Yv (s : Ty.T y36) (side : Int) (hb : s.1.length <= 1048576) : d303 s side = true /\ Lb s side = s.1.foldl (zM side) 0 := by
  have h := fold_iter (s := qY) (mk := fun (k : Int) i => (side, 0, k, s.1, ((s.1).length : Int), i, ())) (xs := s.1) (f := (zM side)) (Inv := fun _ _ => True) (fun i x k hx hI => by
    obtain ⟨hi, rfl⟩ := List.getElem?_eq_some_iff.1 hx
    refine ⟨?_, trivial⟩
    skip
    cases c1 : ((s.1[i]).2.2.2.1 == (2 : Int)) <;> cases c2 : ((s.1[i]).2.2.1 == side) <;> cases c3 : (s.1[i]).2.2.2.2.2.2.2.2.2.2.2.2 <;> simp [qY, rf, ay, hi, zM, c1, c2, c3, bE (n := i) (by omega)]) (fun k => by simp [qY, rf]) s.1.length 0 0 (vX (side, 0, 0, s.1, ((s.1).length : Int), 0, ())) (by omega) (by simp [vX]; omega) trivial
  have hk : BN side 0 0 s.1 ((s.1).length : Int) 0 0 = true := bg h 0
  have hw : Gn side 0 0 s.1 ((s.1).length : Int) 0 = _ := bD h
  unfold d303 Lb
  rw [hk, hw]
  exact ⟨rfl, rfl⟩
theorem Lg (side : Int) (l : List (Ty.T y63)) : ∀ k : Int, 0 <= k -> k + l.length <= 9223372036854775807 -> l.foldl (FI side) k = k + (((l.filter fun x => (x.2.2.2.1 == (2 : Int)) && (x.2.2.1 == side)).length : Nat) : Int) := by
  induction l with
  | nil => intro k _ _; simp
  | cons x l ih =>
    intro k h0 hk
    simp only [List.length_cons] at hk
    have e : IntKind.wrap .i64 (k + 1) = k + 1 := ba (by omega) (by omega)
    simp only [List.foldl_cons, FI, List.filter_cons, e]
    cases c1 : (x.2.2.2.1 == (2 : Int)) <;> cases c2 : (x.2.2.1 == side) <;> simp only [cond_true, cond_false, Bool.and_true, Bool.and_false, if_true, Bool.false_eq_true, if_false, List.length_cons]
    · exact ih k h0 (by omega)
    · exact ih k h0 (by omega)
    · exact ih k h0 (by omega)
    · rw [ih (k + 1) (by omega) (by omega)]; omega
theorem onF (s : Ty.T y36) (side : Int) (hs : ¬ side = -1) (hb : s.1.length <= 1048576) : d302 s side = true /\ Kr s side = (s.1.filter fun x => (x.2.2.2.1 == (2 : Int)) && (x.2.2.1 == side)).map (·.1) := by
  have h := dK (s := qZ) (f := fun i => (side, [], s.1, ((s.1).length : Int), (i : Int), ((s.1.take i).filter fun x => (x.2.2.2.1 == (2 : Int)) && (x.2.2.1 == side)).map (·.1), ())) (c := 0) (N := s.1.length) (v' := (side, [], s.1, ((s.1).length : Int), (s.1.length : Int), ((s.1.take s.1.length).filter fun x => (x.2.2.2.1 == (2 : Int)) && (x.2.2.1 == side)).map (·.1), ())) (fun i hi => by
    have h1 : s.1[i]? = some s.1[i] := List.getElem?_eq_getElem hi
    have hw := bE (n := i) (by omega)
    have hn : (side == (-1 : Int)) = false := by simpa using hs
    have hz : ∀ x : Int, (@HAppend.hAppend (List Int) (List Int) (List Int) _ (((s.1.take i).filter fun x => (x.2.2.2.1 == (2 : Int)) && (x.2.2.1 == side)).map (·.1)) [x]).length * 8 <= 140737488351232 := fun x => by
      have := List.length_filter_le (fun x : Ty.T y63 => (x.2.2.2.1 == (2 : Int)) && (x.2.2.1 == side)) (s.1.take i)
      simp only [List.length_append, List.length_cons, List.length_nil, List.length_map, List.length_take] at this ⊢
      omega
    rw [fP h1]
    cases c1 : ((s.1[i]).2.2.2.1 == (2 : Int)) <;> cases c2 : ((s.1[i]).2.2.1 == side) <;> simp only [qZ, rL, decide_eq_true (show (i : Int) < (s.1.length : Int) by omega), cond_true, cond_false, if_pos (show (0 : Int) <= (i : Int) by omega), Int.toNat_natCast, h1, ay, hw, hn, c1, c2, Bool.and_true, Bool.and_false, if_pos (hz _), List.append_nil, List.map_append, List.map_cons, List.map_nil] <;> rfl) (by simp [qZ, rL]) s.1.length 0 (wb (side, [], s.1, ((s.1).length : Int), 0, [], ())) (by omega) (by simp only [wb]; omega)
  have hk : Dj side [] s.1 ((s.1).length : Int) 0 [] 0 = true := bg h 0
  have hw : HP side [] s.1 ((s.1).length : Int) 0 [] = _ := bD h
  unfold d302 Kr
  rw [hk, hw]
  exact ⟨rfl, by simp⟩
theorem holds (s : Ty.T y36) (x : Int) (g : Ty.T aB) (hb : s.1.length <= 1048576) (hl : s.2.1.length <= 1048576) : d311 s x g = true /\ d255 s x g = true /\ Gr s x g = La s x g := by
  have h1 := Xe s x hb
  have h2 := Vy s x hb
  have h3 := Yv s x hb
  unfold d311 d255 La Gr t311
  try simp only [nfs]
  rw [Ka, N4, h1.1, h1.2, h2.1, h2.2, h3.1, h3.2]
  cases we g
  · exact ⟨rfl, rfl, rfl⟩
  · cases hS : bt x 0 (IntKind.wrap .i64 (((s.2.1).length : Int) - (1 : Int)))
    · exact ⟨rfl, rfl, rfl⟩
    · rw [ba (by omega) (by omega)] at hS
      simp only [bt] at hS
      have cc : ∀ (p q r : Bool), cond p q r = true ↔ (p = true /\ q = true) ∨ (p = false /\ r = true) := by decide
      have cf : ∀ (p q r : Bool), cond p q r = false ↔ (p = true /\ q = false) ∨ (p = false /\ r = false) := by decide
      simp [cc, cf] at hS
      have h0 : 0 <= x := hS.1
      have hx : ∃ y, s.2.1[x.toNat]? = some y := ⟨s.2.1[x.toNat]'(by omega), List.getElem?_eq_getElem _⟩
      obtain ⟨y, hy⟩ := hx
      have h4 := onF s x (by omega) hb
      have h5 := Lg x s.1 0 (by omega) (by omega)
      rw [h4.1, h4.2, hy, h5]
      simp only [ua, yF, h0, decide_true, Bool.true_and, Bool.not_true, cond_false, cond_true, List.length_map, Int.zero_add]
      refine ⟨?_, ?_, rfl⟩ <;> simp
theorem bound (a : Int) : dZ a = iR a := by
  unfold dZ iR
  by_cases h1 : (2147483647 : Int) < a <;> by_cases h2 : a < (-2147483647 : Int) <;> simp only [h1, h2, gt_iff_lt, decide_true, decide_false, if_true, if_false, cond_true, cond_false] <;> (try split) <;> omega
theorem iU (a b : Int) : jU a b = ey a b := by
  unfold jU ey
  by_cases h1 : b < a <;> simp only [h1, gt_iff_lt, decide_true, decide_false, if_true, if_false, cond_true, cond_false]
  · by_cases h2 : b < 0 <;> simp only [h2, decide_true, decide_false, cond_true, cond_false] <;> split <;> omega
  · by_cases h2 : a < 0 <;> simp only [h2, decide_true, decide_false, cond_true, cond_false] <;> split <;> omega
theorem plus (a b : Int) : yI a b = lW a b := by unfold yI lW; simp only [bound]
theorem less (a b : Int) : vo a b = vi a b := by unfold vo vi; simp only [bound]
theorem Vw (a : Int) : KV a = Kq a := by unfold KV Kq; simp only [bound]
theorem half (a : Int) : Kz a = KH a := by unfold Kz KH; simp only [bound]
theorem oc (e : Ty.T y27) (n : Int) : Fu e n = B3 e n := by unfold Fu B3; rw [iU]
theorem jy (a : Ty.T bo) (n : Int) : GQ a n = Gm a n := by unfold GQ Gm; simp only [iU, plus, Vw, half]
noncomputable def oh (e x : Ty.T y27) : Ty.T y27 := cond (x.2.2.2.2.1 == (-1 : Int)) (x.1, x.2.1, x.2.2.1, x.2.2.2.1, ey e.2.2.2.2.1 2147483647, x.2.2.2.2.2) x
theorem LQ (a : Ty.T bo) (h : ¬ a.1 = 9) (e : Ty.T y27) : d273 a e = true /\ AZ a e = [] := by
  have hb : (a.1 == (9 : Int)) = false := by simpa using h
  have h : iter kL (kW ([], 0, a, e, [], ())) ([], 0, a, e, [], ()) = some (0, ([], 0, a, e, [], ())) := by
    rw [show kW ([], 0, a, e, [], ()) = (kW ([], 0, a, e, [], ()) - 1) + 1 by simp only [kW]; omega]
    have : kL ([], 0, a, e, [], ()) = some (1, ([], 0, a, e, [], ())) := by
      simp only [kL, oV, hb, cond_false]
      cases decide ((0 : Int) < (a.2.2.2.2.2.2.length : Int)) <;> rfl
    rw [iter, this]
    rfl
  have hk : vz [] 0 a e [] 0 = true := bg h 0
  have hw : Dc [] 0 a e [] = _ := bD h
  unfold d273 AZ
  rw [hk, hw]
  exact ⟨rfl, rfl⟩
theorem RZ (a : Ty.T bo) (h9 : a.1 = 9) (e : Ty.T y27) (hb : a.2.2.2.2.2.2.length <= 1048576) : d273 a e = true /\ AZ a e = a.2.2.2.2.2.2.map (oh e) := by
  have h := dK (s := kL) (f := fun i => ([], (i : Int), a, e, (a.2.2.2.2.2.2.take i).map (oh e), ())) (c := 0) (N := a.2.2.2.2.2.2.length) (v' := ([], (a.2.2.2.2.2.2.length : Int), a, e, (a.2.2.2.2.2.2.take a.2.2.2.2.2.2.length).map (oh e), ())) (fun i hi => by
    have h1 : a.2.2.2.2.2.2[i]? = some a.2.2.2.2.2.2[i] := List.getElem?_eq_getElem hi
    have hw := bE (n := i) (by omega)
    have hz : ∀ x : Ty.T y27, (@HAppend.hAppend (List (Ty.T y27)) (List (Ty.T y27)) (List (Ty.T y27)) _ ((a.2.2.2.2.2.2.take i).map (oh e)) [x]).length * 56 <= 140737488351232 := fun x => by
      simp only [List.length_append, List.length_cons, List.length_nil, List.length_map, List.length_take]
      omega
    rw [dV h1, List.map_append, List.map_cons, List.map_nil]
    cases c1 : ((a.2.2.2.2.2.2[i]).2.2.2.2.1 == (-1 : Int)) <;> simp only [kL, oV, decide_eq_true (show (i : Int) < (a.2.2.2.2.2.2.length : Int) by omega), cond_true, cond_false, if_pos (show (0 : Int) <= (i : Int) by omega), Int.toNat_natCast, h1, ay, hw, c1, h9, beq_self_eq_true, if_pos (hz _), oh] <;> rfl) (by simp [kL, oV]) a.2.2.2.2.2.2.length 0 (kW ([], 0, a, e, [], ())) (by omega) (by simp only [kW]; omega)
  have hk : vz [] 0 a e [] 0 = true := bg h 0
  have hw : Dc [] 0 a e [] = _ := bD h
  unfold d273 AZ
  rw [hk, hw]
  exact ⟨rfl, by simp⟩
theorem TW (a : Ty.T bo) (h : ¬ a.1 = 9) (e : Ty.T y27) : d325 a e = true /\ yE a e = [] := by
  have hb : (a.1 != (9 : Int)) = true := by simpa using h
  unfold d325 yE
  rw [hb]
  exact ⟨rfl, rfl⟩
theorem Vp (a : Ty.T bo) (h9 : a.1 = 9) (e : Ty.T y27) (hb : a.2.2.2.2.2.2.length <= 1048576) : d325 a e = true /\ yE a e = a.2.2.2.2.2.2.map (oh e) := by
  have hb9 : (a.1 != (9 : Int)) = false := by rw [h9]; rfl
  have h := dK (s := rB) (f := fun i => ([], a.2.2.2.2.2.2, ((a.2.2.2.2.2.2).length : Int), (i : Int), e, (a.2.2.2.2.2.2.take i).map (oh e), ())) (c := 0) (N := a.2.2.2.2.2.2.length) (v' := ([], a.2.2.2.2.2.2, ((a.2.2.2.2.2.2).length : Int), (a.2.2.2.2.2.2.length : Int), e, (a.2.2.2.2.2.2.take a.2.2.2.2.2.2.length).map (oh e), ())) (fun i hi => by
    have h1 : a.2.2.2.2.2.2[i]? = some a.2.2.2.2.2.2[i] := List.getElem?_eq_getElem hi
    have hw := bE (n := i) (by omega)
    have hz : ∀ x : Ty.T y27, (@HAppend.hAppend (List (Ty.T y27)) (List (Ty.T y27)) (List (Ty.T y27)) _ ((a.2.2.2.2.2.2.take i).map (oh e)) [x]).length * 56 <= 140737488351232 := fun x => by
      simp only [List.length_append, List.length_cons, List.length_nil, List.length_map, List.length_take]
      omega
    rw [dV h1, List.map_append, List.map_cons, List.map_nil]
    cases c1 : ((a.2.2.2.2.2.2[i]).2.2.2.2.1 == (-1 : Int)) <;> simp only [rB, sY, decide_eq_true (show (i : Int) < (a.2.2.2.2.2.2.length : Int) by omega), cond_true, cond_false, if_pos (show (0 : Int) <= (i : Int) by omega), Int.toNat_natCast, h1, ay, hw, c1, iU, if_pos (hz _), oh] <;> rfl) (by simp [rB, sY]) a.2.2.2.2.2.2.length 0 (vr ([], a.2.2.2.2.2.2, ((a.2.2.2.2.2.2).length : Int), 0, e, [], ())) (by omega) (by simp only [vr]; omega)
  have hk : Ay [] a.2.2.2.2.2.2 ((a.2.2.2.2.2.2).length : Int) 0 e [] 0 = true := bg h 0
  have hw : GR [] a.2.2.2.2.2.2 ((a.2.2.2.2.2.2).length : Int) 0 e [] = _ := bD h
  unfold d325 yE
  rw [hk, hw]
  rw [hb9]
  exact ⟨rfl, by simp⟩
theorem parts (a : Ty.T bo) (e : Ty.T y27) (hb : a.2.2.2.2.2.2.length <= 1048576) : d273 a e = true /\ d325 a e = true /\ yE a e = AZ a e := by
  by_cases h : a.1 = 9
  · have h1 := RZ a h e hb
    have h2 := Vp a h e hb
    exact ⟨h1.1, h2.1, by rw [h1.2, h2.2]⟩
  · have h1 := LQ a h e
    have h2 := TW a h e
    exact ⟨h1.1, h2.1, by rw [h1.2, h2.2]⟩
theorem Ff (a : Ty.T bo) (e : Ty.T y27) (hb : a.2.2.2.2.2.2.length <= 1048576) : (AZ a e).length <= a.2.2.2.2.2.2.length := by
  by_cases h : a.1 = 9
  · rw [(RZ a h e hb).2]; simp
  · rw [(LQ a h e).2]; simp
theorem fits (s : Ty.T y36) (x : Ty.T aq) (e : Ty.T y27) (hb : s.1.length <= 1048576) (hl : s.2.1.length <= 1048576) (hv : x.2.2.2.2.2.2.1.2.2.2.2.2.2.length <= 1048576) : d269 s x e = true /\ d182 s x e = true /\ Pj s x e = pd s x e := by
  have h1 := km x hv
  have h2 := holds s x.2.1 x.2.2.2.2.2.1 hb hl
  have h3 := afb s x.2.1 x.2.2.2.2.1 e hb
  unfold d269 d182 pd Pj
  rw [h1.1, h1.2.1, h1.2.2, Zz, adS, h2.1, h2.2.1, h2.2.2, h3.1, h3.2.1, h3.2.2]
  refine ⟨?_, ?_, rfl⟩ <;> simp
theorem Oy (s : Ty.T y36) (x : Ty.T aq) (e : Ty.T y27) (hv : x.2.2.2.2.2.2.1.2.2.2.2.2.2.length <= 1048576) (h : pd s x e = true) : ga x = true := by
  unfold pd at h
  rw [(km x hv).1] at h
  cases hc : ga x with
  | true => rfl
  | false => rw [hc] at h; cases h
theorem JG (x : Ty.T aq) (h : ga x = true) : @LE.le Int _ 0 x.2.2.2.1 /\ @LE.le Int _ x.2.2.2.1 4 := by
  cases hc : bt x.2.2.2.1 0 4 with
  | true =>
    simp only [bt] at hc
    have cc : ∀ (p q r : Bool), cond p q r = true ↔ (p = true /\ q = true) ∨ (p = false /\ r = true) := by decide
    have cf : ∀ (p q r : Bool), cond p q r = false ↔ (p = true /\ q = false) ∨ (p = false /\ r = false) := by decide
    simpa [cc, cf] using hc
  | false =>
    exfalso
    simp only [ga, t242, hc, nfs] at h
    cases h1 : bt x.1 1 99 <;> cases h2 : bt x.2.1 0 2 <;> cases h3 : bt x.2.2.1 0 99 <;> simp [h1, h2, h3] at h
theorem ea (l : List (Ty.T aq)) (id : Int) (hb : l.length <= 1048576) : d246 l id = true /\ N2 l id = (match first (fun i => match l[i]? with | some x => (x.1 == id) | none => false) 0 l.length with | some j => (j : Int) | none => -1) := by
  have h := dm (s := re) (mk := fun i => (l, id, 0, i, ())) (fin := fun i => (l, id, (i : Int), (i : Int), ())) (p := fun i => match l[i]? with | some x => (x.1 == id) | none => false) (N := l.length) (fun i hi => by
    have h1 := List.getElem?_eq_getElem hi
    simp only [h1]
    skip
    cases ht : (((l[i]).1 == id) : Bool) <;> simp [re, rS, ay, hi, h1, ht,  bE (n := i) (by omega)]) (by simp [re, rS]) l.length 0 (xb (l, id, 0, 0, ())) (by omega) (by simp [xb]; omega)
  unfold d246 N2
  revert h
  generalize first _ 0 l.length = o
  intro h
  cases o with
  | none =>
    have e0 : ky l id 0 0 0 = false := bg h 0
    have e1 : ky l id 0 0 1 = true := bg h 1
    rw [e0, e1]
    exact ⟨rfl, rfl⟩
  | some j =>
    have e0 : ky l id 0 0 0 = true := bg h 0
    have hw : Hd l id 0 0 = _ := bD h
    rw [e0, hw]
    exact ⟨rfl, rfl⟩
theorem eia (l : List (Ty.T aq)) (id : Int) (hb : l.length <= 1048576) : oF l id = true /\ qO l id = (match first (fun i => match l[i]? with | some x => (x.1 == id) | none => false) 0 l.length with | some j => (j : Int) | none => -1) := by
  have h := dm (s := jP) (mk := fun i => (l, id, 0, ((l).length : Int), i, ())) (fin := fun i => (l, id, (i : Int), ((l).length : Int), (i : Int), ())) (p := fun i => match l[i]? with | some x => (x.1 == id) | none => false) (N := l.length) (fun i hi => by
    have h1 := List.getElem?_eq_getElem hi
    simp only [h1]
    skip
    cases ht : (((l[i]).1 == id) : Bool) <;> simp [jP, jE, ay, hi, h1, ht, CF, bE (n := i) (by omega)]) (by simp [jP, jE]) l.length 0 (m6 (l, id, 0, ((l).length : Int), 0, ())) (by omega) (by simp [m6]; omega)
  unfold oF qO
  revert h
  generalize first _ 0 l.length = o
  intro h
  cases o with
  | none =>
    have e0 : eS l id 0 ((l).length : Int) 0 0 = false := bg h 0
    have e1 : eS l id 0 ((l).length : Int) 0 1 = true := bg h 1
    rw [e0, e1]
    exact ⟨rfl, rfl⟩
  | some j =>
    have e0 : eS l id 0 ((l).length : Int) 0 0 = true := bg h 0
    have hw : wK l id 0 ((l).length : Int) 0 = _ := bD h
    rw [e0, hw]
    exact ⟨rfl, rfl⟩
theorem ei (l : List (Ty.T aq)) (id : Int) (hb : l.length <= 1048576) : d229 l id = true /\ Qj l id = N2 l id := by
  have h1 := ea l id hb
  have h2 := eia l id hb
  unfold d229 Qj
  rw [h2.1, h2.2, h1.2]
  exact ⟨rfl, rfl⟩
theorem op5 {c : Int} (h : c <= 4) : ¬ c > 5 /\ c < 5 := by omega
theorem acv {c b : Int} (h1 : c <= 4) (h2 : b = 5) (h4 : ¬ c < b) : False := by omega
theorem acm {c b : Int} (h : c > b) : (c == b) = false := by simp; omega
theorem VC {c b : Int} (h1 : ¬ c > b) (h2 : ¬ c < b) : (c == b) = true := by simp; omega
noncomputable def lE (s : Ty.T y36) (e : Ty.T y27) (u : List (Ty.T (.int .i64))) (p : Int × List (Ty.T (.int .i64))) (x : Ty.T aq) : Int × List (Ty.T (.int .i64)) :=
  cond (u.any fun y => y == x.1) p (cond (!pd s x e) p (cond (decide (x.2.2.2.1 > p.1)) p (cond (decide (x.2.2.2.1 < p.1)) (x.2.2.2.1, [x.1]) (p.1, p.2 ++ [x.1]))))
structure OptI (l : List (Ty.T aq)) (u : List (Ty.T (.int .i64))) (n : Nat) (p : Int × List (Ty.T (.int .i64))) : Prop where
  len : p.2.length <= n
  top : (p.2 = [] /\ p.1 = 5) ∨ (p.2.length ≠ 0 /\ p.1 <= 4)
  mem : ∀ y ∈ p.2, (∃ x ∈ l, x.1 = y) /\ (u.any fun z => z == y) = false
theorem Qn {s : Ty.T y36} {e : Ty.T y27} {l : List (Ty.T aq)} {u : List (Ty.T (.int .i64))} {n : Nat} {p : Int × List (Ty.T (.int .i64))} {x : Ty.T aq} (hx : x ∈ l) (hv : x.2.2.2.2.2.2.1.2.2.2.2.2.2.length <= 1048576) (h : OptI l u n p) : OptI l u (n + 1) (lE s e u p x) := by
  unfold lE
  cases h1 : u.any fun y => y == x.1
  · cases h2 : pd s x e
    · exact ⟨Nat.le_succ_of_le h.len, h.top, h.mem⟩
    · have hc := JG x (Oy s x e hv h2)
      by_cases h3 : x.2.2.2.1 > p.1
      · simp only [h3, decide_true, Bool.not_true, cond_false, cond_true]
        exact ⟨Nat.le_succ_of_le h.len, h.top, h.mem⟩
      · by_cases h4 : x.2.2.2.1 < p.1
        · simp only [h3, h4, decide_true, decide_false, Bool.not_true, cond_false, cond_true]
          refine ⟨by simp, .inr ⟨by simp, by simpa using hc.2⟩, fun y hy => ?_⟩
          rw [List.mem_singleton] at hy
          subst hy
          exact ⟨⟨x, hx, rfl⟩, h1⟩
        · simp only [h3, h4, decide_false, Bool.not_true, cond_false]
          refine ⟨by simp only [List.length_append, List.length_cons, List.length_nil]; have := h.len; omega, .inr ⟨by simp, ?_⟩, fun y hy => ?_⟩
          · show p.1 <= 4
            rcases h.top with h5 | h5
            · exact (acv hc.2 h5.2 h4).elim
            · exact h5.2
          · rcases List.mem_append.1 hy with hy | hy
            · exact h.mem y hy
            · rw [List.mem_singleton] at hy
              subst hy
              exact ⟨⟨x, hx, rfl⟩, h1⟩
  · exact ⟨Nat.le_succ_of_le h.len, h.top, h.mem⟩
theorem BY (s : Ty.T y36) (e : Ty.T y27) (l : List (Ty.T aq)) (u : List (Ty.T (.int .i64))) (hv : ∀ x ∈ l, x.2.2.2.2.2.2.1.2.2.2.2.2.2.length <= 1048576) : ∀ n, n <= l.length -> OptI l u n ((l.take n).foldl (lE s e u) (5, []))
  | 0, _ => ⟨by simp, .inl ⟨rfl, rfl⟩, fun y hy => by cases hy⟩
  | n + 1, h => by
    rw [pH (List.getElem?_eq_getElem (l := l) (i := n) (by omega))]
    exact Qn (List.getElem_mem _) (hv _ (List.getElem_mem _)) (BY s e l u hv n (by omega))
theorem aeA (s : Ty.T y36) (l : List (Ty.T aq)) (e : Ty.T y27) (u : List (Ty.T (.int .i64))) (hb : s.1.length <= 1048576) (hs : s.2.1.length <= 1048576) (hn : l.length <= 1048576) (hu : u.length <= 1048576) (hv : ∀ x ∈ l, x.2.2.2.2.2.2.1.2.2.2.2.2.2.length <= 1048576) : d243 s l e u = true /\ GK s l e u = (l.foldl (lE s e u) (5, [])).2 := by
  have h := dK (s := q6) (f := fun i => (l, u, [], ((l.take i).foldl (lE s e u) (5, [])).1, (i : Int), s, e, ((l.take i).foldl (lE s e u) (5, [])).2, ())) (c := 0) (N := l.length) (v' := (l, u, [], ((l.take l.length).foldl (lE s e u) (5, [])).1, (l.length : Int), s, e, ((l.take l.length).foldl (lE s e u) (5, [])).2, ())) (fun i hi => by
    have h1 : l[i]? = some l[i] := List.getElem?_eq_getElem hi
    have hw := bE (n := i) (by omega)
    have hf := fits s l[i] e hb hs (hv _ (List.getElem_mem hi))
    have hh := acn u (l[i]).1 hu
    have hI := BY s e l u hv i (by omega)
    rw [pH h1]
    revert hI
    generalize (l.take i).foldl (lE s e u) (5, []) = p
    obtain ⟨b, o⟩ := p
    intro hI
    have hz : ∀ x : Int, (@HAppend.hAppend (List Int) (List Int) (List Int) _ o [x]).length * 8 <= 140737488351232 := fun x => by
      have : o.length <= i := hI.len
      simp only [List.length_append, List.length_cons, List.length_nil]
      omega
    have hz2 : (o.length + 1) * 8 <= 140737488351232 := by
      have : o.length <= i := hI.len
      omega
    cases c1 : u.any fun y => y == (l[i]).1 <;> cases c2 : pd s l[i] e <;> by_cases c3 : (l[i]).2.2.2.1 > b <;> by_cases c4 : (l[i]).2.2.2.1 < b <;> simp [q6, rD, hi, h1, ay, hw, hh.1, hh.2, hf.1, hf.2.1, hf.2.2, c1, c2, c3, c4, lE, hz2]) (by simp [q6, rD]) l.length 0 (u7 (l, u, [], 5, 0, s, e, [], ())) (by omega) (by simp only [u7]; omega)
  have hk : Co l u [] 5 0 s e [] 0 = true := bg h 0
  have hw : H6 l u [] 5 0 s e [] = _ := bD h
  unfold d243 GK
  rw [hk, hw]
  exact ⟨rfl, by simp⟩
def Q4 (p : Int × List (Ty.T (.int .i64))) : Int := match p.2 with | [] => 0 | _ :: _ => p.1
theorem afn (s : Ty.T y36) (l : List (Ty.T aq)) (e : Ty.T y27) (u : List (Ty.T (.int .i64))) (hb : s.1.length <= 1048576) (hs : s.2.1.length <= 1048576) (hn : l.length <= 1048576) (hu : u.length <= 1048576) (hv : ∀ x ∈ l, x.2.2.2.2.2.2.1.2.2.2.2.2.2.length <= 1048576) : d76 s l e u = true /\ v76 s l e u = (l.foldl (lE s e u) (5, [])).2 := by
  have h := dK (s := vg) (f := fun i => (u, [], (Q4 ((l.take i).foldl (lE s e u) (5, []))), l, ((l).length : Int), (i : Int), s, e, ((l.take i).foldl (lE s e u) (5, [])).2, ())) (c := 0) (N := l.length) (v' := (u, [], (Q4 ((l.take l.length).foldl (lE s e u) (5, []))), l, ((l).length : Int), (l.length : Int), s, e, ((l.take l.length).foldl (lE s e u) (5, [])).2, ())) (fun i hi => by
    have h1 : l[i]? = some l[i] := List.getElem?_eq_getElem hi
    have hw := bE (n := i) (by omega)
    have hf := fits s l[i] e hb hs (hv _ (List.getElem_mem hi))
    have hh := afj u (l[i]).1 hu
    have hI := BY s e l u hv i (by omega)
    rw [pH h1]
    revert hI
    generalize (l.take i).foldl (lE s e u) (5, []) = p
    obtain ⟨b, o⟩ := p
    intro hI
    have hz : ∀ x : Int, (@HAppend.hAppend (List Int) (List Int) (List Int) _ o [x]).length * 8 <= 140737488351232 := fun x => by
      have : o.length <= i := hI.len
      simp only [List.length_append, List.length_cons, List.length_nil]
      omega
    have hz2 : (o.length + 1) * 8 <= 140737488351232 := by
      have : o.length <= i := hI.len
      omega
    have hcl : pd s l[i] e = true -> (l[i]).2.2.2.1 <= 4 := fun h => (JG _ (Oy s _ e (hv _ (List.getElem_mem hi)) h)).2
    cases o with
    | nil =>
      have h5 : b = 5 := by
        rcases hI.top with h | h
        · exact h.2
        · exact absurd rfl h.1
      subst h5
      cases c1 : u.any fun y => y == (l[i]).1 <;> cases c2 : pd s l[i] e <;> try (have c3 := hcl c2)
      all_goals simp [vg, uX, hi, h1, ay, hw, hh.1, hh.2, hf.1, hf.2.1, hf.2.2, c1, c2, lE, Q4]
      all_goals simp [(op5 (hcl c2)).1, (op5 (hcl c2)).2]
    | cons y o =>
      have hl : ((((y :: o).length : Nat) : Int) == (0 : Int)) = false := by simp; omega
      have hl2 : (((o.length : Nat) : Int) + 1 == (0 : Int)) = false := by simp; omega
      cases c1 : u.any fun y => y == (l[i]).1 <;> cases c2 : pd s l[i] e <;> by_cases c3 : (l[i]).2.2.2.1 > b <;> by_cases c4 : (l[i]).2.2.2.1 < b <;> try exact (Int.lt_asymm c3 c4).elim
      all_goals (try (have c5 := acm c3))
      all_goals (try (have c5 := VC c3 c4))
      all_goals simp [vg, uX, hi, h1, ay, hw, hh.1, hh.2, hf.1, hf.2.1, hf.2.2, c1, c2, c3, c4, lE, Q4, hl, hl2]
      all_goals try simp [hl2, c5]
      all_goals try (simp only [List.length_cons] at hz2; simp [hz2])
      all_goals try omega) (by simp [vg, uX]) l.length 0 (DJ (u, [], 0, l, ((l).length : Int), 0, s, e, [], ())) (by omega) (by simp only [DJ]; omega)
  have hk : IL u [] 0 l ((l).length : Int) 0 s e [] 0 = true := bg h 0
  have hw : NJ u [] 0 l ((l).length : Int) 0 s e [] = _ := bD h
  unfold d76 v76
  rw [hk, hw]
  exact ⟨rfl, by simp⟩
theorem options (s : Ty.T y36) (l : List (Ty.T aq)) (e : Ty.T y27) (u : List (Ty.T (.int .i64))) (hb : s.1.length <= 1048576) (hs : s.2.1.length <= 1048576) (hn : l.length <= 1048576) (hu : u.length <= 1048576) (hv : ∀ x ∈ l, x.2.2.2.2.2.2.1.2.2.2.2.2.2.length <= 1048576) : d243 s l e u = true /\ d76 s l e u = true /\ v76 s l e u = GK s l e u /\ (GK s l e u).length <= l.length /\ (∀ y ∈ GK s l e u, (∃ x ∈ l, x.1 = y) /\ (u.any fun z => z == y) = false) := by
  have h1 := aeA s l e u hb hs hn hu hv
  have h2 := afn s l e u hb hs hn hu hv
  have h3 := BY s e l u hv l.length (Nat.le_refl _)
  rw [List.take_length] at h3
  rw [h1.2, h2.2]
  exact ⟨h1.1, h2.1, rfl, h3.len, h3.mem⟩
theorem dix (l : List (Ty.T y27)) (hb : l.length <= 1048576) : xX l = true /\ bh l = (match first (fun i => match l[i]? with | some x => (gl x) | none => false) 0 l.length with | some j => (j : Int) | none => -1) := by
  have h := dm (s := kb) (mk := fun i => (l, 0, ((l).length : Int), i, ())) (fin := fun i => (l, (i : Int), ((l).length : Int), (i : Int), ())) (p := fun i => match l[i]? with | some x => (gl x) | none => false) (N := l.length) (fun i hi => by
    have h1 := List.getElem?_eq_getElem hi
    simp only [h1]
    skip
    cases ht : ((gl l[i]) : Bool) <;> simp [kb, kc, ay, hi, h1, ht,  bE (n := i) (by omega)]) (by simp [kb, kc]) l.length 0 (mJ (l, 0, ((l).length : Int), 0, ())) (by omega) (by simp [mJ]; omega)
  unfold xX bh
  revert h
  generalize first _ 0 l.length = o
  intro h
  cases o with
  | none =>
    have e0 : e6 l 0 ((l).length : Int) 0 0 = false := bg h 0
    have e1 : e6 l 0 ((l).length : Int) 0 1 = true := bg h 1
    rw [e0, e1]
    exact ⟨rfl, rfl⟩
  | some j =>
    have e0 : e6 l 0 ((l).length : Int) 0 0 = true := bg h 0
    have hw : uY l 0 ((l).length : Int) 0 = _ := bD h
    rw [e0, hw]
    exact ⟨rfl, rfl⟩
theorem aay (l : List (Ty.T y27)) (hb : l.length <= 1048576) : wI l = true /\ xf l = l.filter fun x => !gl x := by
  have h0 := dix l hb
  cases hf : first (fun i => match l[i]? with | some x => (gl x) | none => false) 0 l.length with
  | none =>
    rw [hf] at h0
    have hk := zk (p := gl) (xs := l) (j := l.length) (fun t x ht hx => by have := pF hf t (by omega) (by omega); simpa only [hx] using this) (Nat.le_refl _)
    rw [List.take_length] at hk
    unfold wI xf oT
    try simp only [nfs]
    rw [h0.1, h0.2, ← hk]
    exact ⟨rfl, rfl⟩
  | some j =>
    rw [hf] at h0
    obtain ⟨_, hj, hp⟩ := gN hf
    have hk := zk (p := gl) (xs := l) (j := j) (fun t x ht hx => by have := yN hf t (by omega) (by omega); simpa only [hx] using this) (by omega)
    have hx : l[j]? = some l[j] := List.getElem?_eq_getElem (by omega)
    simp only [hx] at hp
    have hw1 := bE (n := j) (by omega)
    have h := ED (s := ic) (mk := fun k : List (Ty.T y27) × Nat × Nat => ([], (k.2.1 : Int), (k.2.2 : Int), k.1, ()))
      (Inv := fun t k => k.2.2 = t /\ k.2.1 < t /\ k.1.length = l.length /\ k.1.take k.2.1 = (l.take t).filter (fun x => !gl x) /\ ∀ r, t <= r -> k.1[r]? = l[r]?)
      (Q := fun v => ∃ (i : Nat) (m : List (Ty.T y27)), v = ([], (i : Int), (l.length : Int), m, ()) /\ i <= m.length /\ m.take i = l.filter fun x => !gl x)
      (c := 0) (N := l.length) (fun t k ht hI => by
        obtain ⟨m, i, r⟩ := k
        obtain ⟨hr, hi, hl, htk, hd⟩ := hI
        dsimp only at hr hi hl htk hd
        subst hr
        have hx : l[r]? = some l[r] := List.getElem?_eq_getElem ht
        have hm : m[r]? = some l[r] := by rw [hd r (Nat.le_refl _), hx]
        obtain ⟨y, hy⟩ : ∃ y, m[i]? = some y := ⟨m[i]'(by omega), List.getElem?_eq_getElem _⟩
        have g1 : (r : Int) < (m.length : Int) := by omega
        have g2 : (i : Int) < (m.length : Int) := by omega
        have g3 := bE (n := r) (by omega)
        have g4 := bE (n := i) (by omega)
        have g5 : (0 : Int) <= (r : Int) := by omega
        have g6 : (0 : Int) <= (i : Int) := by omega
        cases hq : gl l[r] with
        | false =>
          have h := Li (q := fun x => !gl x) hx hi hl htk hd (by rw [hq]; rfl)
          refine ⟨(m.set i l[r], i + 1, r + 1), ?_, rfl, h⟩
          simp only [ic, ij, decide_eq_true g1, cond_true, if_pos g5, if_pos g1, Int.toNat_natCast, hm, ay, hq, Bool.not_false, if_pos g6, if_pos g2, hy, g3, g4]
        | true =>
          have h := K3 (q := fun x => !gl x) hx hi htk hd (by rw [hq]; rfl)
          refine ⟨(m, i, r + 1), ?_, rfl, h.1, hl, h.2⟩
          simp only [ic, ij, decide_eq_true g1, cond_true, if_pos g5, if_pos g1, Int.toNat_natCast, hm, ay, hq, Bool.not_true, cond_false, g3])
      (fun k hI => by
        obtain ⟨m, i, r⟩ := k
        obtain ⟨hr, hi, hl, htk, hd⟩ := hI
        dsimp only at hr hi hl htk hd
        subst hr
        refine ⟨_, ?_, i, m, rfl, by omega, by rw [htk, List.take_length]⟩
        have g1 : ¬ ((l.length : Int) < (m.length : Int)) := by omega
        simp only [ic, ij, decide_eq_false g1, cond_false])
      (l.length - (j + 1)) (j + 1) (mW ([], (j : Int), ((j + 1 : Nat) : Int), l, ())) (l, j, j + 1) (by omega) (by simp only [mW]; omega) ⟨rfl, Nat.lt_succ_self j, rfl, by rw [fP hx, ← hk]; simp [hp], fun _ _ => rfl⟩
    obtain ⟨v', hv, i, m, rfl, hi, hm⟩ := h
    have hkk : FA [] (j : Int) ((j + 1 : Nat) : Int) l 0 = true := bg hv 0
    have hww : bY [] (j : Int) ((j + 1 : Nat) : Int) l = _ := bD hv
    have e1 : (((j : Nat) : Int) == (-1 : Int)) = false := by simp
    have e2 : ∀ R D : List (Ty.T y27), ((m.take i ++ R ++ D).take i) = m.take i := fun R D => by rw [List.append_assoc, List.take_append_of_le_length (by simp; omega), List.take_take, Nat.min_self]
    have g0 : (0 : Int) <= (i : Int) := by omega
    have g1 : (i : Int) <= (m.length : Int) := by omega
    have g2 : ∀ R D : List (Ty.T y27), (i : Int) <= ((m.take i ++ R ++ D).length : Int) := fun R D => by simp only [List.length_append, List.length_take]; omega
    unfold wI xf oT
    try simp only [nfs]
    rw [h0.1, h0.2]
    simp only [e1, hw1, hkk, hww, cond_true, cond_false, if_pos g0, if_pos g1, if_pos (g2 _ _), decide_eq_true g0, decide_eq_true g1, decide_eq_true (g2 _ _), Bool.and_true, Int.toNat_natCast, e2]
    rw [hm]
    exact ⟨trivial, rfl⟩
theorem Sh (e : Ty.T aq) (n : Int) (hb : e.2.2.2.2.2.2.1.2.2.2.2.2.2.length <= 1048576) : d275 e n = true /\ d289 e n = true /\ Ky e n = tZ e n := by
  have h1 := cpS e hb
  have h2 := cpI e hb
  unfold d275 d289 tZ Ky t275 t289
  try simp only [nfs]
  rw [h1.1, h1.2, h2.1, h2.2]
  simp only [cond_true, iU, less]
  cases (e.2.2.2.2.2.2.1.1 == (2 : Int)) <;> cases decide (e.2.2.2.2.2.2.2.2 > (0 : Int)) <;> simp
theorem VN (i1 i2 i3 i4 : Int) (p : Ty.T bS) (g : Ty.T aB) (k n po t z : Int) (b : Bool) (l : List (Ty.T y27)) (u lf : Int) (v : Ty.T y27) (e : Ty.T aq) (he : e = (i1, i2, i3, i4, p, g, (k, n, po, t, z, b, l), u, lf)) (hb : l.length <= 1048576) : eR ([], 0, 0, e.2.2.2.2.2.2.1.1, (e.2.2.2.2.2.2.1.1 == (1 : Int)), e, v, (0, 0, 0, 0, (0, 0, 0, 0, 0, 0, 0), (0, 0), (0, 0, 0, 0, 0, false, []), 0, 0), [], ()) = true /\ d287 e v = true /\ fm e v = bF ([], 0, 0, e.2.2.2.2.2.2.1.1, (e.2.2.2.2.2.2.1.1 == (1 : Int)), e, v, (0, 0, 0, 0, (0, 0, 0, 0, 0, 0, 0), (0, 0), (0, 0, 0, 0, 0, false, []), 0, 0), [], ()) := by
  have hp := parts (k, n, po, t, z, b, l) v hb
  subst he
  by_cases k1 : k = 1
  · subst k1
    simp [eR, bF, dx, fm, t287, d287, sI, t274, iU, oc, jy, hp.1, hp.2.1, hp.2.2, ef, nfs]
    try (cases (v.1 == (1 : Int)) <;> simp)
  by_cases k2 : k = 2
  · subst k2
    simp [eR, bF, dx, fm, t287, d287, sI, t274, iU, oc, jy, hp.1, hp.2.1, hp.2.2, ef, nfs]
    try (skip)
  by_cases k3 : k = 3
  · subst k3
    simp [eR, bF, dx, fm, t287, d287, sI, t274, iU, oc, jy, hp.1, hp.2.1, hp.2.2, ef, nfs]
    try (skip)
  by_cases k4 : k = 4
  · subst k4
    simp [eR, bF, dx, fm, t287, d287, sI, t274, iU, oc, jy, hp.1, hp.2.1, hp.2.2, ef, nfs]
    try (skip)
  by_cases k5 : k = 5
  · subst k5
    simp [eR, bF, dx, fm, t287, d287, sI, t274, iU, oc, jy, hp.1, hp.2.1, hp.2.2, ef, nfs]
    try (skip)
  by_cases k6 : k = 6
  · subst k6
    simp [eR, bF, dx, fm, t287, d287, sI, t274, iU, oc, jy, hp.1, hp.2.1, hp.2.2, ef, nfs]
    try (skip)
  by_cases k7 : k = 7
  · subst k7
    simp [eR, bF, dx, fm, t287, d287, sI, t274, iU, oc, jy, hp.1, hp.2.1, hp.2.2, ef, nfs]
    try (cases (z != (2 : Int)) <;> simp)
  by_cases k8 : k = 8
  · subst k8
    simp [eR, bF, dx, fm, t287, d287, sI, t274, iU, oc, jy, hp.1, hp.2.1, hp.2.2, ef, nfs]
    try (cases (v.2.2.2.2.2.1 == (2 : Int)) <;> cases v.2.2.2.2.2.2 <;> simp)
  by_cases k9 : k = 9
  · subst k9
    simp [eR, bF, dx, fm, t287, d287, sI, t274, iU, oc, jy, hp.1, hp.2.1, hp.2.2, ef, nfs]
    try (skip)
  have j1 : (k == (1 : Int)) = false := by simpa using k1
  have j2 : (k == (2 : Int)) = false := by simpa using k2
  have j3 : (k == (3 : Int)) = false := by simpa using k3
  have j4 : (k == (4 : Int)) = false := by simpa using k4
  have j5 : (k == (5 : Int)) = false := by simpa using k5
  have j6 : (k == (6 : Int)) = false := by simpa using k6
  have j7 : (k == (7 : Int)) = false := by simpa using k7
  have j8 : (k == (8 : Int)) = false := by simpa using k8
  have j9 : (k == (9 : Int)) = false := by simpa using k9
  simp [eR, bF, dx, fm, t287, d287, sI, t274, iU, oc, jy, hp.1, hp.2.1, hp.2.2, ef, j1, j2, j3, j4, j5, j6, j7, j8, j9, nfs]
theorem SG (e : Ty.T aq) (v : Ty.T y27) (hb : e.2.2.2.2.2.2.1.2.2.2.2.2.2.length <= 1048576) : eR ([], 0, 0, e.2.2.2.2.2.2.1.1, (e.2.2.2.2.2.2.1.1 == (1 : Int)), e, v, (0, 0, 0, 0, (0, 0, 0, 0, 0, 0, 0), (0, 0), (0, 0, 0, 0, 0, false, []), 0, 0), [], ()) = true /\ d287 e v = true /\ fm e v = bF ([], 0, 0, e.2.2.2.2.2.2.1.1, (e.2.2.2.2.2.2.1.1 == (1 : Int)), e, v, (0, 0, 0, 0, (0, 0, 0, 0, 0, 0, 0), (0, 0), (0, 0, 0, 0, 0, false, []), 0, 0), [], ()) := by
  obtain ⟨i1, i2, i3, i4, p, g, ⟨k, n, po, t, z, b, l⟩, u, lf⟩ := e
  exact VN i1 i2 i3 i4 p g k n po t z b l u lf v _ rfl hb
theorem Cq (e : Ty.T aq) (v : Ty.T y27) (hb : e.2.2.2.2.2.2.1.2.2.2.2.2.2.length <= 1048576) : (bF ([], 0, 0, e.2.2.2.2.2.2.1.1, (e.2.2.2.2.2.2.1.1 == (1 : Int)), e, v, (0, 0, 0, 0, (0, 0, 0, 0, 0, 0, 0), (0, 0), (0, 0, 0, 0, 0, false, []), 0, 0), [], ())).2.length <= 1048576 := by
  have hp := parts e.2.2.2.2.2.2.1 v hb
  have hl := Ff e.2.2.2.2.2.2.1 v hb
  simp only [bF, dx, hp.1]
  cases h1 : (e.2.2.2.2.2.2.1.1 == (1 : Int)) <;> cases h2 : (v.1 == (1 : Int)) <;> cases h3 : (e.2.2.2.2.2.2.1.1 == (2 : Int)) <;> cases h4 : (e.2.2.2.2.2.2.1.1 == (9 : Int)) <;> simp <;> omega
theorem Lq (n po t z : Int) (b : Bool) (l : List (Ty.T y27)) (h : rH ((9, n, po, t, z, b, l) : Ty.T bo) = true) : l.length <= 3 := by
  rcases Nat.lt_or_ge 3 l.length with hl | hl
  · exfalso
    have hf : cu (l.length : Int) 1 3 = false := by simp [cu]; omega
    simp [rH, t285, vG, ov, wv, mS, uW, hf, nfs] at h
  · exact hl
theorem P9 (e : Ty.T aq) (hb : e.2.2.2.2.2.2.1.2.2.2.2.2.2.length <= 1048576) (h : ga e = true) (h9 : e.2.2.2.2.2.2.1.1 = 9) : e.2.2.2.2.2.2.1.2.2.2.2.2.2.length <= 3 := by
  rw [← (km e hb).2.2] at h
  have ha : rH e.2.2.2.2.2.2.1 = true := by
    cases hc : rH e.2.2.2.2.2.2.1 with
    | true => rfl
    | false =>
      exfalso
      have hd := (Sj e.2.2.2.2.2.2.1 hb).2.1
      simp [yA, t227, hc, hd, nfs] at h
  obtain ⟨i1, i2, i3, i4, p, g, ⟨k, n, po, t, z, b, l⟩, u, lf⟩ := e
  dsimp only at h9 ha ⊢
  subst h9
  exact Lq n po t z b l ha
theorem Qa (e : Ty.T aq) (v : Ty.T y27) (hb : e.2.2.2.2.2.2.1.2.2.2.2.2.2.length <= 1048576) (h : ga e = true) : (bF ([], 0, 0, e.2.2.2.2.2.2.1.1, (e.2.2.2.2.2.2.1.1 == (1 : Int)), e, v, (0, 0, 0, 0, (0, 0, 0, 0, 0, 0, 0), (0, 0), (0, 0, 0, 0, 0, false, []), 0, 0), [], ())).2.length <= 3 := by
  have hp := parts e.2.2.2.2.2.2.1 v hb
  have hl := Ff e.2.2.2.2.2.2.1 v hb
  by_cases h9 : e.2.2.2.2.2.2.1.1 = 9
  · have h3 := P9 e hb h h9
    simp only [bF, dx, hp.1, h9]
    simp
    omega
  · have h4 : (e.2.2.2.2.2.2.1.1 == (9 : Int)) = false := by simpa using h9
    simp only [bF, dx, hp.1, h4]
    cases h1 : (e.2.2.2.2.2.2.1.1 == (1 : Int)) <;> cases h2 : (v.1 == (1 : Int)) <;> cases h3 : (e.2.2.2.2.2.2.1.1 == (2 : Int)) <;> simp
theorem W8 (x : Ty.T y27) : (!gl x) = cond (c8 x) (!Lx x) false := by
  unfold gl
  rw [M0, gone]
  cases c8 x <;> rfl
theorem J7 (e : Ty.T aq) (r : Int) (l : List (Ty.T y27)) (hb : l.length <= 1048576) : iter oK (wZ ([], 0, r, 0, e, (0, 0, 0, 0, (0, 0, 0, 0, 0, 0, 0), (0, 0), (0, 0, 0, 0, 0, false, []), 0, 0), l, [], ())) ([], 0, r, 0, e, (0, 0, 0, 0, (0, 0, 0, 0, 0, 0, 0), (0, 0), (0, 0, 0, 0, 0, false, []), 0, 0), l, [], ()) = some (0, ([], 0, r, (l.length : Int), e, (0, 0, 0, 0, (0, 0, 0, 0, 0, 0, 0), (0, 0), (0, 0, 0, 0, 0, false, []), 0, 0), l, (l.filter fun x => !gl x), ())) := by
  refine dK (s := oK) (f := fun i => ([], 0, r, (i : Int), e, (0, 0, 0, 0, (0, 0, 0, 0, 0, 0, 0), (0, 0), (0, 0, 0, 0, 0, false, []), 0, 0), l, ((l.take i).filter fun x => !gl x), ())) (c := 0) (N := l.length) (fun i hi => ?_) ?_ l.length 0 _ (by omega) (by simp only [wZ]; omega)
  · have h1 : l[i]? = some l[i] := List.getElem?_eq_getElem hi
    have hw := bE (n := i) (by omega)
    have hz : ∀ x : Ty.T y27, ((l.take i).filter (fun x => !gl x) ++ [x]).length * 56 <= 140737488351232 := fun x => by
      have := List.length_filter_le (fun x => !gl x) (l.take i)
      simp only [List.length_append, List.length_cons, List.length_nil, List.length_take] at this ⊢
      omega
    have g5 : (0 : Int) <= (i : Int) := by omega
    have g6 : (i : Int) < (l.length : Int) := by omega
    have hk := W8 l[i]
    rw [fP h1, hk]
    cases c1 : c8 l[i] <;> cases c2 : Lx l[i] <;> simp only [oK, qU, HG, pM, kr, GC, Hx, Gv, sS, decide_eq_true g6, cond_true, cond_false, if_pos g5, if_pos g6, Int.toNat_natCast, h1, ay, c1, c2, hw, Bool.not_true, Bool.not_false, if_pos (hz _), decide_eq_true (hz _), decide_eq_true g5, Bool.and_true, List.append_nil, Option.getD_some, Option.isSome_some]
  · simp [oK, qU]
theorem Zo (e : Ty.T aq) (v : Ty.T y27) (hb : e.2.2.2.2.2.2.1.2.2.2.2.2.2.length <= 1048576) : d214 e v = true /\ d228 e v = true /\ Vl e v = vk e v /\ (vk e v).2.2.2.1.length <= 3 /\ (vk e v).2.2.2.2 = e.2.2.2.2.2.2.1.2.2.2.2.2.2 /\ (vk e v).2.1 = (((e.1, e.2.1, e.2.2.1, e.2.2.2.1, e.2.2.2.2.1, e.2.2.2.2.2.1, e.2.2.2.2.2.2.1.1, e.2.2.2.2.2.2.1.2.1, e.2.2.2.2.2.2.1.2.2.1, e.2.2.2.2.2.2.1.2.2.2.1, e.2.2.2.2.2.2.1.2.2.2.2.1, e.2.2.2.2.2.2.1.2.2.2.2.2.1), e.2.2.2.2.2.2.2, e.2.2.2.2.2.2.1.2.2.2.2.2.2)).1 := by
  have h1 := km e hb
  have h2 := SG e v hb
  have h3 := J7 e (bF ([], 0, 0, e.2.2.2.2.2.2.1.1, (e.2.2.2.2.2.2.1.1 == (1 : Int)), e, v, (0, 0, 0, 0, (0, 0, 0, 0, 0, 0, 0), (0, 0), (0, 0, 0, 0, 0, false, []), 0, 0), [], ())).1 (bF ([], 0, 0, e.2.2.2.2.2.2.1.1, (e.2.2.2.2.2.2.1.1 == (1 : Int)), e, v, (0, 0, 0, 0, (0, 0, 0, 0, 0, 0, 0), (0, 0), (0, 0, 0, 0, 0, false, []), 0, 0), [], ())).2 (Cq e v hb)
  have h4 := cpS e hb
  have h5 := cpI e hb
  have h6 := Sh e (bF ([], 0, 0, e.2.2.2.2.2.2.1.1, (e.2.2.2.2.2.2.1.1 == (1 : Int)), e, v, (0, 0, 0, 0, (0, 0, 0, 0, 0, 0, 0), (0, 0), (0, 0, 0, 0, 0, false, []), 0, 0), [], ())).1 hb
  have h7 := aay (bF ([], 0, 0, e.2.2.2.2.2.2.1.1, (e.2.2.2.2.2.2.1.1 == (1 : Int)), e, v, (0, 0, 0, 0, (0, 0, 0, 0, 0, 0, 0), (0, 0), (0, 0, 0, 0, 0, false, []), 0, 0), [], ())).2 (Cq e v hb)
  have h8 := Cq e v hb
  have hk : Ig [] 0 (bF ([], 0, 0, e.2.2.2.2.2.2.1.1, (e.2.2.2.2.2.2.1.1 == (1 : Int)), e, v, (0, 0, 0, 0, (0, 0, 0, 0, 0, 0, 0), (0, 0), (0, 0, 0, 0, 0, false, []), 0, 0), [], ())).1 0 e (0, 0, 0, 0, (0, 0, 0, 0, 0, 0, 0), (0, 0), (0, 0, 0, 0, 0, false, []), 0, 0) (bF ([], 0, 0, e.2.2.2.2.2.2.1.1, (e.2.2.2.2.2.2.1.1 == (1 : Int)), e, v, (0, 0, 0, 0, (0, 0, 0, 0, 0, 0, 0), (0, 0), (0, 0, 0, 0, 0, false, []), 0, 0), [], ())).2 [] 0 = true := bg h3 0
  have hw : GX [] 0 (bF ([], 0, 0, e.2.2.2.2.2.2.1.1, (e.2.2.2.2.2.2.1.1 == (1 : Int)), e, v, (0, 0, 0, 0, (0, 0, 0, 0, 0, 0, 0), (0, 0), (0, 0, 0, 0, 0, false, []), 0, 0), [], ())).1 0 e (0, 0, 0, 0, (0, 0, 0, 0, 0, 0, 0), (0, 0), (0, 0, 0, 0, 0, false, []), 0, 0) (bF ([], 0, 0, e.2.2.2.2.2.2.1.1, (e.2.2.2.2.2.2.1.1 == (1 : Int)), e, v, (0, 0, 0, 0, (0, 0, 0, 0, 0, 0, 0), (0, 0), (0, 0, 0, 0, 0, false, []), 0, 0), [], ())).2 [] = _ := bD h3
  have hs : (tZ e (bF ([], 0, 0, e.2.2.2.2.2.2.1.1, (e.2.2.2.2.2.2.1.1 == (1 : Int)), e, v, (0, 0, 0, 0, (0, 0, 0, 0, 0, 0, 0), (0, 0), (0, 0, 0, 0, 0, false, []), 0, 0), [], ())).1).2.2 = e.2.2.2.2.2.2.1.2.2.2.2.2.2 /\ (tZ e (bF ([], 0, 0, e.2.2.2.2.2.2.1.1, (e.2.2.2.2.2.2.1.1 == (1 : Int)), e, v, (0, 0, 0, 0, (0, 0, 0, 0, 0, 0, 0), (0, 0), (0, 0, 0, 0, 0, false, []), 0, 0), [], ())).1).1 = (((e.1, e.2.1, e.2.2.1, e.2.2.2.1, e.2.2.2.2.1, e.2.2.2.2.2.1, e.2.2.2.2.2.2.1.1, e.2.2.2.2.2.2.1.2.1, e.2.2.2.2.2.2.1.2.2.1, e.2.2.2.2.2.2.1.2.2.2.1, e.2.2.2.2.2.2.1.2.2.2.2.1, e.2.2.2.2.2.2.1.2.2.2.2.2.1), e.2.2.2.2.2.2.2, e.2.2.2.2.2.2.1.2.2.2.2.2.2)).1 := by
    unfold tZ t275
    try simp only [nfs]
    rw [h4.1, h4.2]
    simp only [cond_true]
    cases (e.2.2.2.2.2.2.1.1 == (2 : Int)) <;> cases decide (e.2.2.2.2.2.2.2.2 > (0 : Int)) <;> exact ⟨rfl, rfl⟩
  have hg : qX ([], 0, e, v, (0, 0, 0, 0, (0, 0, 0, 0, 0, 0, 0), (0, 0), (0, 0, 0, 0, 0, false, []), 0, 0), ()) = true /\ rz ([], 0, e, v, (0, 0, 0, 0, (0, 0, 0, 0, 0, 0, 0), (0, 0), (0, 0, 0, 0, 0, false, []), 0, 0), ()) = cond (!ga e) true (cond (!c8 v) true (!lF e.2.2.2.2.2.2.1 v.1)) := by
    simp only [qX, rz, oS, h1.1, cond_true]
    cases ga e <;> cases c8 v <;> exact ⟨rfl, rfl⟩
  unfold d214 d228 vk Vl t214 t228
  try simp only [nfs]
  rw [hg.1, hg.2, h1.2.1, h1.2.2, M0, I9]
  cases c1 : ga e
  · rw [h4.1, h4.2, h5.1, h5.2]
    simp
  cases c2 : c8 v
  · rw [h4.1, h4.2, h5.1, h5.2]
    simp
  cases c3 : lF e.2.2.2.2.2.2.1 v.1
  · rw [h4.1, h4.2, h5.1, h5.2]
    simp
  have h9 : ((bF ([], 0, 0, e.2.2.2.2.2.2.1.1, (e.2.2.2.2.2.2.1.1 == (1 : Int)), e, v, (0, 0, 0, 0, (0, 0, 0, 0, 0, 0, 0), (0, 0), (0, 0, 0, 0, 0, false, []), 0, 0), [], ())).2.filter fun x => !gl x).length <= 3 := Nat.le_trans (List.length_filter_le _ _) (Qa e v hb c1)
  simp only [rK, gf]
  rw [h2.1, h2.2.1, h2.2.2, hk, hw]
  simp only [h7.1, h7.2, h6.1, h6.2.1, h6.2.2, hs.1, hs.2, h9, cond_true, cond_false, Bool.not_true, Option.getD_some, Option.isSome_some, and_true, true_and]
def cur (c : Ty.T af) : Prop := (0 : Int) <= id (α := Int) c.2.1 /\ id (α := Int) c.2.1 <= (c.1.length : Int) /\ (c.1.length : Int) <= 1099511627776
theorem L8 (x : Int) : 0 <= IntKind.wrap .i64 ((BitVec.ofInt (IntKind.bits .i64) x &&& BitVec.ofInt (IntKind.bits .i64) (255 : Int)).toNat : Int) /\ IntKind.wrap .i64 ((BitVec.ofInt (IntKind.bits .i64) x &&& BitVec.ofInt (IntKind.bits .i64) (255 : Int)).toNat : Int) <= 255 := by
  have h : (BitVec.ofInt (IntKind.bits .i64) x &&& BitVec.ofInt (IntKind.bits .i64) (255 : Int)).toNat <= 255 := by
    rw [BitVec.toNat_and]
    exact Nat.le_trans Nat.and_le_right (by decide)
  rw [ba (by omega) (by omega)]
  omega
theorem WD (b : List Int) (i k : Int) (h1 : 0 <= i) (h2 : i <= (b.length : Int)) (h3 : (b.length : Int) <= 1099511627776) : mc (b, i, k) = true /\ (0 <= (cJ (b, i, k)).1 /\ (cJ (b, i, k)).1 <= 255) /\ cur (cJ (b, i, k)).2 := by
  unfold mc cJ sU
  try simp only [nfs]
  dsimp only [Ty.T]
  by_cases hl : i < (b.length : Int)
  · have hi : i.toNat < b.length := by omega
    simp only [hl, decide_true, cond_true, h1, Bool.true_and, ua, yF, List.getElem?_eq_getElem hi]
    refine ⟨trivial, L8 _, ?_⟩
    show (0 : Int) <= IntKind.wrap .i64 (i + 1) /\ IntKind.wrap .i64 (i + 1) <= (b.length : Int) /\ (b.length : Int) <= 1099511627776
    rw [ba (by omega) (by omega)]
    omega
  · simp only [hl, decide_false, cond_false]
    exact ⟨trivial, L8 _, h1, h2, h3⟩
theorem byte (c : Ty.T af) (h : cur c) : mc c = true /\ (0 <= (cJ c).1 /\ (cJ c).1 <= 255) /\ cur (cJ c).2 := WD c.1 c.2.1 c.2.2 h.1 h.2.1 h.2.2
theorem below (n : Int) (c : Ty.T af) (h : cur c) : bn n c = true /\ (0 < n -> 0 <= (aa n c).1 /\ (aa n c).1 < n) /\ cur (aa n c).2 := by
  have b1 := byte c h
  have b2 := byte _ b1.2.2
  have b3 := byte _ b2.2.2
  unfold bn aa pn
  try simp only [nfs]
  by_cases h0 : n <= 0
  · simp only [h0, decide_true, cond_true]
    exact ⟨trivial, fun h => by omega, h⟩
  · have hn : ¬ n = 0 := by omega
    simp only [h0, decide_false, cond_false, b1.1, b2.1, b3.1, cond_true, hn, Bool.not_false, Bool.and_true]
    by_cases h1 : n <= 256
    · simp only [h1, decide_true, cond_true]
      exact ⟨trivial, fun _ => ⟨Int.tmod_nonneg _ b1.2.1.1, Int.tmod_lt_of_pos _ (by omega)⟩, b1.2.2⟩
    · simp only [h1, decide_false, cond_false]
      refine ⟨trivial, fun _ => ⟨Int.tmod_nonneg _ ?_, Int.tmod_lt_of_pos _ (by omega)⟩, b3.2.2⟩
      obtain ⟨_, ⟨p1, p2⟩, _⟩ := b1
      obtain ⟨_, ⟨q1, q2⟩, _⟩ := b2
      obtain ⟨_, ⟨r1, r2⟩, _⟩ := b3
      rw [ba (n := (cJ c).1 * 65536) (by omega) (by omega), ba (n := (cJ (cJ c).2).1 * 256) (by omega) (by omega), ba (n := (cJ c).1 * 65536 + _) (by omega) (by omega), ba (by omega) (by omega)]
      omega
theorem oneOf (l : List Int) (c : Ty.T af) (hl : l ≠ []) (h : cur c) : bm l c = true /\ (ah l c).1 ∈ l /\ cur (ah l c).2 := by
  have hp : 0 < l.length := List.length_pos_iff.2 hl
  obtain ⟨b1, b2, b3⟩ := below (l.length : Int) c h
  have b2 := b2 (by omega)
  unfold bm ah
  have hi : ((aa (l.length : Int) c).1).toNat < l.length := by omega
  have h0 := b2.1
  simp only [b1, cond_true, h0, decide_true, Bool.true_and, ua, yF]
  simp only [List.getElem?_eq_getElem hi]
  exact ⟨trivial, List.getElem_mem hi, b3⟩
theorem once (n : Int) (c : Ty.T af) (h : cur c) : cE n c = true /\ cur (an n c).2 := by
  have b := below n c h
  unfold cE an
  simp only [b.1, cond_true]
  exact ⟨trivial, b.2.2⟩
theorem Qi (b : List Int) (hh i : Int) (h0 : 0 <= i) (hb : i <= 1099511627776) : (i < (b.length : Int) /\ ∃ h' : Int, oY (b, hh, i, ()) = some (0, (b, h', i + 1, ()))) ∨ oY (b, hh, i, ()) = some (1, (b, hh, i, ())) := by
  unfold oY xY
  dsimp only [Ty.T]
  by_cases hl : i < (b.length : Int)
  · by_cases h4 : i < 4000
    · have hi : i.toNat < b.length := by omega
      have e : IntKind.wrap .i64 (i + 1) = i + 1 := ba (by omega) (by omega)
      refine .inl ⟨hl, ?w, ?h⟩
      case h =>
        simp only [hl, h4, decide_true, cond_true, h0, if_true, bc, List.getElem?_eq_getElem hi, e]
        rfl
    · right
      simp only [hl, h4, decide_true, decide_false, cond_true, cond_false]
  · right
    simp only [hl, decide_false, cond_false]
theorem afx (b : List Int) (hb : (b.length : Int) <= 1099511627776) : d116 b = true /\ cur (b8 b) := by
  have h : ∀ x : Int, _ := fun x => vY (s := oY) (Q := fun v => v.1 = b) (fun k v => ∃ hh i : Int, v = (b, hh, i, ()) /\ 0 <= i /\ i + k = b.length) (fun k v hv => by
    obtain ⟨hh, i, rfl, h0, hk⟩ := hv
    rcases Qi b hh i h0 (by omega) with ⟨hl, h', h1⟩ | h1
    · exact .inr ⟨k - 1, _, by omega, h1, h', i + 1, rfl, by omega, by omega⟩
    · exact .inl ⟨_, h1, rfl⟩) b.length (b, x, (0 : Int), ()) (vI (b, x, (0 : Int), ())) ⟨x, 0, rfl, by omega, by omega⟩ (by simp only [vI]; omega)
  unfold d116 b8
  obtain ⟨v', h1, h2⟩ := h (IntKind.wrap .i64 ((139871 : Int) + (b.length : Int)))
  have e1 : B0 b (IntKind.wrap .i64 ((139871 : Int) + (b.length : Int))) 0 0 = true := bg h1 0
  have e2 : wE b (IntKind.wrap .i64 ((139871 : Int) + (b.length : Int))) 0 = v' := bD h1
  simp only [e1, e2, cond_true]
  refine ⟨trivial, ?_⟩
  rw [h2]
  exact ⟨Int.le_refl _, Int.natCast_nonneg _, hb⟩
theorem cr {n : Int} {c : Ty.T af} (h : cur c) : bn n c = true := (below n c h).1
theorem bQ {n : Int} {c : Ty.T af} (h : cur c) : cur (aa n c).2 := (below n c h).2.2
theorem dk {n : Int} {c : Ty.T af} (h : cur c) : cE n c = true := (once n c h).1
theorem ct {n : Int} {c : Ty.T af} (h : cur c) : cur (an n c).2 := (once n c h).2
theorem cB {l : List (Ty.T (.int .i64))} {c : Ty.T af} (hl : l ≠ []) (h : cur c) : bm l c = true := (oneOf l c hl h).1
theorem bG {l : List (Ty.T (.int .i64))} {c : Ty.T af} (hl : l ≠ []) (h : cur c) : cur (ah l c).2 := (oneOf l c hl h).2.2
theorem Iv {n : Int} {c : Ty.T af} {p q : Ty.T y63} {l : List Int} (h : cur c) (hn : n = l.length) (hb : l.length <= 1000) : xz n 0 c p q l 0 = true /\ cur (qh n 0 c p q l).2.2.1 := by
  have := eP (s := iL) (Q := fun v => cur v.2.2.1) (fun k v => ∃ (i : Int) (c : Ty.T af) (q : Ty.T y63), v = (n, i, c, p, q, l, ()) /\ cur c /\ 0 <= i /\ i + k = n) (fun k v hv => by
    obtain ⟨i, c, q, rfl, h1, h3, h4⟩ := hv
    unfold iL jT
    dsimp only
    simp (maxDischargeDepth := 99) only [false_and, and_false, aF, ab, false_and, and_false, aV, aU, aT, aG, cond_true, cond_false, and_true, true_and, implies_true, and_self, ne_eq, reduceCtorEq, not_false_eq_true, true_or, or_true, false_or, or_false, Nat.zero_ne_one, Nat.one_ne_zero, List.length_cons, List.length_nil, Nat.reduceAdd, Nat.reduceLeDiff, Int.cast_ofNat_Int, bL, bj, bJ, bl, bK, bH, dk, ct, h1]
    intro hl
    have hl : i < n := of_decide_eq_true hl
    obtain ⟨b, hb1, _⟩ := He (l := l) h3 (by omega)
    have e : IntKind.wrap .i64 (i + 1) = i + 1 := ba (by omega) (by omega)
    have hl2 : i < (l.length : Int) := by omega
    refine ⟨h3, hl2, b, hb1, k - 1, by omega, i + 1, _, _, by rw [e], ct h1, by omega, by omega⟩) l.length (n, 0, c, p, q, l, ()) (il (n, 0, c, p, q, l, ())) ⟨0, c, q, rfl, h, by omega, by omega⟩ (by simp only [il]; omega)
  exact ⟨this.1.1, this.2⟩
theorem Dd {c : Ty.T af} {p q : Ty.T y63} {l : List (Ty.T (.int .i64))} (hl : (6 : Int) = l.length) (h : cur c) : xz 6 0 c p q l 0 = true := (Iv (l := l) h hl (by omega)).1
theorem BJ {c : Ty.T af} {p q : Ty.T y63} {l : List (Ty.T (.int .i64))} (hl : (6 : Int) = l.length) (h : cur c) : cur (qh 6 0 c p q l).2.2.1 := (Iv (l := l) h hl (by omega)).2
theorem tv {a1 : Ty.T af} (h0 : cur a1) : cur (cC a1).2 := by
  unfold cC
  simp (maxDischargeDepth := 99) only [false_and, and_false, aF, ab, false_and, and_false, aV, aU, aT, aG, cond_true, cond_false, and_true, true_and, implies_true, and_self, ne_eq, reduceCtorEq, not_false_eq_true, true_or, or_true, false_or, or_false, Nat.zero_ne_one, Nat.one_ne_zero, List.length_cons, List.length_nil, Nat.reduceAdd, Nat.reduceLeDiff, Int.cast_ofNat_Int, cr, bQ, cB, bG, h0]
theorem tk {a0 : Int} {a1 : Ty.T af} (h0 : cur a1) : cur (bU a0 a1).2.2.1 := by
  unfold bU
  simp (maxDischargeDepth := 99) only [false_and, and_false, aF, ab, false_and, and_false, aV, aU, aT, aG, cond_true, cond_false, and_true, true_and, implies_true, and_self, ne_eq, reduceCtorEq, not_false_eq_true, true_or, or_true, false_or, or_false, Nat.zero_ne_one, Nat.one_ne_zero, List.length_cons, List.length_nil, Nat.reduceAdd, Nat.reduceLeDiff, Int.cast_ofNat_Int, Dd, BJ, cr, bQ, tv, cB, bG, h0]
theorem EL {a0 : Int} {a1 : Ty.T af} (h0 : cur a1) : cur (eT a0 a1).2 := by
  unfold eT
  simp (maxDischargeDepth := 99) only [false_and, and_false, aF, ab, false_and, and_false, aV, aU, aT, aG, cond_true, cond_false, and_true, true_and, implies_true, and_self, ne_eq, reduceCtorEq, not_false_eq_true, true_or, or_true, false_or, or_false, Nat.zero_ne_one, Nat.one_ne_zero, List.length_cons, List.length_nil, Nat.reduceAdd, Nat.reduceLeDiff, Int.cast_ofNat_Int, cB, bG, dk, ct, tk, h0]
theorem JY {a0 : Int} {a1 : Ty.T af} (h0 : cur a1) : Sat (jx a0 a1 some) (fun r => cur r.2) := by
  unfold jx
  simp (maxDischargeDepth := 99) only [false_and, and_false, aF, ab, false_and, and_false, aV, aU, aT, aG, cond_true, cond_false, and_true, true_and, implies_true, and_self, ne_eq, reduceCtorEq, not_false_eq_true, true_or, or_true, false_or, or_false, Nat.zero_ne_one, Nat.one_ne_zero, List.length_cons, List.length_nil, Nat.reduceAdd, Nat.reduceLeDiff, Int.cast_ofNat_Int, bL, bj, bJ, bl, bK, bH, cr, bQ, cB, bG, tv, Dd, BJ, tk, dk, ct, EL, h0]
theorem qS {a0 : Int} {a1 : Ty.T af} (h0 : cur a1) : qQ a0 a1 = true := (JY h0).d
theorem jK {a0 : Int} {a1 : Ty.T af} (h0 : cur a1) : cur (cU a0 a1).2 := (JY h0).v
theorem Nn (x : Int) : -9223372036854775808 <= IntKind.wrap .i64 x /\ IntKind.wrap .i64 x <= 9223372036854775807 := by
  simp only [IntKind.wrap, IntKind.bits, IntKind.signed, Bool.true_and]
  split
  · rename_i h
    simp only [decide_eq_true_eq, ge_iff_le] at h
    omega
  · rename_i h
    simp only [decide_eq_true_eq, ge_iff_le] at h
    omega
def inR (x a b : Int) : Prop := a <= x /\ x <= b
def I6 (n : Int) : Prop := -9223372036854775808 <= n /\ n <= 9223372036854775807
instance (n : Int) : Decidable (I6 n) := by unfold I6; infer_instance
theorem MP (x : Int) : I6 (IntKind.wrap .i64 x) := Nn x
theorem mP {x : Int} (h0 : -1048576 <= x) (h1 : x <= 1048576) : I6 x := by unfold I6; omega
theorem yD {l : List Int} {c : Ty.T af} (h : cur c) (hl : l ≠ []) (hr : ∀ x ∈ l, I6 x) : I6 (ah l c).1 := hr _ (oneOf l c hl h).2.1
theorem UA {n : Int} {c : Ty.T af} (h : cur c) (h0 : 0 < n) (h1 : n <= 1048576) : I6 (aa n c).1 := by have := (below n c h).2.1 h0; exact mP (by omega) (by omega)

/-- A piece as it is drawn. -/
def PcR (id : Int) (p : Ty.T y63) : Prop := @Eq Int p.1 id /\ inR p.2.1 0 1 /\ inR p.2.2.1 0 1 /\ inR p.2.2.2.1 1 3 /\ inR p.2.2.2.2.1 0 2 /\ inR p.2.2.2.2.2.1 0 4 /\ inR p.2.2.2.2.2.2.1 1 5 /\ inR p.2.2.2.2.2.2.2.1 0 63 /\ inR p.2.2.2.2.2.2.2.2.1 0 2 /\ inR p.2.2.2.2.2.2.2.2.2.1 0 1 /\ inR p.2.2.2.2.2.2.2.2.2.2.1 0 1 /\ p.2.2.2.2.2.2.2.2.2.2.2.1 = false /\ (¬ @Eq Int p.2.2.2.1 2 -> @Eq Int p.2.2.1 p.2.1 /\ @Eq Int p.2.2.2.2.2.2.2.2.1 0 /\ @Eq Int p.2.2.2.2.2.2.2.2.2.1 0 /\ @Eq Int p.2.2.2.2.2.2.2.2.2.2.1 0 /\ p.2.2.2.2.2.2.2.2.2.2.2.2 = false)
theorem QQ {c : Ty.T af} {p : Ty.T y63} {a b s z m o u : Int} (h : cur c) : ∃ t : Int, 0 <= t /\ t <= 63 /\ (qh 6 0 c p (a, b, s, z, m, o, u, 0, 0, 0, 0, false, false) ([1, 2, 4, 8, 16, 32] : List Int)).2.2.2.2.1 = (a, b, s, z, m, o, u, t, 0, 0, 0, false, false) := by
  have := eP (s := iL) (Q := fun v => ∃ t : Int, 0 <= t /\ t <= 63 /\ v.2.2.2.2.1 = (a, b, s, z, m, o, u, t, 0, 0, 0, false, false)) (fun k v => ∃ (i t : Int) (c : Ty.T af), v = (6, i, c, p, (a, b, s, z, m, o, u, t, 0, 0, 0, false, false), ([1, 2, 4, 8, 16, 32] : List Int), ()) /\ cur c /\ 0 <= t /\ i + k = 6 /\ ((i = 0 /\ t <= 0) ∨ (i = 1 /\ t <= 1) ∨ (i = 2 /\ t <= 3) ∨ (i = 3 /\ t <= 7) ∨ (i = 4 /\ t <= 15) ∨ (i = 5 /\ t <= 31) ∨ (i = 6 /\ t <= 63))) (fun k v hv => by
    obtain ⟨i, t, c, rfl, h1, h2, h3, h4⟩ := hv
    have z1 := dk (n := 3) h1
    have z2 := ct (n := 3) h1
    unfold iL jT
    dsimp only
    have go : ∀ x : Int, ([1, 2, 4, 8, 16, 32] : List Int)[i.toNat]? = some x -> 0 <= i -> i < 6 -> 0 <= x -> x <= 32 -> (t + x <= 63) -> Sat (cond (decide (i < (6 : Int))) (if 0 <= i then (if i < ((([1, 2, 4, 8, 16, 32] : List Int).length : Nat) : Int) then (bc (([1, 2, 4, 8, 16, 32] : List Int)[i.toNat]?) (fun x1 => cond (cE 3 c) (some ((0 : Nat), ((6 : Int), IntKind.wrap .i64 (i + (1 : Int)), (an 3 c).2, p, (pY (x1, 6, i, decide (i < (6 : Int)), x1, (an 3 c).1, (an 3 c).2, p, (a, b, s, z, m, o, u, t, 0, 0, 0, false, false), ([1, 2, 4, 8, 16, 32] : List Int), ())), ([1, 2, 4, 8, 16, 32] : List Int), ()))) none)) else none) else none) (some (1, (6, i, c, p, (a, b, s, z, m, o, u, t, 0, 0, 0, false, false), ([1, 2, 4, 8, 16, 32] : List Int), ())))) fun r => r.1 = 0 /\ ∃ t', 0 <= t' /\ t' <= t + x /\ r.2 = (6, i + 1, (an 3 c).2, p, (a, b, s, z, m, o, u, t', 0, 0, 0, false, false), ([1, 2, 4, 8, 16, 32] : List Int), ()) := fun x hx g0 g1 g2 g3 g4 => by
      have g5 : i < ((([1, 2, 4, 8, 16, 32] : List Int).length : Nat) : Int) := g1
      rw [decide_eq_true g1, cond_true, if_pos g0, if_pos g5, hx, ay, z1, cond_true, ab]
      have hw : IntKind.wrap .i64 (i + 1) = i + 1 := ba (by omega) (by omega)
      have hx2 : IntKind.wrap .i64 (t + x) = t + x := ba (by omega) (by omega)
      rw [hw]
      refine ⟨rfl, cond (an 3 c).1 (t + x) t, ?_, ?_, ?_⟩
      · cases (an 3 c).1 <;> simp only [cond_true, cond_false] <;> omega
      · cases (an 3 c).1 <;> simp only [cond_true, cond_false] <;> omega
      · unfold pY mz
        dsimp only
        cases (an 3 c).1
        · rfl
        · rw [cond_true, cond_true, hx2]
          rfl
    rcases h4 with ⟨rfl, h4⟩ | ⟨rfl, h4⟩ | ⟨rfl, h4⟩ | ⟨rfl, h4⟩ | ⟨rfl, h4⟩ | ⟨rfl, h4⟩ | ⟨rfl, h4⟩
    · obtain ⟨r, hr, r1, t', q1, q2, q3⟩ := go 1 rfl (by omega) (by omega) (by omega) (by omega) (by omega)
      exact ⟨r, hr, .inr ⟨r1, k - 1, by omega, 1, t', _, by rw [q3] <;> rfl, z2, q1, by omega, by omega⟩⟩
    · obtain ⟨r, hr, r1, t', q1, q2, q3⟩ := go 2 rfl (by omega) (by omega) (by omega) (by omega) (by omega)
      exact ⟨r, hr, .inr ⟨r1, k - 1, by omega, 2, t', _, by rw [q3] <;> rfl, z2, q1, by omega, by omega⟩⟩
    · obtain ⟨r, hr, r1, t', q1, q2, q3⟩ := go 4 rfl (by omega) (by omega) (by omega) (by omega) (by omega)
      exact ⟨r, hr, .inr ⟨r1, k - 1, by omega, 3, t', _, by rw [q3] <;> rfl, z2, q1, by omega, by omega⟩⟩
    · obtain ⟨r, hr, r1, t', q1, q2, q3⟩ := go 8 rfl (by omega) (by omega) (by omega) (by omega) (by omega)
      exact ⟨r, hr, .inr ⟨r1, k - 1, by omega, 4, t', _, by rw [q3] <;> rfl, z2, q1, by omega, by omega⟩⟩
    · obtain ⟨r, hr, r1, t', q1, q2, q3⟩ := go 16 rfl (by omega) (by omega) (by omega) (by omega) (by omega)
      exact ⟨r, hr, .inr ⟨r1, k - 1, by omega, 5, t', _, by rw [q3] <;> rfl, z2, q1, by omega, by omega⟩⟩
    · obtain ⟨r, hr, r1, t', q1, q2, q3⟩ := go 32 rfl (by omega) (by omega) (by omega) (by omega) (by omega)
      exact ⟨r, hr, .inr ⟨r1, k - 1, by omega, 6, t', _, by rw [q3] <;> rfl, z2, q1, by omega, by omega⟩⟩
    · exact ⟨_, rfl, .inl ⟨rfl, t, h2, h4, rfl⟩⟩) 6 (6, 0, c, p, (a, b, s, z, m, o, u, 0, 0, 0, 0, false, false), ([1, 2, 4, 8, 16, 32] : List Int), ()) (il (6, 0, c, p, (a, b, s, z, m, o, u, 0, 0, 0, 0, false, false), ([1, 2, 4, 8, 16, 32] : List Int), ())) ⟨0, 0, c, rfl, h, by omega, by omega, .inl ⟨rfl, by omega⟩⟩ (by simp only [il]; omega)
  exact this.2
theorem l4R (id : Int) (c : Ty.T af) (h : cur c) : PcR id (cU id c).1 := by
  have b1 := below 2 c h
  have b2 := oneOf [2, 2, 2, 1, 3] _ (by simp) b1.2.2
  have b3 := below 3 _ b2.2.2
  have b4 := below 5 _ b3.2.2
  have e0 : cC c = aa 5 (aa 3 (ah [2, 2, 2, 1, 3] (aa 2 c).2).2).2 := rfl
  have b5 := below 5 _ b4.2.2
  rw [← e0] at b5
  obtain ⟨t, t0, t1, ht⟩ := QQ (c := (aa 5 (cC c).2).2) (p := (0, 0, 0, 0, 0, 0, 0, 0, 0, 0, 0, false, false)) (a := id) (b := (aa 2 c).1) (s := (aa 2 c).1) (z := (ah [2, 2, 2, 1, 3] (aa 2 c).2).1) (m := (aa 3 (ah [2, 2, 2, 1, 3] (aa 2 c).2).2).1) (o := (cC c).1) (u := IntKind.wrap .i64 ((1 : Int) + (aa 5 (cC c).2).1)) b5.2.2
  have ht : (bU id c).2.2.2.2.1 = _ := ht
  have k1 := Dd (c := (aa 5 (cC c).2).2) (p := (0, 0, 0, 0, 0, 0, 0, 0, 0, 0, 0, false, false)) (q := (id, (aa 2 c).1, (aa 2 c).1, (ah [2, 2, 2, 1, 3] (aa 2 c).2).1, (aa 3 (ah [2, 2, 2, 1, 3] (aa 2 c).2).2).1, (cC c).1, IntKind.wrap .i64 ((1 : Int) + (aa 5 (cC c).2).1), 0, 0, 0, 0, false, false)) (l := [1, 2, 4, 8, 16, 32]) rfl b5.2.2
  have c1 : cur (bU id c).2.2.1 := BJ (l := [1, 2, 4, 8, 16, 32]) rfl b5.2.2
  have o1 := once 4 _ c1
  have o2 := oneOf [0, 0, 1, 2] _ (by simp) o1.2
  have o3 := oneOf [0, 0, 0, 1] _ (by simp) o2.2.2
  have e2 : eT id c = ah [0, 0, 0, 1] (ah [0, 0, 1, 2] (an 4 (bU id c).2.2.1).2).2 := rfl
  have o4 := oneOf [0, 0, 1] _ (by simp) o3.2.2
  rw [← e2] at o3 o4
  have o5 := once 4 _ o4.2.2
  obtain ⟨f1, g1⟩ := b1.2.1 (by omega)
  have f2 := b2.2.1
  obtain ⟨f3, g3⟩ := b3.2.1 (by omega)
  have f4 := b4.2.1 (by omega)
  rw [← e0] at b4 f4
  obtain ⟨f4, g4⟩ := f4
  obtain ⟨f5, g5⟩ := b5.2.1 (by omega)
  have f6 := o2.2.1
  have f7 := o3.2.1
  have f8 := o4.2.1
  have hw : IntKind.wrap .i64 ((1 : Int) + (aa 5 (cC c).2).1) = 1 + (aa 5 (cC c).2).1 := ba (by omega) (by omega)
  have key : Sat (jx id c some) fun r => PcR id r.1 := by
    unfold jx
    rw [b1.1, cond_true, b2.1, cond_true, b3.1, cond_true, b4.1, cond_true, b5.1, cond_true, k1, cond_true]
    have e3 : eh id c = cond (an 4 (bU id c).2.2.1).1 ((bU id c).2.2.2.2.1.1, (bU id c).2.2.2.2.1.2.1, IntKind.wrap .i64 ((1 : Int) - (bU id c).2.2.2.2.1.2.1), (bU id c).2.2.2.2.1.2.2.2) (bU id c).2.2.2.2.1 := rfl
    rw [o1.1, o2.1, o3.1, o4.1, o5.1, e3, ht]
    generalize (ah [2, 2, 2, 1, 3] (aa 2 c).2).1 = zz at f2 ⊢
    have hw2 : IntKind.wrap .i64 ((1 : Int) - (aa 2 c).1) = 1 - (aa 2 c).1 := ba (by omega) (by omega)
    simp only [List.mem_cons, List.not_mem_nil, or_false] at f2 f6 f7 f8
    dsimp only
    simp only [cond_true]
    cases hz : (zz != (2 : Int))
    · rw [cond_false, ab]
      have hz : zz = 2 := by simpa using hz
      unfold PcR
      rw [hw]
      unfold inR
      cases (an 4 (bU id c).2.2.1).1
      · simp only [cond_false, true_and]
        refine ⟨by omega, by omega, by omega, by omega, by omega, by omega, by omega, by omega, by omega, by omega, fun hh => absurd hz hh⟩
      · simp only [cond_true, true_and, hw2]
        refine ⟨by omega, by omega, by omega, by omega, by omega, by omega, by omega, by omega, by omega, by omega, fun hh => absurd hz hh⟩
    · rw [cond_true, ab]
      have hz : zz ≠ 2 := by simpa using hz
      unfold PcR inR
      dsimp only
      rw [hw]
      refine ⟨rfl, by omega, by omega, by omega, by omega, by omega, by omega, by omega, by omega, by omega, by omega, rfl, fun _ => ⟨rfl, rfl, rfl, rfl, rfl⟩⟩
  exact key.v
theorem Lm {i j : Int} {b : Bool} {c : Ty.T af} {s : Ty.T y36} {q : Ty.T (.pair (.int .i64) (.int .i64))} {ps : List (Ty.T y63)} {ss : List (Ty.T aM)} (h : cur c) (h0 : 0 <= i) (h1 : i < (ss.length : Int)) : Sat (eV (i, j, b, c, s, q, ps, ss, ()) some) fun r => r.length = ss.length := by
  unfold eV
  dsimp only
  obtain ⟨x, hx, _⟩ := He (l := ss) h0 h1
  simp (maxDischargeDepth := 99) only [false_and, and_false, aF, ab, false_and, and_false, aV, aU, aT, aG, cond_true, cond_false, and_true, true_and, implies_true, and_self, ne_eq, reduceCtorEq, not_false_eq_true, true_or, or_true, false_or, or_false, Nat.zero_ne_one, Nat.one_ne_zero, List.length_cons, List.length_nil, Nat.reduceAdd, Nat.reduceLeDiff, Int.cast_ofNat_Int, bL, bj, bJ, bl, bK, bH, cB, bG, h]
  exact ⟨h0, h1, x, hx, List.length_set⟩
theorem KG {i j i2 k : Int} {b : Bool} {li : List Int} {c : Ty.T af} {s : Ty.T y36} {q : Ty.T (.pair (.int .i64) (.int .i64))} {ps : List (Ty.T y63)} {ss : List (Ty.T aM)} (h : cur c) (h0 : 0 <= i) (h1 : i < (ss.length : Int)) : Sat (eW (i, j, b, i2, li, k, c, s, q, ps, ss, ()) some) fun r => r.length = ss.length := by
  unfold eW
  dsimp only
  obtain ⟨x, hx, _⟩ := He (l := ss) h0 h1
  simp (maxDischargeDepth := 99) only [false_and, and_false, aF, ab, false_and, and_false, aV, aU, aT, aG, cond_true, cond_false, and_true, true_and, implies_true, and_self, ne_eq, reduceCtorEq, not_false_eq_true, true_or, or_true, false_or, or_false, Nat.zero_ne_one, Nat.one_ne_zero, List.length_cons, List.length_nil, Nat.reduceAdd, Nat.reduceLeDiff, Int.cast_ofNat_Int, bL, bj, bJ, bl, bK, bH, cB, bG, h]
  exact ⟨h0, h1, x, hx, List.length_set⟩
theorem P3 {c : Ty.T af} {s : Ty.T y36} {q : Ty.T (.pair (.int .i64) (.int .i64))} {ps : List (Ty.T y63)} {ss : List (Ty.T aM)} (hs : ss.length = 2) (h : cur c) : xd 0 c s q ps ss 0 = true /\ ∃ c' ss', cur c' /\ List.length ss' = 2 /\ xv 0 c s q ps ss = ((2 : Int), c', s, q, ps, ss', ()) := by
  have := eP (s := gY) (Q := fun v => ∃ c' ss', cur c' /\ List.length ss' = 2 /\ v = ((2 : Int), c', s, q, ps, ss', ())) (fun k v => ∃ (i : Int) (c : Ty.T af) (ss : List (Ty.T aM)), v = (i, c, s, q, ps, ss, ()) /\ cur c /\ ss.length = 2 /\ 0 <= i /\ i + k = 2) (fun k v hv => by
    obtain ⟨i, c, ss, rfl, h1, h2, h3, h4⟩ := hv
    unfold gY jY
    dsimp only
    rw [aF]
    refine ⟨fun hl => ?_, fun hl => ?_⟩
    · have hl : i < 2 := of_decide_eq_true hl
      have e : IntKind.wrap .i64 (i + 1) = i + 1 := ba (by omega) (by omega)
      have s1 := Lm (i := i) (j := i) (b := decide (i < 2)) (c := c) (s := s) (q := q) (ps := ps) (ss := ss) h1 h3 (by omega)
      have l1 : (dy (i, i, decide (i < 2), c, s, q, ps, ss, ())).length = 2 := (s1.v (z := [])).trans h2
      have s2 := KG (i := i) (j := i) (i2 := i) (k := (ah [20, 20, 3, 1, 10] c).1) (b := decide (i < 2)) (li := [20, 20, 3, 1, 10]) (c := (ah [20, 20, 3, 1, 10] c).2) (s := s) (q := q) (ps := ps) (ss := dy (i, i, decide (i < 2), c, s, q, ps, ss, ())) (bG (by simp) h1) h3 (by omega)
      have g1 : qM (i, i, decide (i < 2), c, s, q, ps, ss, ()) = true := s1.d
      have g2 : qu (i, i, decide (i < 2), i, [20, 20, 3, 1, 10], (ah [20, 20, 3, 1, 10] c).1, (ah [20, 20, 3, 1, 10] c).2, s, q, ps, dy (i, i, decide (i < 2), c, s, q, ps, ss, ()), ()) = true := s2.d
      rw [g1, g2, cond_true, cond_true, ab]
      refine .inr ⟨rfl, k - 1, by omega, i + 1, _, _, by rw [e] <;> rfl, bG (l := [0, 0, 8, 1]) (by simp) (bG (l := [20, 20, 3, 1, 10]) (by simp) h1), (s2.v (z := [])).trans l1, by omega, by omega⟩
    · have hl : ¬ i < 2 := of_decide_eq_false hl
      have : i = 2 := by omega
      subst this
      rw [ab]
      exact .inl ⟨rfl, c, ss, h1, h2, rfl⟩) 2 ((0 : Int), c, s, q, ps, ss, ()) (g7 ((0 : Int), c, s, q, ps, ss, ())) ⟨0, c, ss, rfl, h, hs, by omega, by omega⟩ (by simp only [g7]; omega)
  exact ⟨this.1.1, this.2⟩
theorem Rx {id n : Int} {c : Ty.T af} {s : Ty.T y36} {q : Ty.T (.pair (.int .i64) (.int .i64))} {ps : List (Ty.T y63)} {ss : List (Ty.T aM)} (h0 : 0 <= n) (hp : (ps.length : Int) + n <= 1000) (h : cur c) :
    qn id n c s q ps ss 0 = true /\ ∃ (id' : Int) (c' : Ty.T af) (ps' : List (Ty.T y63)), cur c' /\ (ps'.length : Int) = ps.length + n /\ v8 id n c s q ps ss = (id', (0 : Int), c', s, q, ps', ss, ()) := by
  have := eP (s := gX) (Q := fun v => ∃ (id' : Int) (c' : Ty.T af) (ps' : List (Ty.T y63)), cur c' /\ (ps'.length : Int) = ps.length + n /\ v = (id', (0 : Int), c', s, q, ps', ss, ()))
    (fun k v => ∃ (id m : Int) (c : Ty.T af) (qs : List (Ty.T y63)), v = (id, m, c, s, q, qs, ss, ()) /\ cur c /\ m = k /\ (qs.length : Int) + m = ps.length + n) (fun k v hv => by
    obtain ⟨id, m, c, qs, rfl, hc, hk, hq⟩ := hv
    unfold gX jz
    dsimp only
    rw [aF]
    refine ⟨fun hl => ?_, fun hl => ?_⟩
    · have hl : m > 0 := of_decide_eq_true hl
      have e : IntKind.wrap .i64 (m - 1) = m - 1 := ba (by omega) (by omega)
      have hz : ∀ p : Ty.T y63, (qs ++ [p]).length * 96 <= 140737488351232 := fun p => by simp only [List.length_append, List.length_cons, List.length_nil]; omega
      rw [cr hc, qS (bQ hc), cond_true, cond_true, if_pos (hz _), ab]
      exact .inr ⟨rfl, k - 1, by omega, _, m - 1, _, _, by rw [e], jK (bQ hc), by omega, by simp only [List.length_append, List.length_cons, List.length_nil]; omega⟩
    · have hl : ¬ m > 0 := of_decide_eq_false hl
      have : m = 0 := by omega
      subst this
      rw [ab]
      exact .inl ⟨rfl, id, c, qs, hc, by omega, rfl⟩) n.toNat (id, n, c, s, q, ps, ss, ()) (hY (id, n, c, s, q, ps, ss, ())) ⟨id, n, c, ps, rfl, h, by omega, rfl⟩ (by simp only [hY]; omega)
  exact ⟨this.1.1, this.2⟩
theorem ur {a0 : Ty.T af} (h : cur a0) : Sat (jq a0 some) fun r => cur r.2.1 /\ 1 <= r.2.2.1.length /\ r.2.2.1.length <= 6 /\ r.2.2.2.length = 2 := by
  have d0 : d215 2 = true := rfl
  obtain ⟨k1, c1, ss1, hc1, hs1, w1⟩ := P3 (c := (aa 2 (aa 3 a0).2).2) (s := ([], [], 0, 0)) (q := ((aa 2 (aa 3 a0).2).1, IntKind.wrap .i64 ((2 : Int) + (aa 3 a0).1))) (ps := (tT 2).2.1) (ss := (tT 2).2.2) rfl (bQ (bQ h))
  have hb := (below 5 c1 hc1).2.1 (by omega)
  have e : IntKind.wrap .i64 ((1 : Int) + (aa 5 c1).1) = 1 + (aa 5 c1).1 := ba (by omega) (by omega)
  obtain ⟨k2, i2, c2, ps2, hc2, hl2, w2⟩ := Rx (id := 0) (n := 1 + (aa 5 c1).1) (c := (aa 5 c1).2) (s := ([], [], 0, 0)) (q := ((aa 2 (aa 3 a0).2).1, IntKind.wrap .i64 ((2 : Int) + (aa 3 a0).1))) (ps := (tT 2).2.1) (ss := ss1) (by omega) (by show ((([] : List (Ty.T y63)).length : Int)) + _ <= 1000; simp; omega) (bQ hc1)
  have hl2 : (ps2.length : Int) = 1 + (aa 5 c1).1 := by rw [hl2]; show (0 : Int) + _ = _; omega
  unfold jq
  have e0 : dh a0 = _ := w1
  have e1 : fJ a0 = (i2, (0 : Int), c2, ([], [], 0, 0), ((aa 2 (aa 3 a0).2).1, IntKind.wrap .i64 ((2 : Int) + (aa 3 a0).1)), ps2, ss1, ()) := by unfold fJ; rw [e0]; dsimp only; rw [e]; exact w2
  rw [d0, cr h, cr (bQ h), k1, e1, e0]
  dsimp only
  rw [e, cr hc1, k2]
  simp only [cond_true, ab]
  exact ⟨hc2, by omega, by omega, hs1⟩
theorem PK {a0 : Ty.T af} (h : cur a0) : Cv a0 = true := (ur h).d
theorem Vo {a0 : Ty.T af} (h : cur a0) : cur (bf a0).2.1 := (ur h).v.1
/-- A player, a state as they are drawn. -/
def SdR (x : Ty.T aM) : Prop := inR x.1 1 20 /\ inR x.2.1 0 8 /\ x.2.2 = false
structure StR (s : Ty.T y36) : Prop where
  ps : ∀ p ∈ s.1, ∃ d : Int, 1 <= d /\ d <= 12 /\ PcR d p
  srt : List.Pairwise (fun a b : Ty.T y63 => @LT.lt Int _ a.1 b.1) s.1
  lo : 1 <= s.1.length
  hi : s.1.length <= 6
  ss : ∀ x ∈ s.2.1, SdR x
  two : s.2.1.length = 2
  act : inR s.2.2.1 0 1
  clk : inR s.2.2.2 2 4
theorem LA {i j : Int} {b : Bool} {c : Ty.T af} {s : Ty.T y36} {q : Ty.T (.pair (.int .i64) (.int .i64))} {ps : List (Ty.T y63)} {ss : List (Ty.T aM)} (h : cur c) (h0 : 0 <= i) (h1 : i < (ss.length : Int)) (hS : ∀ y ∈ ss, SdR y) : Sat (eV (i, j, b, c, s, q, ps, ss, ()) some) fun r => r.length = ss.length /\ ∀ y ∈ r, SdR y := by
  obtain ⟨x, hx, hm⟩ := He (l := ss) h0 h1
  have o := oneOf [20, 20, 3, 1, 10] c (by simp) h
  unfold eV
  dsimp only
  rw [o.1, cond_true, if_pos h0, if_pos h1, hx, ay, ab]
  refine ⟨List.length_set, fun y hy => ?_⟩
  rcases List.mem_or_eq_of_mem_set hy with hy | rfl
  · exact hS y hy
  · have f := o.2.1
    simp only [List.mem_cons, List.not_mem_nil, or_false] at f
    obtain ⟨q1, q2, q3⟩ := hS x hm
    refine ⟨?_, q2, q3⟩
    unfold inR
    dsimp only
    omega
theorem MT {i j i2 k : Int} {b : Bool} {li : List Int} {c : Ty.T af} {s : Ty.T y36} {q : Ty.T (.pair (.int .i64) (.int .i64))} {ps : List (Ty.T y63)} {ss : List (Ty.T aM)} (h : cur c) (h0 : 0 <= i) (h1 : i < (ss.length : Int)) (hS : ∀ y ∈ ss, SdR y) : Sat (eW (i, j, b, i2, li, k, c, s, q, ps, ss, ()) some) fun r => r.length = ss.length /\ ∀ y ∈ r, SdR y := by
  obtain ⟨x, hx, hm⟩ := He (l := ss) h0 h1
  have o := oneOf [0, 0, 8, 1] c (by simp) h
  unfold eW
  dsimp only
  rw [o.1, cond_true, if_pos h0, if_pos h1, hx, ay, ab]
  refine ⟨List.length_set, fun y hy => ?_⟩
  rcases List.mem_or_eq_of_mem_set hy with hy | rfl
  · exact hS y hy
  · have f := o.2.1
    simp only [List.mem_cons, List.not_mem_nil, or_false] at f
    obtain ⟨q1, q2, q3⟩ := hS x hm
    refine ⟨q1, ?_, q3⟩
    unfold inR
    dsimp only
    omega
theorem OA {c : Ty.T af} {s : Ty.T y36} {q : Ty.T (.pair (.int .i64) (.int .i64))} {ps : List (Ty.T y63)} {ss : List (Ty.T aM)} (hs : ss.length = 2) (hS : ∀ y ∈ ss, SdR y) (h : cur c) : xd 0 c s q ps ss 0 = true /\ ∃ c' ss', cur c' /\ List.length ss' = 2 /\ (∀ y ∈ ss', SdR y) /\ xv 0 c s q ps ss = ((2 : Int), c', s, q, ps, ss', ()) := by
  have := eP (s := gY) (Q := fun v => ∃ c' ss', cur c' /\ List.length ss' = 2 /\ (∀ y ∈ ss', SdR y) /\ v = ((2 : Int), c', s, q, ps, ss', ())) (fun k v => ∃ (i : Int) (c : Ty.T af) (ss : List (Ty.T aM)), v = (i, c, s, q, ps, ss, ()) /\ cur c /\ ss.length = 2 /\ (∀ y ∈ ss, SdR y) /\ 0 <= i /\ i + k = 2) (fun k v hv => by
    obtain ⟨i, c, ss, rfl, h1, h2, hS, h3, h4⟩ := hv
    unfold gY jY
    dsimp only
    rw [aF]
    refine ⟨fun hl => ?_, fun hl => ?_⟩
    · have hl : i < 2 := of_decide_eq_true hl
      have e : IntKind.wrap .i64 (i + 1) = i + 1 := ba (by omega) (by omega)
      have s1 := LA (i := i) (j := i) (b := decide (i < 2)) (c := c) (s := s) (q := q) (ps := ps) (ss := ss) h1 h3 (by omega) hS
      have l1 : (dy (i, i, decide (i < 2), c, s, q, ps, ss, ())).length = ss.length /\ ∀ y ∈ dy (i, i, decide (i < 2), c, s, q, ps, ss, ()), SdR y := s1.v (z := [])
      have s2 := MT (i := i) (j := i) (i2 := i) (k := (ah [20, 20, 3, 1, 10] c).1) (b := decide (i < 2)) (li := [20, 20, 3, 1, 10]) (c := (ah [20, 20, 3, 1, 10] c).2) (s := s) (q := q) (ps := ps) (ss := dy (i, i, decide (i < 2), c, s, q, ps, ss, ())) (bG (by simp) h1) h3 (by rw [l1.1]; omega) l1.2
      have l2 : (qe (i, i, decide (i < 2), i, [20, 20, 3, 1, 10], (ah [20, 20, 3, 1, 10] c).1, (ah [20, 20, 3, 1, 10] c).2, s, q, ps, dy (i, i, decide (i < 2), c, s, q, ps, ss, ()), ())).length = (dy (i, i, decide (i < 2), c, s, q, ps, ss, ())).length /\ ∀ y ∈ qe (i, i, decide (i < 2), i, [20, 20, 3, 1, 10], (ah [20, 20, 3, 1, 10] c).1, (ah [20, 20, 3, 1, 10] c).2, s, q, ps, dy (i, i, decide (i < 2), c, s, q, ps, ss, ()), ()), SdR y := s2.v (z := [])
      have g1 : qM (i, i, decide (i < 2), c, s, q, ps, ss, ()) = true := s1.d
      have g2 : qu (i, i, decide (i < 2), i, [20, 20, 3, 1, 10], (ah [20, 20, 3, 1, 10] c).1, (ah [20, 20, 3, 1, 10] c).2, s, q, ps, dy (i, i, decide (i < 2), c, s, q, ps, ss, ()), ()) = true := s2.d
      rw [g1, g2, cond_true, cond_true, ab]
      refine .inr ⟨rfl, k - 1, by omega, i + 1, _, _, by rw [e] <;> rfl, bG (l := [0, 0, 8, 1]) (by simp) (bG (l := [20, 20, 3, 1, 10]) (by simp) h1), l2.1.trans (l1.1.trans h2), l2.2, by omega, by omega⟩
    · have hl : ¬ i < 2 := of_decide_eq_false hl
      have : i = 2 := by omega
      subst this
      rw [ab]
      exact .inl ⟨rfl, c, ss, h1, h2, hS, rfl⟩) 2 ((0 : Int), c, s, q, ps, ss, ()) (g7 ((0 : Int), c, s, q, ps, ss, ())) ⟨0, c, ss, rfl, h, hs, hS, by omega, by omega⟩ (by simp only [g7]; omega)
  exact ⟨this.1.1, this.2⟩
theorem Nf {n : Int} {c : Ty.T af} {s : Ty.T y36} {q : Ty.T (.pair (.int .i64) (.int .i64))} {ss : List (Ty.T aM)} (h0 : 0 <= n) (hp : n <= 6) (h : cur c) :
    qn 0 n c s q [] ss 0 = true /\ ∃ (id' : Int) (c' : Ty.T af) (ps' : List (Ty.T y63)), cur c' /\ (ps'.length : Int) = n /\ (∀ p ∈ ps', ∃ d : Int, 1 <= d /\ d <= 12 /\ PcR d p) /\ List.Pairwise (fun a b : Ty.T y63 => @LT.lt Int _ a.1 b.1) ps' /\ v8 0 n c s q [] ss = (id', (0 : Int), c', s, q, ps', ss, ()) := by
  have := eP (s := gX) (Q := fun v => ∃ (id' : Int) (c' : Ty.T af) (ps' : List (Ty.T y63)), cur c' /\ (ps'.length : Int) = n /\ (∀ p ∈ ps', ∃ d : Int, 1 <= d /\ d <= 12 /\ PcR d p) /\ List.Pairwise (fun a b : Ty.T y63 => @LT.lt Int _ a.1 b.1) ps' /\ v = (id', (0 : Int), c', s, q, ps', ss, ()))
    (fun k v => ∃ (id m : Int) (c : Ty.T af) (qs : List (Ty.T y63)), v = (id, m, c, s, q, qs, ss, ()) /\ cur c /\ m = k /\ (qs.length : Int) + m = n /\ 0 <= id /\ id <= 2 * qs.length /\ (∀ p ∈ qs, ∃ d : Int, 1 <= d /\ d <= 12 /\ d <= id /\ PcR d p) /\ List.Pairwise (fun a b : Ty.T y63 => @LT.lt Int _ a.1 b.1) qs) (fun k v hv => by
    obtain ⟨id, m, c, qs, rfl, hc, hk, hq, hi0, hi1, hP, hW⟩ := hv
    unfold gX jz
    dsimp only
    rw [aF]
    refine ⟨fun hl => ?_, fun hl => ?_⟩
    · have hl : m > 0 := of_decide_eq_true hl
      have e : IntKind.wrap .i64 (m - 1) = m - 1 := ba (by omega) (by omega)
      have hz : ∀ p : Ty.T y63, (qs ++ [p]).length * 96 <= 140737488351232 := fun p => by simp only [List.length_append, List.length_cons, List.length_nil]; omega
      have b := below 2 c hc
      obtain ⟨b0, b1⟩ := b.2.1 (by omega)
      have e2 : IntKind.wrap .i64 (IntKind.wrap .i64 (id + (1 : Int)) + (aa 2 c).1) = id + 1 + (aa 2 c).1 := by
        rw [ba (n := id + 1) (by omega) (by omega), ba (by omega) (by omega)]
      rw [cr hc, qS (bQ hc), cond_true, cond_true, if_pos (hz _), ab, e2]
      have p := l4R (id + 1 + (aa 2 c).1) _ b.2.2
      have pc : cur (cU (id + 1 + (aa 2 c).1) (aa 2 c).2).2 := jK b.2.2
      generalize cU (id + 1 + (aa 2 c).1) (aa 2 c).2 = pr at p pc
      have hln : (qs ++ [pr.1]).length = qs.length + 1 := by simp only [List.length_append, List.length_cons, List.length_nil]
      refine .inr ⟨rfl, k - 1, by omega, id + 1 + (aa 2 c).1, m - 1, pr.2, qs ++ [pr.1], by rw [e], pc, by omega, by rw [hln]; omega, by omega, by rw [hln]; omega, fun y hy => ?_, ?_⟩
      · rcases List.mem_append.1 hy with hy | hy
        · obtain ⟨d, q1, q2, q3, q4⟩ := hP y hy
          exact ⟨d, q1, q2, by omega, q4⟩
        · rw [List.mem_singleton.1 hy]
          exact ⟨_, by omega, by omega, by omega, p⟩
      · rw [List.pairwise_append]
        refine ⟨hW, List.pairwise_singleton _ _, fun x hx y hy => ?_⟩
        obtain ⟨d, q1, q2, q3, q4⟩ := hP x hx
        rw [List.mem_singleton.1 hy]
        have e1 : @Eq Int x.1 d := q4.1
        have e2 : @Eq Int pr.1.1 (id + 1 + (aa 2 c).1) := p.1
        omega
    · have hl : ¬ m > 0 := of_decide_eq_false hl
      have : m = 0 := by omega
      subst this
      rw [ab]
      exact .inl ⟨rfl, id, c, qs, hc, by omega, fun p hp => by obtain ⟨d, q1, q2, _, q3⟩ := hP p hp; exact ⟨d, q1, q2, q3⟩, hW, rfl⟩) n.toNat (0, n, c, s, q, [], ss, ()) (hY (0, n, c, s, q, [], ss, ())) ⟨0, n, c, [], rfl, h, by omega, (by show (0 : Int) + n = n; omega), by omega, by simp, fun p hp => absurd hp List.not_mem_nil, List.Pairwise.nil⟩ (by simp only [hY]; omega)
  exact ⟨this.1.1, this.2⟩
theorem YK {a0 : Ty.T af} (h : cur a0) : StR ((bf a0).2.2.1, (bf a0).2.2.2, (bf a0).1) := by
  have key : Sat (jq a0 some) fun r => StR (r.2.2.1, r.2.2.2, r.1) := by
    have d0 : d215 2 = true := rfl
    have c1 := below 3 a0 h
    have c2 := below 2 _ c1.2.2
    obtain ⟨f1, g1⟩ := c1.2.1 (by omega)
    obtain ⟨f2, g2⟩ := c2.2.1 (by omega)
    have ec : IntKind.wrap .i64 ((2 : Int) + (aa 3 a0).1) = 2 + (aa 3 a0).1 := ba (by omega) (by omega)
    obtain ⟨k1, c1, ss1, hc1, hs1, hS1, w1⟩ := OA (c := (aa 2 (aa 3 a0).2).2) (s := ([], [], 0, 0)) (q := ((aa 2 (aa 3 a0).2).1, IntKind.wrap .i64 ((2 : Int) + (aa 3 a0).1))) (ps := (tT 2).2.1) (ss := (tT 2).2.2) rfl (fun y hy => by
      have hy : y ∈ ([((20 : Int), (0 : Int), false), ((20 : Int), (0 : Int), false)] : List (Ty.T aM)) := hy
      simp only [List.mem_cons, List.not_mem_nil, or_false, or_self] at hy
      subst hy
      exact ⟨⟨by decide, by decide⟩, ⟨by decide, by decide⟩, rfl⟩) c2.2.2
    have hb := (below 5 c1 hc1).2.1 (by omega)
    have e : IntKind.wrap .i64 ((1 : Int) + (aa 5 c1).1) = 1 + (aa 5 c1).1 := ba (by omega) (by omega)
    obtain ⟨k2, i2, c2, ps2, hc2, hl2, hP2, hW2, w2⟩ := Nf (n := 1 + (aa 5 c1).1) (c := (aa 5 c1).2) (s := ([], [], 0, 0)) (q := ((aa 2 (aa 3 a0).2).1, IntKind.wrap .i64 ((2 : Int) + (aa 3 a0).1))) (ss := ss1) (by omega) (by omega) (bQ hc1)
    unfold jq
    have e0 : dh a0 = _ := w1
    have e1 : fJ a0 = (i2, (0 : Int), c2, ([], [], 0, 0), ((aa 2 (aa 3 a0).2).1, IntKind.wrap .i64 ((2 : Int) + (aa 3 a0).1)), ps2, ss1, ()) := by unfold fJ; rw [e0]; dsimp only; rw [e]; exact w2
    have k2 : qn 0 (1 + (aa 5 c1).1) (aa 5 c1).2 ([], [], 0, 0) ((aa 2 (aa 3 a0).2).1, IntKind.wrap .i64 ((2 : Int) + (aa 3 a0).1)) (tT 2).2.1 ss1 0 = true := k2
    rw [d0, cr h, cr (bQ h), k1, e1, e0]
    dsimp only
    rw [e, cr hc1, k2]
    simp only [cond_true, ab]
    exact ⟨hP2, hW2, by show 1 <= ps2.length; omega, by show ps2.length <= 6; omega, hS1, hs1, ⟨f2, by show (aa 2 (aa 3 a0).2).1 <= 1; omega⟩, by show inR (IntKind.wrap .i64 ((2 : Int) + (aa 3 a0).1)) 2 4; rw [ec]; unfold inR; omega⟩
  exact key.v
theorem KS {k : Int} {c : Ty.T af} {s : Ty.T y36} (h : cur c) (hl : 0 < s.1.length) : Sat (iG (k, c, s, ()) some) fun _ => True := by
  have b := (below (s.1.length : Int) c h).2.1 (by omega)
  obtain ⟨x, hx, _⟩ := He (l := s.1) b.1 b.2
  unfold iG
  simp (maxDischargeDepth := 99) only [false_and, and_false, aF, ab, false_and, and_false, aV, aU, aT, aG, cond_true, cond_false, and_true, true_and, implies_true, and_self, ne_eq, reduceCtorEq, not_false_eq_true, true_or, or_true, false_or, or_false, Nat.zero_ne_one, Nat.one_ne_zero, List.length_cons, List.length_nil, Nat.reduceAdd, Nat.reduceLeDiff, Int.cast_ofNat_Int, bL, bj, bJ, bl, bK, bH, cr, bQ, dk, ct, h]
  exact ⟨b.1, x, hx⟩
theorem Jb {a0 : Ty.T y36} {a1 : Ty.T af} (h : cur a1) : Sat (mV a0 a1 some) fun r => cur r.2 := by
  unfold mV
  rw [aF]
  refine ⟨fun _ => ?_, fun h0 => ?_⟩
  · simp (maxDischargeDepth := 99) only [false_and, and_false, aF, ab, false_and, and_false, aV, aU, aT, aG, cond_true, cond_false, and_true, true_and, implies_true, and_self, ne_eq, reduceCtorEq, not_false_eq_true, true_or, or_true, false_or, or_false, Nat.zero_ne_one, Nat.one_ne_zero, List.length_cons, List.length_nil, Nat.reduceAdd, Nat.reduceLeDiff, Int.cast_ofNat_Int, bL, bj, bJ, bl, bK, bH, cr, bQ, dk, ct, h]
  · have hp : 0 < a0.1.length := by simp at h0; exact List.length_pos_iff.2 h0
    have g : vJ (0, (an 8 a1).2, a0, ()) = true := (KS (ct h) hp).d
    simp (maxDischargeDepth := 99) only [false_and, and_false, aF, ab, false_and, and_false, aV, aU, aT, aG, cond_true, cond_false, and_true, true_and, implies_true, and_self, ne_eq, reduceCtorEq, not_false_eq_true, true_or, or_true, false_or, or_false, Nat.zero_ne_one, Nat.one_ne_zero, List.length_cons, List.length_nil, Nat.reduceAdd, Nat.reduceLeDiff, Int.cast_ofNat_Int, bL, bj, bJ, bl, bK, bH, cr, bQ, dk, ct, h, g]
theorem pR {a0 : Ty.T y36} {a1 : Ty.T af} (h : cur a1) : iE a0 a1 = true := (Jb h).d
theorem gA {a0 : Ty.T y36} {a1 : Ty.T af} (h : cur a1) : cur (bN a0 a1).2 := (Jb h).v
theorem tm {a1 : Ty.T af} (h0 : cur a1) : cur (aY a1).2 := by
  unfold aY
  simp (maxDischargeDepth := 99) only [false_and, and_false, aF, ab, false_and, and_false, aV, aU, aT, aG, cond_true, cond_false, and_true, true_and, implies_true, and_self, ne_eq, reduceCtorEq, not_false_eq_true, true_or, or_true, false_or, or_false, Nat.zero_ne_one, Nat.one_ne_zero, List.length_cons, List.length_nil, Nat.reduceAdd, Nat.reduceLeDiff, Int.cast_ofNat_Int, cB, bG, h0]
theorem Ez {a0 : Ty.T y36} {a1 : Ty.T af} (h0 : cur a1) : cur (kh a0 a1).2 := by
  unfold kh
  simp (maxDischargeDepth := 99) only [false_and, and_false, aF, ab, false_and, and_false, aV, aU, aT, aG, cond_true, cond_false, and_true, true_and, implies_true, and_self, ne_eq, reduceCtorEq, not_false_eq_true, true_or, or_true, false_or, or_false, Nat.zero_ne_one, Nat.one_ne_zero, List.length_cons, List.length_nil, Nat.reduceAdd, Nat.reduceLeDiff, Int.cast_ofNat_Int, cB, bG, pR, gA, tm, h0]
theorem JS {a0 : Ty.T y36} {a1 : Ty.T af} (h0 : cur a1) : Sat (lP a0 a1 some) (fun r => cur r.2) := by
  unfold lP
  simp (maxDischargeDepth := 99) only [false_and, and_false, aF, ab, false_and, and_false, aV, aU, aT, aG, cond_true, cond_false, and_true, true_and, implies_true, and_self, ne_eq, reduceCtorEq, not_false_eq_true, true_or, or_true, false_or, or_false, Nat.zero_ne_one, Nat.one_ne_zero, List.length_cons, List.length_nil, Nat.reduceAdd, Nat.reduceLeDiff, Int.cast_ofNat_Int, bL, bj, bJ, bl, bK, bH, cB, bG, pR, gA, tm, dk, ct, cr, bQ, Ez, h0]
theorem r6 {a0 : Ty.T y36} {a1 : Ty.T af} (h0 : cur a1) : o8 a0 a1 = true := (JS h0).d
theorem gy {a0 : Ty.T y36} {a1 : Ty.T af} (h0 : cur a1) : cur (ar a0 a1).2 := (JS h0).v
theorem zD {v : cY} (h0 : cur v.2.1) : Sat (hO v some) (fun r => cur r.1) := by
  unfold hO
  simp (maxDischargeDepth := 99) only [false_and, and_false, aF, ab, false_and, and_false, aV, aU, aT, aG, cond_true, cond_false, and_true, true_and, implies_true, and_self, ne_eq, reduceCtorEq, not_false_eq_true, true_or, or_true, false_or, or_false, Nat.zero_ne_one, Nat.one_ne_zero, List.length_cons, List.length_nil, Nat.reduceAdd, Nat.reduceLeDiff, Int.cast_ofNat_Int, bL, bj, bJ, bl, bK, bH, cB, bG, h0]
theorem D7 {v : cY} (h0 : cur v.2.1) : xH v = true := (zD h0).d
theorem tw {v : cY} (h0 : cur v.2.1) : cur (vt v).1 := (zD h0).v
theorem zL {v : fS} (h0 : cur v.2.2.1) : Sat (fH v some) (fun r => cur r.1) := by
  unfold fH
  simp (maxDischargeDepth := 99) only [false_and, and_false, aF, ab, false_and, and_false, aV, aU, aT, aG, cond_true, cond_false, and_true, true_and, implies_true, and_self, ne_eq, reduceCtorEq, not_false_eq_true, true_or, or_true, false_or, or_false, Nat.zero_ne_one, Nat.one_ne_zero, List.length_cons, List.length_nil, Nat.reduceAdd, Nat.reduceLeDiff, Int.cast_ofNat_Int, bL, bj, bJ, bl, bK, bH, dk, ct, pR, gA, cB, bG, h0]
theorem EA {v : fS} (h0 : cur v.2.2.1) : vM v = true := (zL h0).d
theorem tq {v : fS} (h0 : cur v.2.2.1) : cur (xI v).1 := (zL h0).v
theorem zV {v : fQ} (h0 : cur v.1) : Sat (gQ v some) (fun r => cur r.2) := by
  unfold gQ
  simp (maxDischargeDepth := 99) only [false_and, and_false, aF, ab, false_and, and_false, aV, aU, aT, aG, cond_true, cond_false, and_true, true_and, implies_true, and_self, ne_eq, reduceCtorEq, not_false_eq_true, true_or, or_true, false_or, or_false, Nat.zero_ne_one, Nat.one_ne_zero, List.length_cons, List.length_nil, Nat.reduceAdd, Nat.reduceLeDiff, Int.cast_ofNat_Int, bL, bj, bJ, bl, bK, bH, dk, ct, h0]
theorem FG {v : fQ} (h0 : cur v.1) : vC v = true := (zV h0).d
theorem tA {v : fQ} (h0 : cur v.1) : cur (wJ v).2 := (zV h0).v
theorem Ag {v : cY} (h0 : cur v.2.1) : Sat (gP v some) (fun r => cur r.2) := by
  unfold gP
  simp (maxDischargeDepth := 99) only [false_and, and_false, aF, ab, false_and, and_false, aV, aU, aT, aG, cond_true, cond_false, and_true, true_and, implies_true, and_self, ne_eq, reduceCtorEq, not_false_eq_true, true_or, or_true, false_or, or_false, Nat.zero_ne_one, Nat.one_ne_zero, List.length_cons, List.length_nil, Nat.reduceAdd, Nat.reduceLeDiff, Int.cast_ofNat_Int, bL, bj, bJ, bl, bK, bH, pR, gA, h0]
theorem DK {v : cY} (h0 : cur v.2.1) : xP v = true := (Ag h0).d
theorem tI {v : cY} (h0 : cur v.2.1) : cur (xm v).2 := (Ag h0).v
theorem tP {a1 : Ty.T af} (h0 : cur a1) : cur (e5 a1).2 := by
  unfold e5
  simp (maxDischargeDepth := 99) only [false_and, and_false, aF, ab, false_and, and_false, aV, aU, aT, aG, cond_true, cond_false, and_true, true_and, implies_true, and_self, ne_eq, reduceCtorEq, not_false_eq_true, true_or, or_true, false_or, or_false, Nat.zero_ne_one, Nat.one_ne_zero, List.length_cons, List.length_nil, Nat.reduceAdd, Nat.reduceLeDiff, Int.cast_ofNat_Int, cB, bG, h0]
theorem tf {a0 : Ty.T y36} {a1 : Ty.T af} (h0 : cur a1) : cur (ek a0 a1).1 := by
  unfold ek
  simp (maxDischargeDepth := 99) only [false_and, and_false, aF, ab, false_and, and_false, aV, aU, aT, aG, cond_true, cond_false, and_true, true_and, implies_true, and_self, ne_eq, reduceCtorEq, not_false_eq_true, true_or, or_true, false_or, or_false, Nat.zero_ne_one, Nat.one_ne_zero, List.length_cons, List.length_nil, Nat.reduceAdd, Nat.reduceLeDiff, Int.cast_ofNat_Int, D7, tw, dk, ct, tP, cB, bG, h0]
theorem mY {a0 : Ty.T y36} {a1 : Ty.T af} (h0 : cur a1) : cur (fK a0 a1).1 := by
  unfold fK
  simp (maxDischargeDepth := 99) only [false_and, and_false, aF, ab, false_and, and_false, aV, aU, aT, aG, cond_true, cond_false, and_true, true_and, implies_true, and_self, ne_eq, reduceCtorEq, not_false_eq_true, true_or, or_true, false_or, or_false, Nat.zero_ne_one, Nat.one_ne_zero, List.length_cons, List.length_nil, Nat.reduceAdd, Nat.reduceLeDiff, Int.cast_ofNat_Int, EA, tq, tf, h0]
theorem tn {a0 : Ty.T y36} {a1 : Ty.T af} (h0 : cur a1) : cur (kg a0 a1).2 := by
  unfold kg
  simp (maxDischargeDepth := 99) only [false_and, and_false, aF, ab, false_and, and_false, aV, aU, aT, aG, cond_true, cond_false, and_true, true_and, implies_true, and_self, ne_eq, reduceCtorEq, not_false_eq_true, true_or, or_true, false_or, or_false, Nat.zero_ne_one, Nat.one_ne_zero, List.length_cons, List.length_nil, Nat.reduceAdd, Nat.reduceLeDiff, Int.cast_ofNat_Int, FG, tA, mY, h0]
theorem EU {a0 : Ty.T y36} {a1 : Ty.T af} (h0 : cur a1) : cur (p8 a0 a1).2 := by
  unfold p8
  simp (maxDischargeDepth := 99) only [false_and, and_false, aF, ab, false_and, and_false, aV, aU, aT, aG, cond_true, cond_false, and_true, true_and, implies_true, and_self, ne_eq, reduceCtorEq, not_false_eq_true, true_or, or_true, false_or, or_false, Nat.zero_ne_one, Nat.one_ne_zero, List.length_cons, List.length_nil, Nat.reduceAdd, Nat.reduceLeDiff, Int.cast_ofNat_Int, DK, tI, tn, mY, h0]
theorem JI {a0 : Ty.T y36} {a1 : Ty.T af} (h0 : cur a1) : Sat (mQ a0 a1 some) (fun r => cur r.2) := by
  unfold mQ
  simp (maxDischargeDepth := 99) only [false_and, and_false, aF, ab, false_and, and_false, aV, aU, aT, aG, cond_true, cond_false, and_true, true_and, implies_true, and_self, ne_eq, reduceCtorEq, not_false_eq_true, true_or, or_true, false_or, or_false, Nat.zero_ne_one, Nat.one_ne_zero, List.length_cons, List.length_nil, Nat.reduceAdd, Nat.reduceLeDiff, Int.cast_ofNat_Int, bL, bj, bJ, bl, bK, bH, cB, bG, dk, ct, tP, D7, tw, EA, tq, tf, FG, tA, mY, DK, tI, tn, EU, h0]
theorem oM {a0 : Ty.T y36} {a1 : Ty.T af} (h0 : cur a1) : GF a0 a1 = true := (JI h0).d
theorem fo {a0 : Ty.T y36} {a1 : Ty.T af} (h0 : cur a1) : cur (du a0 a1).2 := (JI h0).v
theorem Jn {a0 : Ty.T af} (h0 : cur a0) : Sat (nj a0 some) (fun r => cur r.2) := by
  unfold nj
  simp (maxDischargeDepth := 99) only [false_and, and_false, aF, ab, false_and, and_false, aV, aU, aT, aG, cond_true, cond_false, and_true, true_and, implies_true, and_self, ne_eq, reduceCtorEq, not_false_eq_true, true_or, or_true, false_or, or_false, Nat.zero_ne_one, Nat.one_ne_zero, List.length_cons, List.length_nil, Nat.reduceAdd, Nat.reduceLeDiff, Int.cast_ofNat_Int, bL, bj, bJ, bl, bK, bH, dk, ct, cr, bQ, cB, bG, h0]
theorem pv {a0 : Ty.T af} (h0 : cur a0) : Hk a0 = true := (Jn h0).d
theorem fy {a0 : Ty.T af} (h0 : cur a0) : cur (iu a0).2 := (Jn h0).v
theorem Jm {a0 : Ty.T af} (h0 : cur a0) : Sat (kS a0 some) (fun r => cur r.2) := by
  unfold kS
  simp (maxDischargeDepth := 99) only [false_and, and_false, aF, ab, false_and, and_false, aV, aU, aT, aG, cond_true, cond_false, and_true, true_and, implies_true, and_self, ne_eq, reduceCtorEq, not_false_eq_true, true_or, or_true, false_or, or_false, Nat.zero_ne_one, Nat.one_ne_zero, List.length_cons, List.length_nil, Nat.reduceAdd, Nat.reduceLeDiff, Int.cast_ofNat_Int, bL, bj, bJ, bl, bK, bH, cB, bG, h0]
theorem LO {a0 : Ty.T af} (h0 : cur a0) : Gb a0 = true := (Jm h0).d
theorem Km {a0 : Ty.T af} (h0 : cur a0) : cur (wS a0).2 := (Jm h0).v
theorem Iz {a0 : Ty.T af} (h0 : cur a0) : Sat (kK a0 some) (fun r => cur r.2) := by
  unfold kK
  simp (maxDischargeDepth := 99) only [false_and, and_false, aF, ab, false_and, and_false, aV, aU, aT, aG, cond_true, cond_false, and_true, true_and, implies_true, and_self, ne_eq, reduceCtorEq, not_false_eq_true, true_or, or_true, false_or, or_false, Nat.zero_ne_one, Nat.one_ne_zero, List.length_cons, List.length_nil, Nat.reduceAdd, Nat.reduceLeDiff, Int.cast_ofNat_Int, bL, bj, bJ, bl, bK, bH, dk, ct, LO, Km, cB, bG, h0]
theorem o7 {a0 : Ty.T af} (h0 : cur a0) : mN a0 = true := (Iz h0).d
theorem nF {a0 : Ty.T af} (h0 : cur a0) : cur (e4 a0).2 := (Iz h0).v
theorem Ix {a0 : Ty.T y36} {a1 : Ty.T af} (h0 : cur a1) : Sat (nq a0 a1 some) (fun r => cur r.2) := by
  unfold nq
  simp (maxDischargeDepth := 99) only [false_and, and_false, aF, ab, false_and, and_false, aV, aU, aT, aG, cond_true, cond_false, and_true, true_and, implies_true, and_self, ne_eq, reduceCtorEq, not_false_eq_true, true_or, or_true, false_or, or_false, Nat.zero_ne_one, Nat.one_ne_zero, List.length_cons, List.length_nil, Nat.reduceAdd, Nat.reduceLeDiff, Int.cast_ofNat_Int, bL, bj, bJ, bl, bK, bH, r6, gy, cr, bQ, cB, bG, o7, nF, h0]
theorem Gk {a0 : Ty.T y36} {a1 : Ty.T af} (h0 : cur a1) : yp a0 a1 = true := (Ix h0).d
theorem sM {a0 : Ty.T y36} {a1 : Ty.T af} (h0 : cur a1) : cur (fY a0 a1).2 := (Ix h0).v
theorem yZ {v : fX} (h0 : cur v.2.2.1) : Sat (eo v some) (fun r => cur r.2) := by
  unfold eo
  simp (maxDischargeDepth := 99) only [false_and, and_false, aF, ab, false_and, and_false, aV, aU, aT, aG, cond_true, cond_false, and_true, true_and, implies_true, and_self, ne_eq, reduceCtorEq, not_false_eq_true, true_or, or_true, false_or, or_false, Nat.zero_ne_one, Nat.one_ne_zero, List.length_cons, List.length_nil, Nat.reduceAdd, Nat.reduceLeDiff, Int.cast_ofNat_Int, bL, bj, bJ, bl, bK, bH, cB, bG, o7, nF, h0]
theorem DC {v : fX} (h0 : cur v.2.2.1) : yn v = true := (yZ h0).d
theorem tj {v : fX} (h0 : cur v.2.2.1) : cur (mb v).2 := (yZ h0).v
theorem JX {a0 : Ty.T af} (h0 : cur a0) : Sat (kH a0 some) (fun r => cur r.2) := by
  unfold kH
  simp (maxDischargeDepth := 99) only [false_and, and_false, aF, ab, false_and, and_false, aV, aU, aT, aG, cond_true, cond_false, and_true, true_and, implies_true, and_self, ne_eq, reduceCtorEq, not_false_eq_true, true_or, or_true, false_or, or_false, Nat.zero_ne_one, Nat.one_ne_zero, List.length_cons, List.length_nil, Nat.reduceAdd, Nat.reduceLeDiff, Int.cast_ofNat_Int, bL, bj, bJ, bl, bK, bH, cr, bQ, qS, jK, DC, tj, h0]
theorem MY {a0 : Ty.T af} (h0 : cur a0) : BT a0 = true := (JX h0).d
theorem K0 {a0 : Ty.T af} (h0 : cur a0) : cur (xw a0).2 := (JX h0).v
theorem Ki {a0 : Ty.T af} (h0 : cur a0) : Sat (kU a0 some) (fun r => cur r.2) := by
  unfold kU
  simp (maxDischargeDepth := 99) only [false_and, and_false, aF, ab, false_and, and_false, aV, aU, aT, aG, cond_true, cond_false, and_true, true_and, implies_true, and_self, ne_eq, reduceCtorEq, not_false_eq_true, true_or, or_true, false_or, or_false, Nat.zero_ne_one, Nat.one_ne_zero, List.length_cons, List.length_nil, Nat.reduceAdd, Nat.reduceLeDiff, Int.cast_ofNat_Int, bL, bj, bJ, bl, bK, bH, cB, bG, h0]
theorem T5 {a0 : Ty.T af} (h0 : cur a0) : Hi a0 = true := (Ki h0).d
theorem Ko {a0 : Ty.T af} (h0 : cur a0) : cur (iQ a0).2 := (Ki h0).v
theorem acX {a0 : Ty.T af} (h : cur a0) : I6 (wS a0).1 := by
  have key : Sat (kS a0 some) fun r => I6 r.1 := by
    unfold kS
    rw [(oneOf _ _ (by simp) h).1, cond_true, ab]
    exact yD h (by simp) (by decide)
  exact key.v
theorem TZ {a0 : Ty.T af} (h : cur a0) : I6 (e4 a0).1 := by
  have o := once 2 a0 h
  have key : Sat (kK a0 some) fun r => I6 r.1 := by
    unfold kK
    rw [o.1, cond_true]
    cases (an 2 a0).1
    · rw [cond_false, (oneOf _ _ (by simp) o.2).1, cond_true, ab]
      exact yD o.2 (by simp) (by decide)
    · rw [cond_true, LO o.2, cond_true, ab]
      exact acX o.2
  exact key.v
theorem PcR.in {d : Int} {p : Ty.T y63} (h : PcR d p) (h0 : 0 <= d) (h1 : d <= 1000) : I6 p.1 /\ I6 p.2.1 /\ I6 p.2.2.1 /\ I6 p.2.2.2.1 /\ I6 p.2.2.2.2.2.2.2.2.2.2.1 := by
  obtain ⟨q1, q2, q3, q4, _, _, _, _, _, _, q5, _⟩ := h
  unfold inR at q2 q3 q4 q5
  exact ⟨mP (by omega) (by omega), mP (by omega) (by omega), mP (by omega) (by omega), mP (by omega) (by omega), mP (by omega) (by omega)⟩
theorem StR.side {s : Ty.T y36} (R : StR s) : (∀ p ∈ s.1, I6 p.2.2.1) /\ I6 s.2.2.1 := by
  refine ⟨fun p hp => ?_, ?_⟩
  · obtain ⟨d, h1, h2, h3⟩ := R.ps p hp
    exact (h3.in (by omega) (by omega)).2.2.1
  · have h := R.act
    unfold inR at h
    exact mP (by omega) (by omega)
theorem StR.ids {s : Ty.T y36} (R : StR s) : ∀ p ∈ s.1, I6 p.1 := fun p hp => by
  obtain ⟨d, h1, h2, h3⟩ := R.ps p hp
  exact (h3.in (by omega) (by omega)).1
def PaR (p : Ty.T y63) : Prop := I6 p.1 /\ I6 p.2.1 /\ I6 p.2.2.1 /\ I6 p.2.2.2.1 /\ I6 p.2.2.2.2.2.2.2.2.2.2.1
theorem Zf {k : Int} {b : Bool} {c : Ty.T af} {z p : Ty.T y63} (h : cur c) (hp : PaR p) : PaR (mb (k, b, c, z, p, ())).1 := by
  have key : Sat (eo (k, b, c, z, p, ()) some) fun r => PaR r.1 := by
    obtain ⟨h1, h2, h3, h4, h5⟩ := hp
    unfold eo
    dsimp only
    cases b
    · rw [cond_false]
      cases (k == (1 : Int))
      · rw [cond_false]
        cases (k == (2 : Int))
        · rw [cond_false]
          cases (k == (3 : Int))
          · rw [cond_false]
            cases (k == (4 : Int))
            · rw [cond_false]
              cases (k == (5 : Int))
              · rw [cond_false]
                cases (k == (6 : Int))
                · rw [cond_false]
                  cases (k == (7 : Int))
                  · rw [cond_false]
                    cases (k == (8 : Int))
                    · rw [cond_false]
                      cases (k == (9 : Int))
                      · rw [cond_false]
                        cases (k == (10 : Int))
                        · rw [cond_false]
                          cases (k == (11 : Int))
                          · rw [cond_false]
                            rw [ab]
                            exact ⟨h1, h2, h3, h4, h5⟩
                          · rw [cond_true]
                            rw [ab]
                            exact ⟨h1, h2, h3, h4, h5⟩
                        · rw [cond_true]
                          rw [o7 h, cond_true, ab]
                          exact ⟨h1, h2, h3, h4, TZ h⟩
                      · rw [cond_true]
                        rw [o7 h, cond_true, ab]
                        exact ⟨h1, h2, h3, h4, h5⟩
                    · rw [cond_true]
                      rw [o7 h, cond_true, ab]
                      exact ⟨h1, h2, h3, h4, h5⟩
                  · rw [cond_true]
                    rw [(oneOf _ _ (by simp) h).1, cond_true, ab]
                    exact ⟨h1, h2, h3, h4, h5⟩
                · rw [cond_true]
                  rw [(oneOf _ _ (by simp) h).1, cond_true, ab]
                  exact ⟨h1, h2, h3, h4, h5⟩
              · rw [cond_true]
                rw [(oneOf _ _ (by simp) h).1, cond_true, ab]
                exact ⟨h1, h2, h3, h4, h5⟩
            · rw [cond_true]
              rw [(oneOf _ _ (by simp) h).1, cond_true, ab]
              exact ⟨h1, h2, h3, h4, h5⟩
          · rw [cond_true]
            rw [(oneOf _ _ (by simp) h).1, cond_true, ab]
            exact ⟨h1, h2, h3, yD h (by simp) (by decide), h5⟩
        · rw [cond_true]
          rw [(oneOf _ _ (by simp) h).1, cond_true, ab]
          exact ⟨h1, h2, yD h (by simp) (by decide), h4, h5⟩
      · rw [cond_true]
        rw [(oneOf _ _ (by simp) h).1, cond_true, ab]
        exact ⟨h1, yD h (by simp) (by decide), h3, h4, h5⟩
    · rw [cond_true]
      rw [(oneOf _ _ (by simp) h).1, cond_true, ab]
      exact ⟨yD h (by simp) (by decide), h2, h3, h4, h5⟩
  exact key.v
theorem Sf {a0 : Ty.T af} (h : cur a0) : PaR (xw a0).1 := by
  have b1 := below 9 a0 h
  obtain ⟨f1, g1⟩ := b1.2.1 (by omega)
  have e : IntKind.wrap .i64 ((1 : Int) + (aa 9 a0).1) = 1 + (aa 9 a0).1 := ba (by omega) (by omega)
  have p := (l4R (IntKind.wrap .i64 ((1 : Int) + (aa 9 a0).1)) _ b1.2.2).in (by rw [e]; omega) (by rw [e]; omega)
  have c1 : cur (cU (IntKind.wrap .i64 ((1 : Int) + (aa 9 a0).1)) (aa 9 a0).2).2 := jK b1.2.2
  have b2 := below 20 _ c1
  have key : Sat (kH a0 some) fun r => PaR r.1 := by
    unfold kH
    simp (maxDischargeDepth := 99) only [false_and, and_false, aF, ab, false_and, and_false, aV, aU, aT, aG, cond_true, cond_false, and_true, true_and, implies_true, and_self, ne_eq, reduceCtorEq, not_false_eq_true, true_or, or_true, false_or, or_false, Nat.zero_ne_one, Nat.one_ne_zero, List.length_cons, List.length_nil, Nat.reduceAdd, Nat.reduceLeDiff, Int.cast_ofNat_Int, bL, bj, bJ, bl, bK, bH, cr, bQ, qS, jK, DC, tj, h]
    exact Zf b2.2.2 p
  exact key.v
theorem Az {n : Int} {c : Ty.T af} {s : Ty.T y36} {y : Ty.T bo} {q : Ty.T q1} {l : List (Ty.T y27)} (h : cur c) : vq n 0 c s y q l 0 = true /\ cur (mm n 0 c s y q l).2.2.1 /\ (mm n 0 c s y q l).2.2.2.2.2.2.1 = l := by
  have := eP (s := lY) (Q := fun v => cur v.2.2.1 /\ v.2.2.2.2.2.2.1 = l) (fun k v => ∃ (i : Int) (c : Ty.T af) (q : Ty.T q1), v = (n, i, c, s, y, q, l, ()) /\ cur c /\ 0 <= i /\ i + k = 6) (fun k v hv => by
    obtain ⟨i, c, q, rfl, h1, h3, h4⟩ := hv
    unfold lY lO
    dsimp only
    have e : IntKind.wrap .i64 (i + 1) = i + 1 := ba (by omega) (by omega)
    rw [aF, cr h1, cond_true, ab, ab]
    refine ⟨fun hl => ?_, fun _ => .inl ⟨rfl, h1, rfl⟩⟩
    have hi : i < 6 := by
      by_cases hi : i < 6
      · exact hi
      · unfold yf mv at hl
        dsimp only at hl
        rw [show decide (i < (6 : Int)) = false from decide_eq_false hi] at hl
        cases hl
    exact .inr ⟨rfl, k - 1, by omega, i + 1, _, _, by rw [e] <;> rfl, bQ h1, by omega, by omega⟩) 6 (n, 0, c, s, y, q, l, ()) (ng (n, 0, c, s, y, q, l, ())) ⟨0, c, q, rfl, h, by omega, by omega⟩ (by simp only [ng]; omega)
  exact ⟨this.1.1, this.2⟩
theorem CI {n : Int} {c : Ty.T af} {s : Ty.T y36} {y : Ty.T bo} {q : Ty.T q1} {l : List (Ty.T y27)} (h : cur c) : vq n 0 c s y q l 0 = true := (Az h).1
theorem Cb {n : Int} {c : Ty.T af} {s : Ty.T y36} {y : Ty.T bo} {q : Ty.T q1} {l : List (Ty.T y27)} (h : cur c) : cur (mm n 0 c s y q l).2.2.1 := (Az h).2.1
theorem uw {n : Int} {c : Ty.T af} {s : Ty.T y36} {y : Ty.T bo} {q : Ty.T q1} {l : List (Ty.T y27)} (h : cur c) : (mm n 0 c s y q l).2.2.2.2.2.2.1 = l := (Az h).2.2
theorem zB {v : dG} (h0 : cur v.2.1) : Sat (iH v some) (fun r => cur r.2) := by
  unfold iH
  simp (maxDischargeDepth := 99) only [false_and, and_false, aF, ab, false_and, and_false, aV, aU, aT, aG, cond_true, cond_false, and_true, true_and, implies_true, and_self, ne_eq, reduceCtorEq, not_false_eq_true, true_or, or_true, false_or, or_false, Nat.zero_ne_one, Nat.one_ne_zero, List.length_cons, List.length_nil, Nat.reduceAdd, Nat.reduceLeDiff, Int.cast_ofNat_Int, bL, bj, bJ, bl, bK, bH, cr, bQ, pR, gA, h0]
theorem EX {v : dG} (h0 : cur v.2.1) : vm v = true := (zB h0).d
theorem tL {v : dG} (h0 : cur v.2.1) : cur (xM v).2 := (zB h0).v
theorem ze {v : fN} (h0 : cur v.2.2.2.2.2.1) : Sat (gW v some) (fun r => cur r.2.2) := by
  unfold gW
  simp (maxDischargeDepth := 99) only [false_and, and_false, aF, ab, false_and, and_false, aV, aU, aT, aG, cond_true, cond_false, and_true, true_and, implies_true, and_self, ne_eq, reduceCtorEq, not_false_eq_true, true_or, or_true, false_or, or_false, Nat.zero_ne_one, Nat.one_ne_zero, List.length_cons, List.length_nil, Nat.reduceAdd, Nat.reduceLeDiff, Int.cast_ofNat_Int, bL, bj, bJ, bl, bK, bH, dk, ct, h0]
theorem DM {v : fN} (h0 : cur v.2.2.2.2.2.1) : wx v = true := (ze h0).d
theorem tg {v : fN} (h0 : cur v.2.2.2.2.2.1) : cur (eO v).2.2 := (ze h0).v
theorem AM {n : Int} {c : Ty.T af} {s : Ty.T y36} {y : Ty.T bo} {q : Ty.T q1} {l : List (Ty.T y27)} (h0 : 0 <= n) (hn : n <= 2) (hl : l = []) (h : cur c) : vO n c s y q l 0 = true /\ cur (mH n c s y q l).2.1 /\ List.length (mH n c s y q l).2.2.2.2.2.1 <= 2 := by
  have := eP (s := mZ) (Q := fun v => cur v.2.1 /\ List.length v.2.2.2.2.2.1 <= 2) (fun k v => ∃ (i : Int) (c : Ty.T af) (l : List (Ty.T y27)), v = (i, c, s, y, q, l, ()) /\ cur c /\ i = k /\ (l.length : Int) + i <= 2) (fun k v hv => by
    obtain ⟨i, c, l, rfl, h1, h3, h4⟩ := hv
    have e : 0 <= i -> IntKind.wrap .i64 (i - 1) = i - 1 := fun _ => ba (by omega) (by omega)
    have hz : ∀ x, (l ++ [x]).length * 56 <= 140737488351232 := fun x => by simp only [List.length_append, List.length_cons, List.length_nil]; omega
    unfold mZ mR
    dsimp only
    simp (maxDischargeDepth := 99) only [false_and, and_false, aF, ab, false_and, and_false, aV, aU, aT, aG, cond_true, cond_false, and_true, true_and, implies_true, and_self, ne_eq, reduceCtorEq, not_false_eq_true, true_or, or_true, false_or, or_false, Nat.zero_ne_one, Nat.one_ne_zero, List.length_cons, List.length_nil, Nat.reduceAdd, Nat.reduceLeDiff, Int.cast_ofNat_Int, bL, bj, bJ, bl, bK, bH, r6, gy, DM, tg, h1, hz, if_true]
    refine ⟨fun hl => ?_, fun _ => by omega⟩
    have hl : i > 0 := of_decide_eq_true hl
    refine ⟨k - 1, by omega, i - 1, _, _, by rw [e (by omega)] <;> rfl, ?_, by omega, by simp only [List.length_append, List.length_cons, List.length_nil]; omega⟩
    simp (maxDischargeDepth := 99) only [false_and, and_false, aF, ab, false_and, and_false, aV, aU, aT, aG, cond_true, cond_false, and_true, true_and, implies_true, and_self, ne_eq, reduceCtorEq, not_false_eq_true, true_or, or_true, false_or, or_false, Nat.zero_ne_one, Nat.one_ne_zero, List.length_cons, List.length_nil, Nat.reduceAdd, Nat.reduceLeDiff, Int.cast_ofNat_Int, bL, bj, bJ, bl, bK, bH, r6, gy, DM, tg, h1]) n.toNat (n, c, s, y, q, l, ()) (me (n, c, s, y, q, l, ())) ⟨n, c, l, rfl, h, by omega, by subst hl; show (0 : Int) + n <= 2; omega⟩ (by simp only [me]; omega)
  exact ⟨this.1.1, this.2⟩
theorem wbA {c : Ty.T af} (h : cur c) : 0 <= IntKind.wrap .i64 ((1 : Int) + (aa 2 c).1) := by
  have := (below 2 c h).2.1 (by omega)
  rw [ba (by omega) (by omega)]
  omega
theorem wbB {c : Ty.T af} (h : cur c) : IntKind.wrap .i64 ((1 : Int) + (aa 2 c).1) <= 2 := by
  have := (below 2 c h).2.1 (by omega)
  rw [ba (by omega) (by omega)]
  omega
theorem A8 {n : Int} {c : Ty.T af} {s : Ty.T y36} {y : Ty.T bo} {q : Ty.T q1} {l : List (Ty.T y27)} (h0 : 0 <= n) (hn : n <= 2) (hl : l = []) (h : cur c) : vO n c s y q l 0 = true := (AM h0 hn hl h).1
theorem Ds {n : Int} {c : Ty.T af} {s : Ty.T y36} {y : Ty.T bo} {q : Ty.T q1} {l : List (Ty.T y27)} (h0 : 0 <= n) (hn : n <= 2) (hl : l = []) (h : cur c) : cur (mH n c s y q l).2.1 := (AM h0 hn hl h).2.1
theorem Bo {n : Int} {c : Ty.T af} {s : Ty.T y36} {y : Ty.T bo} {q : Ty.T q1} {l : List (Ty.T y27)} (h0 : 0 <= n) (hn : n <= 2) (hl : l = []) (h : cur c) : Ty.few 2 (.sl 41 y27) (mH n c s y q l).2.2.2.2.2.1 := QF rfl (Nat.le_trans (AM h0 hn hl h).2.2 (by decide))
theorem jl {a0 : Ty.T y36} {a1 : Int} {a2 : Ty.T af} (h0 : cur a2) : cur (aH a0 a1 a2).2.2.1 := by
  unfold aH
  simp (maxDischargeDepth := 99) only [false_and, and_false, aF, ab, false_and, and_false, aV, aU, aT, aG, cond_true, cond_false, and_true, true_and, implies_true, and_self, ne_eq, reduceCtorEq, not_false_eq_true, true_or, or_true, false_or, or_false, Nat.zero_ne_one, Nat.one_ne_zero, List.length_cons, List.length_nil, Nat.reduceAdd, Nat.reduceLeDiff, Int.cast_ofNat_Int, CI, Cb, uw, cB, bG, h0]
theorem jb {a0 : Ty.T y36} {a1 : Int} {a2 : Ty.T af} (h0 : cur a2) : (aH a0 a1 a2).2.2.2.2.2.2.1 = [] := by
  unfold aH
  exact uw (by simp (maxDischargeDepth := 99) only [false_and, and_false, aF, ab, false_and, and_false, aV, aU, aT, aG, cond_true, cond_false, and_true, true_and, implies_true, and_self, ne_eq, reduceCtorEq, not_false_eq_true, true_or, or_true, false_or, or_false, Nat.zero_ne_one, Nat.one_ne_zero, List.length_cons, List.length_nil, Nat.reduceAdd, Nat.reduceLeDiff, Int.cast_ofNat_Int, CI, Cb, uw, cB, bG, h0])
theorem EW {a0 : Ty.T y36} {a1 : Int} {a2 : Ty.T af} (h0 : cur a2) : cur (p4 a0 a1 a2).2 := by
  unfold p4
  simp (maxDischargeDepth := 99) only [false_and, and_false, aF, ab, false_and, and_false, aV, aU, aT, aG, cond_true, cond_false, and_true, true_and, implies_true, and_self, ne_eq, reduceCtorEq, not_false_eq_true, true_or, or_true, false_or, or_false, Nat.zero_ne_one, Nat.one_ne_zero, List.length_cons, List.length_nil, Nat.reduceAdd, Nat.reduceLeDiff, Int.cast_ofNat_Int, EX, tL, dk, ct, jl, jb, h0]
theorem Ey {a0 : Ty.T y36} {a1 : Int} {a2 : Ty.T af} (h0 : cur a2) : cur (iA a0 a1 a2).2.1 := by
  unfold iA
  simp (maxDischargeDepth := 99) only [false_and, and_false, aF, ab, false_and, and_false, aV, aU, aT, aG, cond_true, cond_false, and_true, true_and, implies_true, and_self, ne_eq, reduceCtorEq, not_false_eq_true, true_or, or_true, false_or, or_false, Nat.zero_ne_one, Nat.one_ne_zero, List.length_cons, List.length_nil, Nat.reduceAdd, Nat.reduceLeDiff, Int.cast_ofNat_Int, A8, Ds, Bo, wbA, wbB, cr, bQ, jl, jb, h0]
theorem FF {a0 : Ty.T y36} {a1 : Int} {a2 : Ty.T af} (h0 : cur a2) : Ty.few 2 (.sl 41 y27) (iA a0 a1 a2).2.2.2.2.2.1 := by
  unfold iA
  simp (maxDischargeDepth := 99) only [false_and, and_false, aF, ab, false_and, and_false, aV, aU, aT, aG, cond_true, cond_false, and_true, true_and, implies_true, and_self, ne_eq, reduceCtorEq, not_false_eq_true, true_or, or_true, false_or, or_false, Nat.zero_ne_one, Nat.one_ne_zero, List.length_cons, List.length_nil, Nat.reduceAdd, Nat.reduceLeDiff, Int.cast_ofNat_Int, A8, Ds, Bo, wbA, wbB, cr, bQ, jl, jb, h0]
theorem Cm {a0 : Ty.T y36} {a1 : Int} {a2 : Ty.T af} (h0 : cur a2) : Sat (mC a0 a1 a2 some) (fun r => cur r.2.1 /\ Ty.few 2 (.sl 41 y27) r.2.2) := by
  unfold mC
  simp (maxDischargeDepth := 99) only [false_and, and_false, aF, ab, false_and, and_false, aV, aU, aT, aG, cond_true, cond_false, and_true, true_and, implies_true, and_self, ne_eq, reduceCtorEq, not_false_eq_true, true_or, or_true, false_or, or_false, Nat.zero_ne_one, Nat.one_ne_zero, List.length_cons, List.length_nil, Nat.reduceAdd, Nat.reduceLeDiff, Int.cast_ofNat_Int, bL, bj, bJ, bl, bK, bH, cB, bG, CI, Cb, uw, jl, jb, dk, ct, EX, tL, EW, cr, bQ, A8, Ds, Bo, wbA, wbB, Ey, FF, h0]
theorem wP {a0 : Ty.T y36} {a1 : Int} {a2 : Ty.T af} (h0 : cur a2) : Hb a0 a1 a2 = true := (Cm h0).d
theorem jW {a0 : Ty.T y36} {a1 : Int} {a2 : Ty.T af} (h0 : cur a2) : cur (yj a0 a1 a2).2.1 := (Cm h0).v.1
theorem gC {a0 : Ty.T y36} {a1 : Int} {a2 : Ty.T af} (h0 : cur a2) : Ty.few 2 (.sl 41 y27) (yj a0 a1 a2).2.2 := (Cm h0).v.2
theorem fM {a0 : Ty.T y36} {a1 : Int} {a2 : Ty.T af} (h0 : cur a2) : Ty.few 8 (.sl 41 y27) (yj a0 a1 a2).2.2 := pZ (by decide) _ _ (gC h0)
theorem zK {v : fT} (h0 : cur v.1) : Sat (gU v some) (fun r => cur r.2) := by
  unfold gU
  simp (maxDischargeDepth := 99) only [false_and, and_false, aF, ab, false_and, and_false, aV, aU, aT, aG, cond_true, cond_false, and_true, true_and, implies_true, and_self, ne_eq, reduceCtorEq, not_false_eq_true, true_or, or_true, false_or, or_false, Nat.zero_ne_one, Nat.one_ne_zero, List.length_cons, List.length_nil, Nat.reduceAdd, Nat.reduceLeDiff, Int.cast_ofNat_Int, bL, bj, bJ, bl, bK, bH, dk, ct, h0]
theorem yc {v : fT} (h0 : cur v.1) : xo v = true := (zK h0).d
theorem mF {v : fT} (h0 : cur v.1) : cur (wc v).2 := (zK h0).v
theorem zT {v : cK} (h0 : cur v.2.1) : Sat (eQ v some) (fun r => cur r.1) := by
  unfold eQ
  simp (maxDischargeDepth := 99) only [false_and, and_false, aF, ab, false_and, and_false, aV, aU, aT, aG, cond_true, cond_false, and_true, true_and, implies_true, and_self, ne_eq, reduceCtorEq, not_false_eq_true, true_or, or_true, false_or, or_false, Nat.zero_ne_one, Nat.one_ne_zero, List.length_cons, List.length_nil, Nat.reduceAdd, Nat.reduceLeDiff, Int.cast_ofNat_Int, bL, bj, bJ, bl, bK, bH, pR, gA, h0]
theorem yu {v : cK} (h0 : cur v.2.1) : wH v = true := (zT h0).d
theorem lH {v : cK} (h0 : cur v.2.1) : cur (xj v).1 := (zT h0).v
theorem KR {v : iv} (h0 : cur v.1) : Sat (iN v some) (fun _ => True) := by
  unfold iN
  simp (maxDischargeDepth := 99) only [false_and, and_false, aF, ab, false_and, and_false, aV, aU, aT, aG, cond_true, cond_false, and_true, true_and, implies_true, and_self, ne_eq, reduceCtorEq, not_false_eq_true, true_or, or_true, false_or, or_false, Nat.zero_ne_one, Nat.one_ne_zero, List.length_cons, List.length_nil, Nat.reduceAdd, Nat.reduceLeDiff, Int.cast_ofNat_Int, bL, bj, bJ, bl, bK, bH, cr, bQ, h0]
theorem Ng {v : iv} (h0 : cur v.1) : vy v = true := (KR h0).d
theorem Al {v : cK} (h0 : cur v.2.1) : Sat (hR v some) (fun r => cur r.1) := by
  unfold hR
  simp (maxDischargeDepth := 99) only [false_and, and_false, aF, ab, false_and, and_false, aV, aU, aT, aG, cond_true, cond_false, and_true, true_and, implies_true, and_self, ne_eq, reduceCtorEq, not_false_eq_true, true_or, or_true, false_or, or_false, Nat.zero_ne_one, Nat.one_ne_zero, List.length_cons, List.length_nil, Nat.reduceAdd, Nat.reduceLeDiff, Int.cast_ofNat_Int, bL, bj, bJ, bl, bK, bH, Ng, cr, bQ, h0]
theorem xB {v : cK} (h0 : cur v.2.1) : vL v = true := (Al h0).d
theorem m5 {v : cK} (h0 : cur v.2.1) : cur (vV v).1 := (Al h0).v
theorem zg {v : fW} (h0 : cur v.2.1) : Sat (gM v some) (fun r => cur r.2) := by
  unfold gM
  simp (maxDischargeDepth := 99) only [false_and, and_false, aF, ab, false_and, and_false, aV, aU, aT, aG, cond_true, cond_false, and_true, true_and, implies_true, and_self, ne_eq, reduceCtorEq, not_false_eq_true, true_or, or_true, false_or, or_false, Nat.zero_ne_one, Nat.one_ne_zero, List.length_cons, List.length_nil, Nat.reduceAdd, Nat.reduceLeDiff, Int.cast_ofNat_Int, bL, bj, bJ, bl, bK, bH, cB, bG, dk, ct, cr, bQ, h0]
theorem vj {v : fW} (h0 : cur v.2.1) : xW v = true := (zg h0).d
theorem m4 {v : fW} (h0 : cur v.2.1) : cur (w8 v).2 := (zg h0).v
theorem iT {a0 : Ty.T y36} {a1 : Int} {a2 : Ty.T af} (h0 : cur a2) : cur (kl a0 a1 a2).2 := by
  unfold kl
  simp (maxDischargeDepth := 99) only [false_and, and_false, aF, ab, false_and, and_false, aV, aU, aT, aG, cond_true, cond_false, and_true, true_and, implies_true, and_self, ne_eq, reduceCtorEq, not_false_eq_true, true_or, or_true, false_or, or_false, Nat.zero_ne_one, Nat.one_ne_zero, List.length_cons, List.length_nil, Nat.reduceAdd, Nat.reduceLeDiff, Int.cast_ofNat_Int, yc, mF, cB, bG, cr, bQ, h0]
theorem dN {a0 : Ty.T y36} {a1 : Int} {a2 : Ty.T af} (h0 : cur a2) : cur (aN a0 a1 a2).1 := by
  unfold aN
  simp (maxDischargeDepth := 99) only [false_and, and_false, aF, ab, false_and, and_false, aV, aU, aT, aG, cond_true, cond_false, and_true, true_and, implies_true, and_self, ne_eq, reduceCtorEq, not_false_eq_true, true_or, or_true, false_or, or_false, Nat.zero_ne_one, Nat.one_ne_zero, List.length_cons, List.length_nil, Nat.reduceAdd, Nat.reduceLeDiff, Int.cast_ofNat_Int, yu, lH, iT, cr, bQ, cB, bG, h0]
theorem jk {a0 : Ty.T y36} {a1 : Int} {a2 : Ty.T af} (h0 : cur a2) : cur (bZ a0 a1 a2).2.1 := by
  unfold bZ
  simp (maxDischargeDepth := 99) only [false_and, and_false, aF, ab, false_and, and_false, aV, aU, aT, aG, cond_true, cond_false, and_true, true_and, implies_true, and_self, ne_eq, reduceCtorEq, not_false_eq_true, true_or, or_true, false_or, or_false, Nat.zero_ne_one, Nat.one_ne_zero, List.length_cons, List.length_nil, Nat.reduceAdd, Nat.reduceLeDiff, Int.cast_ofNat_Int, wP, jW, gC, fM, oM, fo, dN, pv, fy, h0]
theorem ja {a0 : Ty.T y36} {a1 : Int} {a2 : Ty.T af} (h0 : cur a2) : Ty.few 2 (.sl 41 y27) (bZ a0 a1 a2).2.2 := by
  unfold bZ
  simp (maxDischargeDepth := 99) only [false_and, and_false, aF, ab, false_and, and_false, aV, aU, aT, aG, cond_true, cond_false, and_true, true_and, implies_true, and_self, ne_eq, reduceCtorEq, not_false_eq_true, true_or, or_true, false_or, or_false, Nat.zero_ne_one, Nat.one_ne_zero, List.length_cons, List.length_nil, Nat.reduceAdd, Nat.reduceLeDiff, Int.cast_ofNat_Int, wP, jW, gC, fM, oM, fo, dN, pv, fy, h0]
theorem jf {a0 : Ty.T y36} {a1 : Int} {a2 : Ty.T af} (h0 : cur a2) : Ty.few 8 (.sl 41 y27) (bZ a0 a1 a2).2.2 := by
  unfold bZ
  simp (maxDischargeDepth := 99) only [false_and, and_false, aF, ab, false_and, and_false, aV, aU, aT, aG, cond_true, cond_false, and_true, true_and, implies_true, and_self, ne_eq, reduceCtorEq, not_false_eq_true, true_or, or_true, false_or, or_false, Nat.zero_ne_one, Nat.one_ne_zero, List.length_cons, List.length_nil, Nat.reduceAdd, Nat.reduceLeDiff, Int.cast_ofNat_Int, wP, jW, gC, fM, oM, fo, dN, pv, fy, h0]
theorem lZ {a0 : Ty.T y36} {a1 : Int} {a2 : Ty.T af} (h0 : cur a2) : cur (ka a0 a1 a2).1 := by
  unfold ka
  simp (maxDischargeDepth := 99) only [false_and, and_false, aF, ab, false_and, and_false, aV, aU, aT, aG, cond_true, cond_false, and_true, true_and, implies_true, and_self, ne_eq, reduceCtorEq, not_false_eq_true, true_or, or_true, false_or, or_false, Nat.zero_ne_one, Nat.one_ne_zero, List.length_cons, List.length_nil, Nat.reduceAdd, Nat.reduceLeDiff, Int.cast_ofNat_Int, xB, m5, dk, ct, jk, ja, jf, dN, oM, fo, pv, fy, h0]
theorem tM {a0 : Ty.T y36} {a1 : Int} {a2 : Ty.T af} (h0 : cur a2) : cur (qf a0 a1 a2).2 := by
  unfold qf
  simp (maxDischargeDepth := 99) only [false_and, and_false, aF, ab, false_and, and_false, aV, aU, aT, aG, cond_true, cond_false, and_true, true_and, implies_true, and_self, ne_eq, reduceCtorEq, not_false_eq_true, true_or, or_true, false_or, or_false, Nat.zero_ne_one, Nat.one_ne_zero, List.length_cons, List.length_nil, Nat.reduceAdd, Nat.reduceLeDiff, Int.cast_ofNat_Int, vj, m4, dN, oM, fo, pv, fy, jk, ja, jf, lZ, h0]
theorem AB {a0 : Ty.T y36} {a1 : Int} {a2 : Ty.T af} (h0 : cur a2) : Sat (jt a0 a1 a2 some) (fun r => cur r.2.2.1 /\ Ty.few 8 (.sl 41 y27) r.2.2.2) := by
  unfold jt
  simp (maxDischargeDepth := 99) only [false_and, and_false, aF, ab, false_and, and_false, aV, aU, aT, aG, cond_true, cond_false, and_true, true_and, implies_true, and_self, ne_eq, reduceCtorEq, not_false_eq_true, true_or, or_true, false_or, or_false, Nat.zero_ne_one, Nat.one_ne_zero, List.length_cons, List.length_nil, Nat.reduceAdd, Nat.reduceLeDiff, Int.cast_ofNat_Int, bL, bj, bJ, bl, bK, bH, cr, bQ, cB, bG, yc, mF, yu, lH, iT, oM, fo, dN, pv, fy, wP, jW, gC, fM, dk, ct, jk, ja, jf, xB, m5, vj, m4, lZ, tM, h0]
theorem Vc {a0 : Ty.T y36} {a1 : Int} {a2 : Ty.T af} (h0 : cur a2) : F6 a0 a1 a2 = true := (AB h0).d
theorem Kt {a0 : Ty.T y36} {a1 : Int} {a2 : Ty.T af} (h0 : cur a2) : cur (kF a0 a1 a2).2.2.1 := (AB h0).v.1
theorem Ll {a0 : Ty.T y36} {a1 : Int} {a2 : Ty.T af} (h0 : cur a2) : Ty.few 8 (.sl 41 y27) (kF a0 a1 a2).2.2.2 := (AB h0).v.2
theorem Ya {v : cK} (h : cur v.2.1) : Sat (eQ v some) fun r => @Eq Int r.2.1 v.2.2.2.2.1.1 := by
  obtain ⟨b, c, s, z, q, w, l, u⟩ := v
  dsimp only at h
  unfold eQ
  dsimp only
  cases b
  · rw [cond_false, ab]
  · rw [cond_true, pR h, cond_true, ab]
theorem ad0 {a0 : Ty.T y36} {a1 : Int} {a2 : Ty.T af} (h : cur a2) : @Eq Int (kF a0 a1 a2).1.1 a1 := by
  have k : @Eq Int (aN a0 a1 a2).2.1 a1 := (Ya (iT h)).v
  have key : Sat (jt a0 a1 a2 some) fun r => @Eq Int r.1.1 a1 := by
    unfold jt
    simp (maxDischargeDepth := 99) only [false_and, and_false, aF, ab, false_and, and_false, aV, aU, aT, aG, cond_true, cond_false, and_true, true_and, implies_true, and_self, ne_eq, reduceCtorEq, not_false_eq_true, true_or, or_true, false_or, or_false, Nat.zero_ne_one, Nat.one_ne_zero, List.length_cons, List.length_nil, Nat.reduceAdd, Nat.reduceLeDiff, Int.cast_ofNat_Int, bL, bj, bJ, bl, bK, bH, cr, bQ, cB, bG, yc, mF, yu, lH, iT, oM, fo, dN, pv, fy, wP, jW, gC, fM, dk, ct, jk, ja, jf, xB, m5, vj, m4, lZ, tM, h, k]
  exact key.v

theorem Y6 (a b c d n z : Int) (t : Bool) (h : c8 ((a, b, c, d, n, z, t) : Ty.T y27) = true) : inR b 0 99 /\ inR c 0 99 /\ inR d (-1) 2 /\ inR n 0 2147483647 /\ inR z 0 4 := by
  have cc : ∀ (p q r : Bool), cond p q r = true ↔ (p = true /\ q = true) ∨ (p = false /\ r = true) := by decide
  have cf : ∀ (p q r : Bool), cond p q r = false ↔ (p = true /\ q = false) ∨ (p = false /\ r = false) := by decide
  unfold c8 at h
  try unfold t157 at h
  simp only [bt] at h
  dsimp only [Ty.T] at h
  unfold inR
  cases t <;> simp [cc, cf] at h <;> omega
theorem UG (e : Ty.T y27) (h : c8 e = true) : inR e.2.1 0 99 /\ inR e.2.2.1 0 99 /\ inR e.2.2.2.1 (-1) 2 /\ inR e.2.2.2.2.1 0 2147483647 /\ inR e.2.2.2.2.2.1 0 4 := by
  obtain ⟨a, b, c, d, n, z, t⟩ := e
  exact Y6 a b c d n z t h
theorem aeK (s : Ty.T y36) (e : Ty.T y27) (hb : s.1.length <= 1048576) (hs : s.2.1.length <= 1048576) (hP : ∀ p ∈ s.1, I6 p.2.2.1) (ha : I6 s.2.2.1) : I6 (tY s e) := by
  have h := tgt s e hb
  have t : I6 (lI s e) := by
    have m1 : I6 (-1) := by decide
    have m0 : I6 0 := by decide
    have hd := h.1
    unfold d270 at hd
    unfold lI
    cases (e.2.2.1 == (0 : Int))
    · rw [cond_false]
      have hp := (pa s e.2.2.1 hb).1
      rw [hp, cond_true]
      cases decide (bW s e.2.2.1 < (0 : Int))
      · rw [cond_false]
        cases hx : s.1[(bW s e.2.2.1).toNat]? with
        | none => exact m0
        | some x => exact hP x (List.mem_of_getElem? hx)
      · exact m1
    · rw [cond_true]
      cases hi : bt e.2.2.2.1 0 (IntKind.wrap .i64 (((s.2.1).length : Int) - (1 : Int)))
      · exact m1
      · show I6 e.2.2.2.1
        rw [ba (by omega) (by omega)] at hi
        unfold bt at hi
        simp at hi
        exact mP (by omega) (by omega)
  unfold tY
  rw [h.1, cond_true]
  cases (lI s e == (-1 : Int))
  · exact t
  · exact ha
theorem c1R (w : oO) : @Eq Int (bF w).1 0 ∨ @Eq Int (bF w).1 w.2.2.2.2.2.2.1.2.2.2.2.1 ∨ @Eq Int (bF w).1 w.2.2.1 ∨ @Eq Int (bF w).1 (ey w.2.2.2.2.2.2.1.2.2.2.2.1 w.2.2.2.2.2.1.2.2.2.2.2.2.2.2) := by
  unfold bF dx
  cases w.2.2.2.2.1
  · rw [cond_false]
    cases (w.2.2.2.1 == (2 : Int))
    · rw [cond_false]
      cases (w.2.2.2.1 == (9 : Int))
      · rw [cond_false]
        split
        · exact .inr (.inr (.inl rfl))
        · exact .inl rfl
      · rw [cond_true]
        generalize d273 _ _ = b
        cases b
        · exact .inl rfl
        · exact .inr (.inr (.inl rfl))
    · rw [cond_true]
      split
      · exact .inr (.inr (.inr rfl))
      · exact .inl rfl
  · rw [cond_true]
    cases (w.2.2.2.2.2.2.1.1 == (1 : Int))
    · exact .inr (.inr (.inl rfl))
    · exact .inr (.inl rfl)
theorem Ts (e : Ty.T aq) (v : Ty.T y27) (hb : e.2.2.2.2.2.2.1.2.2.2.2.2.2.length <= 1048576) : vk e v = cond (ga e && (c8 v && lF e.2.2.2.2.2.2.1 v.1)) ((fm e v).1, (tZ e (fm e v).1).1, (tZ e (fm e v).1).2.1, (fm e v).2.filter fun x => !gl x, (tZ e (fm e v).1).2.2) (0, (((e.1, e.2.1, e.2.2.1, e.2.2.2.1, e.2.2.2.2.1, e.2.2.2.2.2.1, e.2.2.2.2.2.2.1.1, e.2.2.2.2.2.2.1.2.1, e.2.2.2.2.2.2.1.2.2.1, e.2.2.2.2.2.2.1.2.2.2.1, e.2.2.2.2.2.2.1.2.2.2.2.1, e.2.2.2.2.2.2.1.2.2.2.2.2.1), e.2.2.2.2.2.2.2, e.2.2.2.2.2.2.1.2.2.2.2.2.2)).1, (e.2.2.2.2.2.2.2.1, e.2.2.2.2.2.2.2.2), [v], e.2.2.2.2.2.2.1.2.2.2.2.2.2) := by
  have h1 := km e hb
  have h2 := SG e v hb
  have h3 := J7 e (bF ([], 0, 0, e.2.2.2.2.2.2.1.1, (e.2.2.2.2.2.2.1.1 == (1 : Int)), e, v, (0, 0, 0, 0, (0, 0, 0, 0, 0, 0, 0), (0, 0), (0, 0, 0, 0, 0, false, []), 0, 0), [], ())).1 (bF ([], 0, 0, e.2.2.2.2.2.2.1.1, (e.2.2.2.2.2.2.1.1 == (1 : Int)), e, v, (0, 0, 0, 0, (0, 0, 0, 0, 0, 0, 0), (0, 0), (0, 0, 0, 0, 0, false, []), 0, 0), [], ())).2 (Cq e v hb)
  have h4 := cpS e hb
  have h6 := Sh e (bF ([], 0, 0, e.2.2.2.2.2.2.1.1, (e.2.2.2.2.2.2.1.1 == (1 : Int)), e, v, (0, 0, 0, 0, (0, 0, 0, 0, 0, 0, 0), (0, 0), (0, 0, 0, 0, 0, false, []), 0, 0), [], ())).1 hb
  have hk : Ig [] 0 (bF ([], 0, 0, e.2.2.2.2.2.2.1.1, (e.2.2.2.2.2.2.1.1 == (1 : Int)), e, v, (0, 0, 0, 0, (0, 0, 0, 0, 0, 0, 0), (0, 0), (0, 0, 0, 0, 0, false, []), 0, 0), [], ())).1 0 e (0, 0, 0, 0, (0, 0, 0, 0, 0, 0, 0), (0, 0), (0, 0, 0, 0, 0, false, []), 0, 0) (bF ([], 0, 0, e.2.2.2.2.2.2.1.1, (e.2.2.2.2.2.2.1.1 == (1 : Int)), e, v, (0, 0, 0, 0, (0, 0, 0, 0, 0, 0, 0), (0, 0), (0, 0, 0, 0, 0, false, []), 0, 0), [], ())).2 [] 0 = true := bg h3 0
  have hw : GX [] 0 (bF ([], 0, 0, e.2.2.2.2.2.2.1.1, (e.2.2.2.2.2.2.1.1 == (1 : Int)), e, v, (0, 0, 0, 0, (0, 0, 0, 0, 0, 0, 0), (0, 0), (0, 0, 0, 0, 0, false, []), 0, 0), [], ())).1 0 e (0, 0, 0, 0, (0, 0, 0, 0, 0, 0, 0), (0, 0), (0, 0, 0, 0, 0, false, []), 0, 0) (bF ([], 0, 0, e.2.2.2.2.2.2.1.1, (e.2.2.2.2.2.2.1.1 == (1 : Int)), e, v, (0, 0, 0, 0, (0, 0, 0, 0, 0, 0, 0), (0, 0), (0, 0, 0, 0, 0, false, []), 0, 0), [], ())).2 [] = _ := bD h3
  have hg : qX ([], 0, e, v, (0, 0, 0, 0, (0, 0, 0, 0, 0, 0, 0), (0, 0), (0, 0, 0, 0, 0, false, []), 0, 0), ()) = true /\ rz ([], 0, e, v, (0, 0, 0, 0, (0, 0, 0, 0, 0, 0, 0), (0, 0), (0, 0, 0, 0, 0, false, []), 0, 0), ()) = cond (!ga e) true (cond (!c8 v) true (!lF e.2.2.2.2.2.2.1 v.1)) := by
    simp only [qX, rz, oS, h1.1, cond_true]
    cases ga e <;> cases c8 v <;> exact ⟨rfl, rfl⟩
  rw [h2.2.2]
  unfold vk t214
  try simp only [nfs]
  rw [hg.1, hg.2]
  cases c1 : ga e
  · rw [h4.1, h4.2]
    simp
  cases c2 : c8 v
  · rw [h4.1, h4.2]
    simp
  cases c3 : lF e.2.2.2.2.2.2.1 v.1
  · rw [h4.1, h4.2]
    simp
  simp only [rK, gf]
  rw [h2.1, hk, hw]
  simp only [h6.1, cond_true, cond_false, Bool.not_true, Bool.and_true, Option.getD_some, Option.isSome_some]
theorem afX (n m : Int) (h : inR n 0 2147483647) : I6 (ey n m) := by
  unfold inR at h
  unfold ey I6
  by_cases h1 : m < n
  · rw [decide_eq_true h1, cond_true]
    by_cases h2 : m < (0 : Int)
    · rw [decide_eq_true h2, cond_true]
      omega
    · rw [decide_eq_false h2, cond_false]
      omega
  · rw [decide_eq_false h1, cond_false, decide_eq_false (show ¬ n < (0 : Int) by omega), cond_false]
    omega
theorem S1 (e : Ty.T aq) (v : Ty.T y27) (hb : e.2.2.2.2.2.2.1.2.2.2.2.2.2.length <= 1048576) : I6 (vk e v).1 := by
  rw [Ts e v hb]
  cases hc : (ga e && (c8 v && lF e.2.2.2.2.2.2.1 v.1))
  · show I6 0
    decide
  · show I6 (fm e v).1
    simp only [Bool.and_eq_true] at hc
    obtain ⟨q1, q2, q3, q4, q5⟩ := UG v hc.2.1
    obtain ⟨w, hw, w1, w2, w3⟩ : ∃ w : oO, fm e v = bF w /\ w.2.2.2.2.2.2.1 = v /\ w.2.2.2.2.2.1 = e /\ @Eq Int w.2.2.1 0 := ⟨_, (SG e v hb).2.2, rfl, rfl, rfl⟩
    have h := c1R w
    rw [← hw, w1, w2, w3] at h
    rcases h with h | h | h | h <;> rw [h]
    · decide
    · exact (show I6 v.2.2.2.2.1 from by unfold inR at q4; unfold I6; omega)
    · decide
    · show I6 (ey v.2.2.2.2.1 e.2.2.2.2.2.2.2.2)
      exact afX _ _ q4
theorem AE {V : Type} {s : V -> Option (Nat × V)} {Q : Nat -> V -> Prop} (Inv : Nat -> V -> Prop) (h : ∀ k v, Inv k v -> Sat (s v) fun r => (∃ c, r.1 = c + 1 /\ Q c r.2) ∨ (r.1 = 0 /\ ∃ k', k = k' + 1 /\ Inv k' r.2)) : ∀ (k : Nat) (v : V) (n : Nat), Inv k v -> k < n -> ∃ c v', iter s n v = some (c, v') /\ Q c v'
  | k, v, 0, _, hn => by omega
  | k, v, n + 1, hI, hn => by
    obtain ⟨⟨c, v'⟩, h1, h2⟩ := h k v hI
    rcases h2 with ⟨c, rfl, h2⟩ | ⟨rfl, k', rfl, h4⟩
    · exact ⟨c, v', by rw [iter, h1] <;> rfl, h2⟩
    · obtain ⟨c, v2, h5, h6⟩ := AE Inv h k' v' n h4 (by omega)
      exact ⟨c, v2, by rw [iter, h1]; exact h5, h6⟩
theorem Q2 {l : List (Ty.T aq)} {k kk : Int} {b : Bool} {c : Ty.T af} {s : Ty.T y36} {r e : Ty.T y27} (hb : s.1.length <= 1048576) (hs : s.2.1.length <= 1048576) (hl : l.length <= 1048576) (hv : ∀ x ∈ l, x.2.2.2.2.2.2.1.2.2.2.2.2.2.length <= 1048576) :
    ∃ (cd : Nat) (i : Int) (r' : Ty.T y27), iter jR (jN (l, k, 0, kk, b, c, s, r, e, ())) (l, k, 0, kk, b, c, s, r, e, ()) = some (cd, (l, k, i, kk, b, c, s, r', e, ())) /\ ((cd = 0 /\ r' = e) ∨ cd = 1) := by
  obtain ⟨cd, v', h1, i, r', rfl, h3⟩ := AE (s := jR) (Q := fun cd v => ∃ (i : Int) (r' : Ty.T y27), v = (l, k, i, kk, b, c, s, r', e, ()) /\ ((cd = 0 /\ r' = e) ∨ cd = 1)) (fun m v => ∃ i : Int, v = (l, k, i, kk, b, c, s, r, e, ()) /\ 0 <= i /\ i + m = l.length) (fun m v hI => by
    obtain ⟨i, rfl, h0, hm⟩ := hI
    unfold jR mu
    dsimp only
    by_cases hi : i < (l.length : Int)
    · obtain ⟨x, hx, hxm⟩ := He h0 hi
      have hf := fits s x e hb hs (hv x hxm)
      have hw : IntKind.wrap .i64 (i + 1) = i + 1 := ba (by omega) (by omega)
      rw [decide_eq_true hi, cond_true, if_pos h0, hx]
      simp only [ay]
      rw [hf.1, cond_true]
      cases pd s x e
      · rw [cond_false, ab]
        exact .inr ⟨rfl, m - 1, by omega, i + 1, by rw [hw], by omega, by omega⟩
      · rw [cond_true, ab]
        exact .inl ⟨0, rfl, i, e, rfl, .inl ⟨rfl, rfl⟩⟩
    · rw [decide_eq_false hi, cond_false, ab]
      exact .inl ⟨1, rfl, i, r, rfl, .inr rfl⟩) l.length (l, k, 0, kk, b, c, s, r, e, ()) (jN (l, k, 0, kk, b, c, s, r, e, ())) ⟨0, rfl, by omega, by omega⟩ (by simp only [jN]; omega)
  exact ⟨cd, i, r', h1, h3⟩
theorem Rd {l : List (Ty.T aq)} {c : Ty.T af} {s : Ty.T y36} {r e : Ty.T y27} (P : Ty.T y27 -> Prop) (hP : ∀ c, cur c -> P (ar s c).1) (he : P e) (h : cur c) (hb : s.1.length <= 1048576) (hs : s.2.1.length <= 1048576) (hl : l.length <= 1048576) (hv : ∀ x ∈ l, x.2.2.2.2.2.2.1.2.2.2.2.2.2.length <= 1048576) :
    ∃ (cd : Nat) (v' : fG), iter jO (jL (l, 0, c, s, r, e, ())) (l, 0, c, s, r, e, ()) = some (cd, v') /\ cur v'.2.2.1 /\ ((cd = 0 /\ P v'.2.2.2.2.1) ∨ (cd = 1 /\ P v'.2.2.2.2.2.1)) := by
  refine AE (s := jO) (Q := fun cd v => cur v.2.2.1 /\ ((cd = 0 /\ P v.2.2.2.2.1) ∨ (cd = 1 /\ P v.2.2.2.2.2.1))) (fun m v => ∃ (i : Int) (c : Ty.T af) (r e : Ty.T y27), v = (l, i, c, s, r, e, ()) /\ cur c /\ P e /\ 0 <= i /\ i + m = 5) (fun m v hI => ?_) 5 (l, 0, c, s, r, e, ()) (jL (l, 0, c, s, r, e, ())) ⟨0, c, r, e, rfl, h, he, by omega, by omega⟩ (by simp only [jL]; omega)
  obtain ⟨i, c, r, e, rfl, hc, he, h0, hm⟩ := hI
  unfold jO mT
  dsimp only
  by_cases hi : i < 5
  · obtain ⟨cd, i', r', h1, h2⟩ := Q2 (k := i) (kk := i) (b := decide (i < (5 : Int))) (c := c) (r := r) (e := e) hb hs hl hv
    have hw : cI l i 0 i (decide (i < (5 : Int))) c s r e = _ := bD h1
    have hk0 : qD l i 0 i (decide (i < (5 : Int))) c s r e 0 = (cd == 0) := bg h1 0
    have hk1 : qD l i 0 i (decide (i < (5 : Int))) c s r e 1 = (cd == 1) := bg h1 1
    rw [hk0, hk1, hw]
    dsimp only
    rw [decide_eq_true hi, cond_true]
    rcases h2 with ⟨rfl, h2⟩ | rfl
    · rw [show ((0 : Nat) == 0) = true from rfl, cond_true, ab]
      exact .inl ⟨0, rfl, hc, .inl ⟨rfl, by rw [h2]; exact he⟩⟩
    · rw [show ((1 : Nat) == 0) = false from rfl, cond_false, show ((1 : Nat) == 1) = true from rfl, cond_true]
      have hw2 : IntKind.wrap .i64 (i + 1) = i + 1 := ba (by omega) (by omega)
      rw [r6 hc, cond_true, ab]
      exact .inr ⟨rfl, m - 1, by omega, i + 1, _, r', _, by rw [hw2], gy hc, hP c hc, by omega, by omega⟩
  · rw [decide_eq_false hi, cond_false, ab]
    exact .inl ⟨1, rfl, hc, .inr ⟨rfl, he⟩⟩
theorem QX {a0 : Ty.T y36} {a1 : List (Ty.T aq)} {a2 : Ty.T af} (P : Ty.T y27 -> Prop) (hP : ∀ c, cur c -> P (ar a0 c).1) (h : cur a2) (hb : a0.1.length <= 1048576) (hs : a0.2.1.length <= 1048576) (hl : a1.length <= 1048576) (hv : ∀ x ∈ a1, x.2.2.2.2.2.2.1.2.2.2.2.2.2.length <= 1048576) : Sat (py a0 a1 a2 some) fun r => P r.1 /\ cur r.2 := by
  obtain ⟨cd, v', h1, h2, h3⟩ := Rd (c := (ar a0 a2).2) (s := a0) (r := (0, 0, 0, 0, 0, 0, false)) (e := (ar a0 a2).1) P hP (hP a2 h) (gy h) hb hs hl hv
  have hw : nr a1 0 (ar a0 a2).2 a0 (0, 0, 0, 0, 0, 0, false) (ar a0 a2).1 = _ := bD h1
  have hk0 : pX a1 0 (ar a0 a2).2 a0 (0, 0, 0, 0, 0, 0, false) (ar a0 a2).1 0 = (cd == 0) := bg h1 0
  have hk1 : pX a1 0 (ar a0 a2).2 a0 (0, 0, 0, 0, 0, 0, false) (ar a0 a2).1 1 = (cd == 1) := bg h1 1
  unfold py
  rw [r6 h, cond_true, hk0, hk1, hw]
  rcases h3 with ⟨rfl, h3⟩ | ⟨rfl, h3⟩
  · rw [show ((0 : Nat) == 0) = true from rfl, cond_true, ab]
    exact ⟨h3, h2⟩
  · rw [show ((1 : Nat) == 0) = false from rfl, cond_false, show ((1 : Nat) == 1) = true from rfl, cond_true, ab]
    exact ⟨h3, h2⟩
theorem QC {n : Int} {c : Ty.T af} {s : Ty.T y36} (h0 : 0 <= n) (hn : n <= 7) (h : cur c) : Dy [] n c s [] 0 = true /\ cur (cn [] n c s []).2.2.1 /\ List.length (cn [] n c s []).2.2.2.2.1 <= 7 /\ (cn [] n c s []).2.2.2.1 = s := by
  have := eP (s := mG) (Q := fun v => cur v.2.2.1 /\ List.length v.2.2.2.2.1 <= 7 /\ v.2.2.2.1 = s) (fun k v => ∃ (i : Int) (c : Ty.T af) (l : List (Ty.T y27)), v = ([], i, c, s, l, ()) /\ cur c /\ i = k /\ (l.length : Int) + i <= 7) (fun k v hv => by
    obtain ⟨i, c, l, rfl, h1, h3, h4⟩ := hv
    have e : 0 <= i -> IntKind.wrap .i64 (i - 1) = i - 1 := fun _ => ba (by omega) (by omega)
    unfold mG l9
    dsimp only
    by_cases hl : i > 0
    · have hz : ∀ x : Ty.T y27, (@HAppend.hAppend (List (Ty.T y27)) (List (Ty.T y27)) (List (Ty.T y27)) _ l [x]).length * 56 <= 140737488351232 := fun x => by simp only [List.length_append, List.length_cons, List.length_nil]; omega
      rw [decide_eq_true hl, cond_true, r6 h1, cond_true, if_pos (hz _), ab]
      exact .inr ⟨rfl, k - 1, by omega, i - 1, _, _, by rw [e (by omega)], gy h1, by omega, by simp only [List.length_append, List.length_cons, List.length_nil]; omega⟩
    · rw [decide_eq_false hl, cond_false, ab]
      exact .inl ⟨rfl, h1, by show l.length <= 7; omega, rfl⟩) n.toNat ([], n, c, s, [], ()) (m3 ([], n, c, s, [], ())) ⟨n, c, [], rfl, h, by omega, by show (0 : Int) + n <= 7; omega⟩ (by simp only [m3]; omega)
  exact ⟨this.1.1, this.2⟩
theorem Jq {a0 : Ty.T y36} {a1 : Ty.T af} (h : cur a1) : Sat (lT a0 a1 some) fun r => cur r.1 /\ List.length r.2 <= 8 := by
  have b := below 6 a1 h
  have b2 := b.2.1 (by omega)
  obtain ⟨l1, l2, l3, l4⟩ := QC (s := a0) b2.1 (by omega) b.2.2
  have o := once 10 _ l2
  have hz : ∀ x : Ty.T y27, (@HAppend.hAppend (List (Ty.T y27)) (List (Ty.T y27)) (List (Ty.T y27)) _ (cn [] (aa 6 a1).1 (aa 6 a1).2 a0 []).2.2.2.2.1 [x]).length <= 8 := fun x => by rw [List.length_append]; show _ + 1 <= 8; omega
  unfold lT
  rw [b.1, l1, o.1]
  simp only [cond_true]
  cases (an 10 (cn [] (aa 6 a1).1 (aa 6 a1).2 a0 []).2.2.1).1
  · rw [cond_false, ab]
    exact ⟨o.2, Nat.le_trans l3 (by decide)⟩
  · rw [cond_true, Gk o.2, cond_true, if_pos (by have := hz (fY (cn [] (aa 6 a1).1 (aa 6 a1).2 a0 []).2.2.2.1 (an 10 (cn [] (aa 6 a1).1 (aa 6 a1).2 a0 []).2.2.1).2).1; omega), ab]
    exact ⟨sM o.2, hz _⟩
theorem Ul {a0 : Ty.T y36} {a1 : Ty.T af} (h : cur a1) : Gu a0 a1 = true := (Jq h).d
theorem TF {a0 : Ty.T y36} {a1 : Ty.T af} (h : cur a1) : cur (nk a0 a1).1 /\ List.length (nk a0 a1).2 <= 8 := (Jq h).v
def TuR (a b c d n : Int) : Prop := I6 a /\ I6 b /\ I6 c /\ I6 d /\ I6 n
theorem Rj {v : jC} (h : cur v.2.2.1) (hl : List.length v.2.2.2.2.2.2.2.1 <= 3) (hq : TuR v.2.2.2.2.2.1.1 v.2.2.2.2.2.1.2.1 v.2.2.2.2.2.1.2.2.1 v.2.2.2.2.2.1.2.2.2.1 v.2.2.2.2.2.2.1.1) : Sat (fU v some) fun r => cur r.2.2.1 /\ List.length r.2.2.2 <= 4 /\ TuR r.1.1 r.1.2.1 r.1.2.2.1 r.1.2.2.2.1 r.2.1.1 := by
  obtain ⟨k, b, c, s, t, x, g, l, u⟩ := v
  dsimp only at h hl hq
  obtain ⟨q1, q2, q3, q4, q5⟩ := hq
  unfold fU
  dsimp only
  cases b
  · rw [cond_false]
    cases (k == (1 : Int))
    · rw [cond_false]
      cases (k == (2 : Int))
      · rw [cond_false]
        cases (k == (3 : Int))
        · rw [cond_false]
          cases (k == (4 : Int))
          · rw [cond_false]
            cases (k == (5 : Int))
            · rw [cond_false]
              cases (k == (6 : Int))
              · rw [cond_false]
                rw [ab]
                exact ⟨h, show List.length l <= 4 by omega, ⟨q1, q2, q3, q4, q5⟩⟩
              · rw [cond_true]
                have o := oneOf [(-1), 4, 5] c (by simp) h
                rw [o.1, cond_true, ab]
                exact ⟨o.2.2, show List.length l <= 4 by omega, ⟨q1, q2, q3, q4, q5⟩⟩
            · rw [cond_true]
              rw [o7 h, cond_true, ab]
              exact ⟨nF h, show List.length l <= 4 by omega, ⟨q1, q2, q3, q4, TZ h⟩⟩
          · rw [cond_true]
            have hg : qw (c, s, t, x, g, l, ()) = true := by
              unfold qw jF
              dsimp only
              rw [Gk h, cond_true, if_pos (by simp only [List.length_append, List.length_cons, List.length_nil]; omega)]
              rfl
            rw [hg, cond_true, ab]
            exact ⟨sM h, by show List.length (l ++ [_]) <= 4; rw [List.length_append]; show _ + 1 <= 4; omega, ⟨q1, q2, q3, q4, q5⟩⟩
        · rw [cond_true]
          have o := oneOf [0, 5, 6] c (by simp) h
          rw [o.1, cond_true, ab]
          exact ⟨o.2.2, show List.length l <= 4 by omega, ⟨q1, q2, q3, yD h (by simp) (by decide), q5⟩⟩
      · rw [cond_true]
        rw [ab]
        exact ⟨h, show List.length l <= 4 by omega, ⟨q1, q2, q4, q4, q5⟩⟩
    · rw [cond_true]
      have o := oneOf [(-1), 3] c (by simp) h
      rw [o.1, cond_true, ab]
      exact ⟨o.2.2, show List.length l <= 4 by omega, ⟨q1, yD h (by simp) (by decide), q3, q4, q5⟩⟩
  · rw [cond_true]
    have o := oneOf [0, 99, 100] c (by simp) h
    rw [o.1, cond_true, ab]
    exact ⟨o.2.2, show List.length l <= 4 by omega, ⟨yD h (by simp) (by decide), q2, q3, q4, q5⟩⟩
theorem J5 {a0 : Ty.T y36} {a1 : Ty.T af} (h : cur a1) (hb : a0.1.length <= 1048576) (hs : a0.2.1.length <= 1048576) (hP : ∀ p ∈ a0.1, I6 p.2.2.1) (ha : I6 a0.2.2.1) : Sat (mB a0 a1 some) fun r => cur r.2.2.1 /\ List.length r.2.2.2 <= 4 /\ TuR r.1.1 r.1.2.1 r.1.2.2.1 r.1.2.2.2.1 r.2.1.1 := by
  have b := below 5 a1 h
  have z1 := Vc (a0 := a0) (a1 := IntKind.wrap .i64 ((1 : Int) + (aa 5 a1).1)) b.2.2
  have f1 : cur (ai a0 a1).2.2.1 := Kt b.2.2
  have f2 : Ty.few 8 (.sl 41 y27) (ai a0 a1).2.2.2 := Ll b.2.2
  have G0 : ∀ t, p6 (a1, a0, t, ()) = true := fun t => by
    unfold p6 ki
    dsimp only
    rw [b.1, cond_true, z1]
    rfl
  have p2 : List.length (ai a0 a1).2.2.2 <= 1048576 := Nat.le_trans f2.1 (by decide)
  obtain ⟨x, hX⟩ : ∃ x : Ty.T aq, ((ai a0 a1).1.1, (ai a0 a1).1.2.1, (ai a0 a1).1.2.2.1, (ai a0 a1).1.2.2.2.1, (ai a0 a1).1.2.2.2.2.1, (ai a0 a1).1.2.2.2.2.2.1, ((ai a0 a1).1.2.2.2.2.2.2.1, (ai a0 a1).1.2.2.2.2.2.2.2.1, (ai a0 a1).1.2.2.2.2.2.2.2.2.1, (ai a0 a1).1.2.2.2.2.2.2.2.2.2.1, (ai a0 a1).1.2.2.2.2.2.2.2.2.2.2.1, (ai a0 a1).1.2.2.2.2.2.2.2.2.2.2.2, (ai a0 a1).2.2.2), (ai a0 a1).2.1) = x := ⟨_, rfl⟩
  have hXl : x.2.2.2.2.2.2.1.2.2.2.2.2.2.length <= 1048576 := by rw [← hX]; exact p2
  have e1 := QX (a0 := a0) (a1 := [x]) (fun _ => True) (fun _ _ => trivial) f1 hb hs (by simp) (fun y hy => by rw [List.mem_singleton.1 hy]; exact hXl)
  have d1 : H3 a0 [x] (ai a0 a1).2.2.1 = true := e1.d
  have u1 : True /\ cur (B4 a0 [x] (ai a0 a1).2.2.1).2 := e1.v
  have E1 : bu a0 a1 = B4 a0 [x] (ai a0 a1).2.2.1 := by unfold bu; rw [hX]
  have hcE : cur (bu a0 a1).2 := by rw [E1]; exact u1.2
  have ch := Qe a0 (bu a0 a1).1 hb
  have b3 := below 3 _ hcE
  have G1 : ∀ t y, qG ((bu a0 a1).2, a0, t, y, (bu a0 a1).1, ()) = true := fun t y => by
    unfold qG jZ
    dsimp only
    rw [ch.1, cond_true, b3.1]
    rfl
  have da := Zo x (bu a0 a1).1 hXl
  have E3 : dF a0 a1 = vk x (bu a0 a1).1 := by unfold dF; rw [hX]
  have L3 : List.length (dF a0 a1).2.2.2.1 <= 3 := by rw [E3]; exact da.2.2.2.1
  have b4 := below (IntKind.wrap .i64 ((1 : Int) + (aa 3 (bu a0 a1).2).1)) _ b3.2.2
  have c4 : cur (cO a0 a1).2 := b4.2.2
  have b5 := below 14 _ c4
  have T1 : @Eq Int (ai a0 a1).1.1 (IntKind.wrap .i64 ((1 : Int) + (aa 5 a1).1)) := ad0 b.2.2
  obtain ⟨f3, g3⟩ := b3.2.1 (by omega)
  have w3 : IntKind.wrap .i64 ((1 : Int) + (aa 3 (bu a0 a1).2).1) = 1 + (aa 3 (bu a0 a1).2).1 := ba (by omega) (by omega)
  have TT : TuR (ai a0 a1).1.1 (tY a0 (bu a0 a1).1) (cO a0 a1).1 (IntKind.wrap .i64 ((1 : Int) + (aa 3 (bu a0 a1).2).1)) (dF a0 a1).1 :=
    ⟨by rw [T1]; exact MP _, aeK _ _ hb hs hP ha, UA b3.2.2 (by rw [w3]; omega) (by rw [w3]; omega), MP _, by rw [E3]; exact S1 _ _ hXl⟩
  have s3 := fun t d x w => Rj (v := ((aa 14 (cO a0 a1).2).1, w, (aa 14 (cO a0 a1).2).2, a0, t, ((ai a0 a1).1.1, (tY a0 (bu a0 a1).1), (cO a0 a1).1, IntKind.wrap .i64 ((1 : Int) + (aa 3 (bu a0 a1).2).1), x), ((dF a0 a1).1, d), (dF a0 a1).2.2.2.1, ())) b5.2.2 L3 TT
  have G3 : ∀ t d x w, wk ((aa 14 (cO a0 a1).2).1, w, (aa 14 (cO a0 a1).2).2, a0, t, ((ai a0 a1).1.1, (tY a0 (bu a0 a1).1), (cO a0 a1).1, IntKind.wrap .i64 ((1 : Int) + (aa 3 (bu a0 a1).2).1), x), ((dF a0 a1).1, d), (dF a0 a1).2.2.2.1, ()) = true := fun t d x w => (s3 t d x w).d
  have C4 : cur (dR a0 a1).2.2.1 /\ List.length (dR a0 a1).2.2.2 <= 4 /\ TuR (dR a0 a1).1.1 (dR a0 a1).1.2.1 (dR a0 a1).1.2.2.1 (dR a0 a1).1.2.2.2.1 (dR a0 a1).2.1.1 := (s3 _ _ _ _).v
  unfold mB
  rw [G0, cond_true, hX, d1, cond_true, G1, cond_true, da.1, cond_true, b4.1, cond_true, b5.1, cond_true, G3, cond_true, ab]
  exact C4
theorem Ui {a0 : Ty.T y36} {a1 : Ty.T af} (h : cur a1) (hb : a0.1.length <= 1048576) (hs : a0.2.1.length <= 1048576) (hP : ∀ p ∈ a0.1, I6 p.2.2.1) (ha : I6 a0.2.2.1) : GG a0 a1 = true := (J5 h hb hs hP ha).d
theorem Tr {a0 : Ty.T y36} {a1 : Ty.T af} (h : cur a1) (hb : a0.1.length <= 1048576) (hs : a0.2.1.length <= 1048576) (hP : ∀ p ∈ a0.1, I6 p.2.2.1) (ha : I6 a0.2.2.1) : cur (eX a0 a1).2.2.1 /\ List.length (eX a0 a1).2.2.2 <= 4 /\ TuR (eX a0 a1).1.1 (eX a0 a1).1.2.1 (eX a0 a1).1.2.2.1 (eX a0 a1).1.2.2.2.1 (eX a0 a1).2.1.1 := (J5 h hb hs hP ha).v
theorem oJ {l : List (Ty.T y63)} {i : Nat} {x y : Ty.T y63} (h : l[i]? = some y) (hx : x.1 = y.1) : (l.set i x).map (·.1) = l.map (·.1) := by
  rw [List.map_set, hx]
  refine List.ext_getElem? fun j => ?_
  rw [List.getElem?_set]
  split
  · rename_i hj
    subst hj
    rw [List.getElem?_map, h]
    have : i < (l.map (·.1)).length := by rw [List.length_map]; exact (List.getElem?_eq_some_iff.1 h).1
    rw [if_pos this]
    rfl
  · rfl
theorem rW {l m : List (Ty.T y63)} (h : l.map (·.1) = m.map (·.1)) : l.length = m.length := by
  have := congrArg List.length h
  rwa [List.length_map, List.length_map] at this
theorem J0 (s : Ty.T y36) (hb : s.1.length <= 1048576) (hs : s.2.1.length <= 1048576) : d276 s = true := by
  unfold d276
  rw [List.nil_append, List.nil_append, decide_eq_true (show s.1.length * 96 <= 140737488351232 by omega), decide_eq_true (show s.2.1.length * 24 <= 140737488351232 by omega)]
  rfl
theorem paI (s : Ty.T y36) (id : Int) (hb : s.1.length <= 1048576) : d279 s id = true /\ (@LT.lt Int _ (bW s id) 0 ∨ (@LE.le Int _ 0 (bW s id) /\ @LT.lt Int _ (bW s id) (s.1.length : Int))) := by
  have h := pa s id hb
  refine ⟨h.1, ?_⟩
  rw [h.2]
  cases hf : first (fun i => match s.1[i]? with | some x => (x.1 == id) | none => false) 0 s.1.length with
  | none => exact .inl (by decide)
  | some j =>
    obtain ⟨-, hj, -⟩ := gN hf
    exact .inr ⟨by show (0 : Int) <= (j : Int); omega, by show (j : Int) < _; omega⟩
theorem paE (s t : Ty.T y36) (id : Int) (hb : s.1.length <= 1048576) (h : t.1.map (·.1) = s.1.map (·.1)) : bW t id = bW s id := by
  have hl := rW h
  have h1 := pa s id hb
  have h2 := pa t id (by omega)
  rw [h1.2, h2.2, hl]
  congr 1
  congr 1
  funext i
  have : (t.1.map (·.1))[i]? = (s.1.map (·.1))[i]? := by rw [h]
  rw [List.getElem?_map, List.getElem?_map] at this
  cases h3 : t.1[i]? <;> cases h4 : s.1[i]? <;> rw [h3, h4] at this <;> first | rfl | cases this | (have e := Option.some.inj this; simp only [e])
theorem M3 (e : Ty.T y27) (h : c8 e = true) (hs : @LT.lt Int _ e.2.2.2.1 0) : (e.1 == (3 : Int)) = false /\ (e.1 == (4 : Int)) = false /\ ((e.1 == (1 : Int)) && (e.2.2.1 == (0 : Int))) = false := by
  obtain ⟨k, c, p, sd, n, z, b⟩ := e
  have h2 : decide (sd ≥ (0 : Int)) = false := decide_eq_false (Int.not_le.2 hs)
  unfold c8 t157 bt at h
  dsimp only at h hs ⊢
  refine ⟨?_, ?_, ?_⟩
  · cases hk : (k == (3 : Int))
    · rfl
    · exfalso
      have e : k = 3 := eq_of_beq hk
      subst e
      revert h
      simp [h2]
  · cases hk : (k == (4 : Int))
    · rfl
    · exfalso
      have e : k = 4 := eq_of_beq hk
      subst e
      revert h
      simp [h2]
  · cases hk : (k == (1 : Int))
    · rfl
    · cases hp : (p == (0 : Int))
      · rfl
      · exfalso
        have e : k = 1 := eq_of_beq hk
        have e2 : p = 0 := eq_of_beq hp
        subst e
        subst e2
        revert h
        simp [h2]
theorem kq {α : Type} {l : List α} {k : Int} (h0 : 0 <= k) (h1 : k < (l.length : Int)) : ∃ x, l[k.toNat]? = some x := ⟨l[k.toNat]'(by omega), List.getElem?_eq_getElem _⟩
theorem p1S {v : rQ} (h0 : @LE.le Int _ 0 v.2.2.2.2.1.2.2.2.1) (h1 : @LT.lt Int _ v.2.2.2.2.1.2.2.2.1 (List.length v.2.2.1.2.1 : Int)) (hl : List.length v.2.2.2.2.2.2.2.2.1 = List.length v.2.2.1.2.1) : Sat (lL v some) fun r => List.length r = List.length v.2.2.1.2.1 := by
  obtain ⟨q, b, s, p, e, o, g, ps, ss, u⟩ := v
  dsimp only at h0 h1 hl ⊢
  have hL : List.length ss = List.length s.2.1 := hl
  have h2 : @LT.lt Int _ e.2.2.2.1 (List.length ss : Int) := by rw [hL]; exact h1
  obtain ⟨x, hx⟩ := kq h0 h1
  obtain ⟨y, hy⟩ := kq h0 h2
  unfold lL
  dsimp only
  cases b
  · simp only [cond_false, if_pos h0, if_pos h2, hx, hy, ay, ab]; exact List.length_set.trans hl
  · simp only [cond_true, if_pos h0, if_pos h2, hx, hy, ay, ab]; exact List.length_set.trans hl
theorem p6S {v : gb} (h0 : @LE.le Int _ 0 v.2.1) (h1 : @LT.lt Int _ v.2.1 (List.length v.2.2.2.1.1 : Int)) (hl : (v.2.2.2.2.2.2.2.2.1).map (·.1) = (v.2.2.2.1.1).map (·.1)) : Sat (lS v some) fun r => r.map (·.1) = (v.2.2.2.1.1).map (·.1) := by
  obtain ⟨q, k, b, s, p, e, o, g, ps, ss, u⟩ := v
  dsimp only at h0 h1 hl ⊢
  have hL : List.length ps = List.length s.1 := rW hl
  have h2 : @LT.lt Int _ k (List.length ps : Int) := by rw [hL]; exact h1
  obtain ⟨x, hx⟩ := kq h0 h1
  obtain ⟨y, hy⟩ := kq h0 h2
  unfold lS
  dsimp only
  cases b
  · simp only [cond_false, if_pos h0, if_pos h2, hx, hy, ay, ab]; refine Eq.trans (oJ hy ?_) hl; rfl
  · simp only [cond_true, if_pos h0, if_pos h2, hx, hy, ay, ab]; refine Eq.trans (oJ hy ?_) hl; rfl
theorem p2B {v : qW} (h0 : @LE.le Int _ 0 v.2.2.2.1.2.2.2.1) (h1 : @LT.lt Int _ v.2.2.2.1.2.2.2.1 (List.length v.2.2.1.2.1 : Int)) (hl : List.length v.2.2.2.2.2.2.2.1 = List.length v.2.2.1.2.1) : Sat (mo v some) fun r => List.length r = List.length v.2.2.1.2.1 := by
  obtain ⟨q, b, s, e, o, g, ps, ss, u⟩ := v
  dsimp only at h0 h1 hl ⊢
  have hL : List.length ss = List.length s.2.1 := hl
  have h2 : @LT.lt Int _ e.2.2.2.1 (List.length ss : Int) := by rw [hL]; exact h1
  obtain ⟨x, hx⟩ := kq h0 h1
  obtain ⟨y, hy⟩ := kq h0 h2
  unfold mo
  dsimp only
  cases b
  · simp only [cond_false, if_pos h0, if_pos h2, hx, hy, ay, ab]; exact List.length_set.trans hl
  · simp only [cond_true, if_pos h0, if_pos h2, hx, hy, ay, ab]; exact List.length_set.trans hl
theorem p5B {v : fb} (h0 : @LE.le Int _ 0 v.2.1) (h1 : @LT.lt Int _ v.2.1 (List.length v.2.2.2.1.1 : Int)) (hl : (v.2.2.2.2.2.2.2.1).map (·.1) = (v.2.2.2.1.1).map (·.1)) : Sat (mr v some) fun r => r.map (·.1) = (v.2.2.2.1.1).map (·.1) := by
  obtain ⟨q, k, b, s, e, o, g, ps, ss, u⟩ := v
  dsimp only at h0 h1 hl ⊢
  have hL : List.length ps = List.length s.1 := rW hl
  have h2 : @LT.lt Int _ k (List.length ps : Int) := by rw [hL]; exact h1
  obtain ⟨x, hx⟩ := kq h0 h1
  obtain ⟨y, hy⟩ := kq h0 h2
  unfold mr
  dsimp only
  cases b
  · simp only [cond_false, if_pos h0, if_pos h2, hx, hy, ay, ab]; refine Eq.trans (oJ hy ?_) hl; rfl
  · simp only [cond_true, if_pos h0, if_pos h2, hx, hy, ay, ab]; refine Eq.trans (oJ hy ?_) hl; rfl
theorem p5S {v : s7} (h : @LT.lt Int _ v.2.2.1 0 ∨ (@LE.le Int _ 0 v.2.2.1 /\ @LT.lt Int _ v.2.2.1 (List.length v.2.2.2.1.1 : Int))) : Sat (o9 v some) fun r => r = false -> @LE.le Int _ 0 v.2.2.1 /\ @LT.lt Int _ v.2.2.1 (List.length v.2.2.2.1.1 : Int) := by
  obtain ⟨q, b, k, s, p, e, o, g, ps, ss, u⟩ := v
  dsimp only at h ⊢
  unfold o9
  dsimp only
  rcases h with h | ⟨h0, h1⟩
  · rw [decide_eq_true h, cond_true, ab]
    exact fun h => by cases h
  · obtain ⟨x, hx⟩ := kq h0 h1
    rw [decide_eq_false (Int.not_lt.2 h0), cond_false, if_pos h0, hx]
    simp only [ay, ab]
    exact fun _ => ⟨h0, h1⟩
theorem p4B {v : sF} (h : @LT.lt Int _ v.2.1 0 ∨ (@LE.le Int _ 0 v.2.1 /\ @LT.lt Int _ v.2.1 (List.length v.2.2.1.1 : Int))) : Sat (ox v some) fun r => r = false -> @LE.le Int _ 0 v.2.1 /\ @LT.lt Int _ v.2.1 (List.length v.2.2.1.1 : Int) := by
  obtain ⟨q, k, s, e, o, g, ps, ss, u⟩ := v
  dsimp only at h ⊢
  unfold ox
  dsimp only
  rcases h with h | ⟨h0, h1⟩
  · rw [decide_eq_true h, cond_true, ab]
    exact fun h => by cases h
  · obtain ⟨x, hx⟩ := kq h0 h1
    rw [decide_eq_false (Int.not_lt.2 h0), cond_false, if_pos h0, hx]
    simp only [ay, ab]
    exact fun _ => ⟨h0, h1⟩
theorem p3S {v : rv} (h : v.2.1 = true -> @LE.le Int _ 0 v.2.2.1.2.2.1 /\ @LT.lt Int _ v.2.2.1.2.2.1 (List.length v.2.2.2.2.2.2.2.1 : Int)) : Sat (ns v some) fun r => List.length r = List.length v.2.2.2.2.2.2.2.1 := by
  obtain ⟨q, b, p, e, o, g, ps, ss, u⟩ := v
  dsimp only at h ⊢
  unfold ns
  dsimp only
  cases b
  · rw [cond_false, ab]
  · obtain ⟨h0, h1⟩ := h rfl
    obtain ⟨x, hx⟩ := kq h0 h1
    simp only [cond_true, if_pos h0, if_pos h1, hx, ay, ab, List.length_set]
theorem p8S {v : gb} (h : @LE.le Int _ 0 v.2.1 /\ @LT.lt Int _ v.2.1 (List.length v.2.2.2.2.2.2.2.2.1 : Int)) : Sat (ph v some) fun r => r.map (·.1) = (v.2.2.2.2.2.2.2.2.1).map (·.1) := by
  obtain ⟨q, k, b, s, p, e, o, g, ps, ss, u⟩ := v
  dsimp only at h ⊢
  unfold ph
  dsimp only
  cases b
  · rw [cond_false, ab]
  · obtain ⟨h0, h1⟩ := h
    obtain ⟨x, hx⟩ := kq h0 h1
    simp only [cond_true, if_pos h0, if_pos h1, hx, ay, ab]
    exact oJ hx rfl
theorem p2S {v : gO} (hs : List.length v.2.1.2.1 <= 1048576) (h : xt v = true) : @LE.le Int _ 0 v.2.2.1.2.2.1 /\ @LT.lt Int _ v.2.2.1.2.2.1 (List.length v.2.1.2.1 : Int) := by
  obtain ⟨q, s, p, e, o, g, ps, ss, u⟩ := v
  dsimp only at hs ⊢
  have hw : IntKind.wrap .i64 ((List.length s.2.1 : Int) - (1 : Int)) = (List.length s.2.1 : Int) - 1 := ba (by omega) (by omega)
  unfold xt vK at h
  dsimp only at h
  rw [hw] at h
  cases hq : lB p 1
  · rw [hq] at h
    cases h
  · rw [hq, cond_true] at h
    unfold bt at h
    revert h
    obtain ⟨k, hk⟩ : ∃ k : Int, p.2.2.1 = k := ⟨_, rfl⟩
    rw [hk]
    by_cases h0 : k ≥ 0
    · by_cases h1 : k <= (List.length s.2.1 : Int) - 1
      · exact fun _ => ⟨h0, by omega⟩
      · simp [decide_eq_false h1]
    · simp [decide_eq_false h0]
theorem p0S {v : gO} (hb : List.length v.2.1.1 <= 1048576) (hs : List.length v.2.1.2.1 <= 1048576) : Sat (pf v some) fun r => r = false -> c8 v.2.2.2.1 = true /\ (v.2.2.2.1.1 == (1 : Int)) = true := by
  obtain ⟨q, s, p, e, o, g, ps, ss, u⟩ := v
  dsimp only at hb hs ⊢
  have q := uf s hb hs
  unfold pf
  dsimp only
  rw [q.1, cond_true]
  cases vF s
  · rw [Bool.not_false, cond_true, ab]
    exact fun h => by cases h
  · cases c8 e
    · rw [Bool.not_true, Bool.not_false, cond_false, cond_true, ab]
      exact fun h => by cases h
    · rw [Bool.not_true, cond_false, cond_false, ab]
      exact fun h => ⟨rfl, by rw [bne, Bool.not_eq_false'] at h; exact h⟩
theorem p0B {v : sb} (hb : List.length v.2.1.1 <= 1048576) (hs : List.length v.2.1.2.1 <= 1048576) : Sat (oq v some) fun r => r = false -> c8 v.2.2.1 = true := by
  obtain ⟨q, s, e, o, g, ps, ss, u⟩ := v
  dsimp only at hb hs ⊢
  have q := uf s hb hs
  unfold oq
  dsimp only
  rw [q.1, cond_true]
  cases vF s
  · rw [Bool.not_false, cond_true, ab]
    exact fun h => by cases h
  · rw [Bool.not_true, cond_false, ab]
    exact fun h => by rw [Bool.not_eq_false'] at h; exact h
theorem copyV (s : Ty.T y36) : aS s = (s.2.2, s.1, s.2.1) := by
  unfold aS
  rw [List.nil_append, List.nil_append]
theorem bq (s : Ty.T y36) (p : Ty.T y63) (e : Ty.T y27) (hb : s.1.length <= 1048576) (hs : s.2.1.length <= 1048576) : Sat (FV s p e some) fun r => r.2.2.1.map (·.1) = s.1.map (·.1) /\ List.length r.2.2.2 = List.length s.2.1 /\ (@Eq Int r.2.1 0 ∨ (@Eq Int r.2.1 e.2.2.2.2.1 /\ c8 e = true)) := by
  have cp := J0 s hb hs
  have cv := copyV s
  have q0 := p0S (v := (0, s, p, e, ([], [], 0, 0), s.2.2, s.1, s.2.1, ())) hb hs
  have q0d : HT (0, s, p, e, ([], [], 0, 0), s.2.2, s.1, s.2.1, ()) = true := q0.d
  have q0v : Cl (0, s, p, e, ([], [], 0, 0), s.2.2, s.1, s.2.1, ()) = false -> c8 e = true /\ (e.1 == (1 : Int)) = true := q0.v
  have pi := paI s e.2.2.1 hb
  unfold FV
  rw [cp, cond_true, cv]
  dsimp only
  rw [q0d, cond_true]
  cases hc : Cl (0, s, p, e, ([], [], 0, 0), s.2.2, s.1, s.2.1, ()) with
  | true =>
    rw [cond_true, ab]
    exact ⟨rfl, rfl, .inl rfl⟩
  | false =>
    obtain ⟨he, hk⟩ := q0v hc
    rw [cond_false]
    cases hp : (e.2.2.1 == (0 : Int)) with
    | true =>
      rw [cond_true]
      cases hd : decide (e.2.2.2.1 ≥ ((s.2.1).length : Int)) with
      | true =>
        rw [cond_true, ab]
        exact ⟨rfl, rfl, .inl rfl⟩
      | false =>
        have h1 : @LT.lt Int _ e.2.2.2.1 (List.length s.2.1 : Int) := Int.not_le.1 (of_decide_eq_false hd)
        have h0 : @LE.le Int _ 0 e.2.2.2.1 := Int.not_lt.1 fun hn => by
          have := (M3 e he hn).2.2
          rw [hk, hp] at this
          cases this
        have s1 := p1S (v := (0, (lB p 2), s, p, e, ([], [], 0, 0), s.2.2, s.1, s.2.1, ())) h0 h1 rfl
        have g1 : H8 (0, (lB p 2), s, p, e, ([], [], 0, 0), s.2.2, s.1, s.2.1, ()) = true := s1.d
        have E0 : List.length (kG s p e) = List.length s.2.1 := by
          unfold kG
          rw [cv]
          exact s1.v
        have E2 : rn s p e = true -> @LE.le Int _ 0 p.2.2.1 /\ @LT.lt Int _ p.2.2.1 (List.length (kG s p e) : Int) := fun h => by
          rw [E0]
          unfold rn at h
          exact p2S (v := (0, s, p, e, ([], [], 0, 0), (aS s).1, (aS s).2.1, kG s p e, ())) hs h
        have s3 := p3S (v := (0, (rn s p e), p, e, ([], [], 0, 0), s.2.2, s.1, (kG s p e), ())) E2
        have g3 : xA (0, (rn s p e), p, e, ([], [], 0, 0), s.2.2, s.1, (kG s p e), ()) = true := s3.d
        rw [cond_false, g1, cond_true, g3, cond_true, ab]
        exact ⟨rfl, Eq.trans s3.v E0, .inr ⟨rfl, he⟩⟩
    | false =>
      rw [cond_false, pi.1, cond_true]
      have s5 := p5S (v := (0, (lB p 2), (bW s e.2.2.1), s, p, e, ([], [], 0, 0), s.2.2, s.1, s.2.1, ())) pi.2
      have g5 : GO (0, (lB p 2), (bW s e.2.2.1), s, p, e, ([], [], 0, 0), s.2.2, s.1, s.2.1, ()) = true := s5.d
      have c5 : AG (0, (lB p 2), (bW s e.2.2.1), s, p, e, ([], [], 0, 0), s.2.2, s.1, s.2.1, ()) = false -> @LE.le Int _ 0 (bW s e.2.2.1) /\ @LT.lt Int _ (bW s e.2.2.1) (List.length s.1 : Int) := s5.v
      rw [g5, cond_true]
      cases h5 : AG (0, (lB p 2), (bW s e.2.2.1), s, p, e, ([], [], 0, 0), s.2.2, s.1, s.2.1, ()) with
      | true =>
        rw [cond_true, ab]
        exact ⟨rfl, rfl, .inl rfl⟩
      | false =>
        obtain ⟨k0, k1⟩ := c5 h5
        have s6 := p6S (v := (0, (bW s e.2.2.1), (lB p 2), s, p, e, ([], [], 0, 0), s.2.2, s.1, s.2.1, ())) k0 k1 rfl
        have g6 : Hl (0, (bW s e.2.2.1), (lB p 2), s, p, e, ([], [], 0, 0), s.2.2, s.1, s.2.1, ()) = true := s6.d
        have E1 : (oD s p e).map (·.1) = s.1.map (·.1) := by
          unfold oD
          rw [cv]
          exact s6.v
        have s8 := p8S (v := (0, (bW s e.2.2.1), (BA s p e), s, p, e, ([], [], 0, 0), s.2.2, (oD s p e), s.2.1, ())) ⟨k0, by rw [rW E1]; exact k1⟩
        have g8 : GL (0, (bW s e.2.2.1), (BA s p e), s, p, e, ([], [], 0, 0), s.2.2, (oD s p e), s.2.1, ()) = true := s8.d
        have E4 : (kT s p e).map (·.1) = s.1.map (·.1) := by
          unfold kT
          rw [cv]
          exact Eq.trans s8.v E1
        have E5 : sy s p e = true -> @LE.le Int _ 0 p.2.2.1 /\ @LT.lt Int _ p.2.2.1 (List.length s.2.1 : Int) := fun h => by
          unfold sy at h
          exact p2S (v := (0, s, p, e, ([], [], 0, 0), (aS s).1, kT s p e, (aS s).2.2, ())) hs h
        have s3 := p3S (v := (0, (sy s p e), p, e, ([], [], 0, 0), s.2.2, (kT s p e), s.2.1, ())) E5
        have g3 : xA (0, (sy s p e), p, e, ([], [], 0, 0), s.2.2, (kT s p e), s.2.1, ()) = true := s3.d
        rw [cond_false, g6, cond_true, g8, cond_true, g3, cond_true, ab]
        exact ⟨E4, s3.v, .inr ⟨rfl, he⟩⟩
theorem abn (s : Ty.T y36) (e : Ty.T y27) (hb : s.1.length <= 1048576) (hs : s.2.1.length <= 1048576) : Sat (Du s e some) fun r => r.2.2.1.map (·.1) = s.1.map (·.1) /\ List.length r.2.2.2 = List.length s.2.1 := by
  have cp := J0 s hb hs
  have cv := copyV s
  have q0 := p0B (v := (false, s, e, ([], [], 0, 0), s.2.2, s.1, s.2.1, ())) hb hs
  have q0d : F7 (false, s, e, ([], [], 0, 0), s.2.2, s.1, s.2.1, ()) = true := q0.d
  have q0v : De (false, s, e, ([], [], 0, 0), s.2.2, s.1, s.2.1, ()) = false -> c8 e = true := q0.v
  have pi := paI s e.2.2.1 hb
  unfold Du
  rw [cp, cond_true, cv]
  dsimp only
  rw [q0d, cond_true]
  cases hc : De (false, s, e, ([], [], 0, 0), s.2.2, s.1, s.2.1, ()) with
  | true =>
    rw [cond_true, ab]
    exact ⟨rfl, rfl⟩
  | false =>
    have he := q0v hc
    rw [cond_false]
    cases h1 : Bp (false, e.1, (e.1 == (3 : Int)), s, e, ([], [], 0, 0), s.2.2, s.1, s.2.1, ()) with
    | true =>
      rw [cond_true]
      have h34 : (e.1 == (3 : Int)) = true ∨ (e.1 == (4 : Int)) = true := by
        unfold Bp wW at h1
        dsimp only at h1
        cases hq : (e.1 == (3 : Int))
        · rw [hq, cond_false] at h1
          exact .inr h1
        · exact .inl rfl
      cases hd : decide (e.2.2.2.1 ≥ ((s.2.1).length : Int)) with
      | true =>
        rw [cond_true, ab]
        exact ⟨rfl, rfl⟩
      | false =>
        have k1 : @LT.lt Int _ e.2.2.2.1 (List.length s.2.1 : Int) := Int.not_le.1 (of_decide_eq_false hd)
        have k0 : @LE.le Int _ 0 e.2.2.2.1 := Int.not_lt.1 fun hn => by
          obtain ⟨x1, x2, -⟩ := M3 e he hn
          rw [x1, x2] at h34
          rcases h34 with h | h <;> cases h
        have s2 := p2B (v := (false, (e.1 == (3 : Int)), s, e, ([], [], 0, 0), s.2.2, s.1, s.2.1, ())) k0 k1 rfl
        have g2 : HD (false, (e.1 == (3 : Int)), s, e, ([], [], 0, 0), s.2.2, s.1, s.2.1, ()) = true := s2.d
        rw [cond_false, g2, cond_true, ab]
        exact ⟨rfl, s2.v⟩
    | false =>
      rw [cond_false]
      cases HA (false, e.1, (e.1 == (5 : Int)), s, e, ([], [], 0, 0), s.2.2, s.1, s.2.1, ()) with
      | false =>
        rw [cond_false, ab]
        exact ⟨rfl, rfl⟩
      | true =>
        rw [cond_true, pi.1, cond_true]
        have s4 := p4B (v := (false, (bW s e.2.2.1), s, e, ([], [], 0, 0), s.2.2, s.1, s.2.1, ())) pi.2
        have g4 : G8 (false, (bW s e.2.2.1), s, e, ([], [], 0, 0), s.2.2, s.1, s.2.1, ()) = true := s4.d
        have c4 : Ci (false, (bW s e.2.2.1), s, e, ([], [], 0, 0), s.2.2, s.1, s.2.1, ()) = false -> @LE.le Int _ 0 (bW s e.2.2.1) /\ @LT.lt Int _ (bW s e.2.2.1) (List.length s.1 : Int) := s4.v
        rw [g4, cond_true]
        cases h4 : Ci (false, (bW s e.2.2.1), s, e, ([], [], 0, 0), s.2.2, s.1, s.2.1, ()) with
        | true =>
          rw [cond_true, ab]
          exact ⟨rfl, rfl⟩
        | false =>
          obtain ⟨k0, k1⟩ := c4 h4
          have s5 := p5B (v := (false, (bW s e.2.2.1), (e.1 == (5 : Int)), s, e, ([], [], 0, 0), s.2.2, s.1, s.2.1, ())) k0 k1 rfl
          have g5 : HW (false, (bW s e.2.2.1), (e.1 == (5 : Int)), s, e, ([], [], 0, 0), s.2.2, s.1, s.2.1, ()) = true := s5.d
          rw [cond_false, g5, cond_true, ab]
          exact ⟨s5.v, rfl⟩
theorem carry (s : Ty.T y36) (e : Ty.T y27) (hb : s.1.length <= 1048576) (hs : s.2.1.length <= 1048576) : Sat (t278 s e some) fun r => r.2.2.1.map (·.1) = s.1.map (·.1) /\ List.length r.2.2.2 = List.length s.2.1 /\ (r.2.1 = true -> @LE.le Int _ 0 (bW s e.2.2.1)) := by
  have cp := J0 s hb hs
  have cv := copyV s
  have q := uf s hb hs
  have pi := paI s e.2.2.1 hb
  unfold t278
  rw [cp, cond_true, pi.1, cond_true, q.1, cond_true, cv]
  dsimp only
  cases vF s
  · rw [Bool.not_false, cond_true, ab]
    exact ⟨rfl, rfl, fun h => by cases h⟩
  · rw [Bool.not_true, cond_false]
    cases c8 e
    · rw [Bool.not_false, cond_true, ab]
      exact ⟨rfl, rfl, fun h => by cases h⟩
    · rw [Bool.not_true, cond_false]
      cases (e.1 != (2 : Int))
      · rw [cond_false]
        rcases pi.2 with h | ⟨h0, h1⟩
        · rw [decide_eq_true h, cond_true, ab]
          exact ⟨rfl, rfl, fun h => by cases h⟩
        · rw [decide_eq_false (Int.not_lt.2 h0), cond_false]
          obtain ⟨x, hx⟩ := kq h0 h1
          simp only [if_pos h0, if_pos h1, hx, ay]
          cases (x.2.2.2.1 == e.2.2.2.2.2.1)
          · rw [cond_false]
            cases (e.2.2.2.2.2.1 == (2 : Int))
            · rw [cond_false, ab]
              exact ⟨by refine oJ hx ?_; rfl, rfl, fun _ => h0⟩
            · rw [cond_true, ab]
              exact ⟨by refine oJ hx ?_; rfl, rfl, fun _ => h0⟩
          · rw [cond_true, ab]
            exact ⟨rfl, rfl, fun h => by cases h⟩
      · rw [cond_true, ab]
        exact ⟨rfl, rfl, fun h => by cases h⟩
def NoR (n : Ty.T y69) : Prop := I6 n.2.2.1 /\ I6 n.2.2.2.1 /\ I6 n.2.2.2.2.1
theorem WR (s t : Ty.T y36) (e : Ty.T y27) (hb : s.1.length <= 1048576) (tb : t.1.length <= 1048576) (ts : t.2.1.length <= 1048576) : Sat (t277 s t e some) fun r => r.2.2.1.map (·.1) = t.1.map (·.1) /\ List.length r.2.2.2 = List.length t.2.1 /\ NoR r.2.1 := by
  have q := src s e hb
  have a := bq t (fj s e) e tb ts
  have ad : d314 t (fj s e) e = true := a.d
  have av : (lh t (fj s e) e).2.2.1.map (·.1) = t.1.map (·.1) /\ List.length (lh t (fj s e) e).2.2.2 = List.length t.2.1 /\ (@Eq Int (lh t (fj s e) e).2.1 0 ∨ (@Eq Int (lh t (fj s e) e).2.1 e.2.2.2.2.1 /\ c8 e = true)) := a.v
  have b := abn t e tb ts
  have bd : d316 t e = true := b.d
  have bv : (wh t e).2.2.1.map (·.1) = t.1.map (·.1) /\ List.length (wh t e).2.2.2 = List.length t.2.1 := b.v
  have z6 : I6 0 := by decide
  have G0 : ∀ z w, Bv (s, t, e, z, w, ()) = true := fun z w => by
    unfold Bv qV
    dsimp only
    rw [q.1, cond_true, ad]
    rfl
  unfold t277
  cases (e.1 == (1 : Int))
  · rw [cond_false, bd, cond_true]
    cases (wh t e).2.1
    · rw [cond_false, ab]
      exact ⟨bv.1, bv.2, z6, z6, z6⟩
    · rw [cond_true, ab]
      exact ⟨bv.1, bv.2, z6, z6, z6⟩
  · rw [cond_true, G0, cond_true]
    cases decide ((lh t (fj s e) e).2.1 ≥ (1 : Int))
    · rw [cond_false, ab]
      exact ⟨av.1, av.2.1, z6, z6, z6⟩
    · rw [cond_true, ab]
      refine ⟨av.1, av.2.1, ?_, z6, z6⟩
      show I6 (lh t (fj s e) e).2.1
      rcases av.2.2 with h | ⟨h, he⟩
      · rw [h]; exact z6
      · rw [h]
        have q := (UG e he).2.2.2.1
        unfold inR at q
        unfold I6
        omega
theorem p1C {v : dS} (h0 : (0 : Int) <= v.2.2.1) (h1 : v.2.2.1 < (List.length v.1 : Int)) (hb : List.length v.2.2.2.2.2.2.2.2.2.2.2.2.2.1.1 <= 1048576) (hs : List.length v.2.2.2.2.2.2.2.2.2.2.2.2.2.1.2.1 <= 1048576) (hn : List.length v.2.2.2.2.2.2.2.2.2.2.2.2.2.2.2.2.1 <= 1048576)
    (hp : (v.2.2.2.2.2.2.2.2.2.2.2.2.2.2.2.2.2.1).map (·.1) = v.2.2.2.2.2.2.2.2.2.2.2.2.2.1.1.map (·.1)) (hq : List.length v.2.2.2.2.2.2.2.2.2.2.2.2.2.2.2.2.2.2.1 = List.length v.2.2.2.2.2.2.2.2.2.2.2.2.2.1.2.1) :
    Sat (pg v some) fun r => r.2.2.1.map (·.1) = v.2.2.2.2.2.2.2.2.2.2.2.2.2.1.1.map (·.1) /\ List.length r.2.2.2 = List.length v.2.2.2.2.2.2.2.2.2.2.2.2.2.1.2.1 /\ List.length r.2.1 <= List.length v.2.2.2.2.2.2.2.2.2.2.2.2.2.2.2.2.1 + 1 /\ ((∀ y ∈ v.2.2.2.2.2.2.2.2.2.2.2.2.2.2.2.2.1, NoR y) -> ∀ y ∈ r.2.1, NoR y) := by
  obtain ⟨es, r, i, i2, es2, m, dc, es3, i3, x1, x2, kd, b, s, o, g, nt, ps, ss, u⟩ := v
  dsimp only at h0 h1 hb hs hn hp hq ⊢
  unfold pg
  dsimp only
  cases b
  · rw [cond_false, ab]
    exact ⟨hp, hq, Nat.le_succ _, fun h => h⟩
  · obtain ⟨x, hx⟩ := kq h0 h1
    have a := WR s (ps, ss, g) x hb (by show ps.length <= _; rw [rW hp]; exact hb) (by show ss.length <= _; rw [hq]; exact hs)
    have ad : d277 s (ps, ss, g) x = true := a.d
    have av : (kM s (ps, ss, g) x).2.2.1.map (·.1) = ps.map (·.1) /\ List.length (kM s (ps, ss, g) x).2.2.2 = List.length ss /\ NoR (kM s (ps, ss, g) x).2.1 := a.v
    have hz : (nt ++ [(kM s (ps, ss, g) x).2.1]).length * 176 <= 140737488351232 := by simp only [List.length_append, List.length_cons, List.length_nil]; omega
    have C1 : B2 (es, r, i, i2, es2, m, dc, es3, i3, x1, x2, kd, true, s, o, g, nt, ps, ss, ()) = true /\ oB (es, r, i, i2, es2, m, dc, es3, i3, x1, x2, kd, true, s, o, g, nt, ps, ss, u) = (x, x, (kM s (ps, ss, g) x).1.1, (kM s (ps, ss, g) x).1.2, (kM s (ps, ss, g) x).2.1, (kM s (ps, ss, g) x).1, (kM s (ps, ss, g) x).2.1, (kM s (ps, ss, g) x).2.2.1, (kM s (ps, ss, g) x).2.2.2) := by
      unfold oB B2 HJ r9
      dsimp only
      rw [if_pos h0, hx]
      simp only [ay]
      rw [ad]
      exact ⟨rfl, rfl⟩
    rw [cond_true, C1.1, cond_true, C1.2]
    dsimp only
    rw [if_pos hz, ab]
    exact ⟨av.1.trans hp, av.2.1.trans hq, by show (nt ++ [_]).length <= nt.length + 1; rw [List.length_append]; exact Nat.le_refl _, fun hN y hy => by
      rcases List.mem_append.1 hy with hy | hy
      · exact hN y hy
      · rw [List.mem_singleton.1 hy]; exact av.2.2⟩
theorem YA {nt : List (Ty.T y69)} {y : Ty.T y69} (h : ∀ x ∈ nt, NoR x) (hy : NoR y) : ∀ x ∈ nt ++ [y], NoR x := fun x hx => by
  rcases List.mem_append.1 hx with hx | hx
  · exact h x hx
  · rw [List.mem_singleton.1 hx]; exact hy
theorem acQ (es : List (Ty.T y27)) (s : Ty.T y36) {g : _} (hb : s.1.length <= 1048576) (hs : s.2.1.length <= 1048576) (he : es.length <= 500000) : Ox es [] 0 s ([], [], 0, 0) g [] s.1 s.2.1 0 = true /\ (fun v => ∃ (i : Int) (g : _) (nt : List (Ty.T y69)) (ps : _) (ss : _), v = (es, [], i, s, ([], [], 0, 0), g, nt, ps, ss, ()) /\ ps.map (·.1) = s.1.map (·.1) /\ List.length ss = List.length s.2.1 /\ (nt.length : Int) <= 0 + es.length /\ ∀ y ∈ nt, NoR y) (MJ es [] 0 s ([], [], 0, 0) g [] s.1 s.2.1) := by
  have := eP (s := wX) (Q := fun v => ∃ (i : Int) (g : _) (nt : List (Ty.T y69)) (ps : _) (ss : _), v = (es, [], i, s, ([], [], 0, 0), g, nt, ps, ss, ()) /\ ps.map (·.1) = s.1.map (·.1) /\ List.length ss = List.length s.2.1 /\ (nt.length : Int) <= 0 + es.length /\ ∀ y ∈ nt, NoR y) (fun m v => ∃ (i : Int) (g : _) (nt : List (Ty.T y69)) (ps : _) (ss : _), v = (es, [], i, s, ([], [], 0, 0), g, nt, ps, ss, ()) /\ ps.map (·.1) = s.1.map (·.1) /\ List.length ss = List.length s.2.1 /\ 0 <= i /\ i + (m : Int) = (es.length : Int) /\ (nt.length : Int) <= 0 + i /\ ∀ y ∈ nt, NoR y) (fun m v hv => by
    obtain ⟨i, g, nt, ps, ss, rfl, h1, h2, h3, h4, h5, h6⟩ := hv
    unfold wX vW
    dsimp only
    by_cases hi : i < (es.length : Int)
    · obtain ⟨x, hx⟩ := kq h3 hi
      rw [decide_eq_true hi, cond_true, if_pos h3, hx]
      simp only [ay]
      have a := p1C (v := (es, [], i, i, es, (es.length : Int), true, es, i, x, x, x.1, (x.1 != (2 : Int)), s, ([], [], 0, 0), g, nt, ps, ss, ())) h3 hi hb hs (by show nt.length <= _; omega) h1 h2
      have ad : GA (es, [], i, i, es, (es.length : Int), true, es, i, x, x, x.1, (x.1 != (2 : Int)), s, ([], [], 0, 0), g, nt, ps, ss, ()) = true := a.d
      obtain ⟨c, hc⟩ : ∃ c, qT (es, [], i, i, es, (es.length : Int), true, es, i, x, x, x.1, (x.1 != (2 : Int)), s, ([], [], 0, 0), g, nt, ps, ss, ()) = c := ⟨_, rfl⟩
      have av : c.2.2.1.map (·.1) = s.1.map (·.1) /\ List.length c.2.2.2 = List.length s.2.1 /\ List.length c.2.1 <= List.length nt + 1 /\ ((∀ y ∈ nt, NoR y) -> ∀ y ∈ c.2.1, NoR y) := by rw [← hc]; exact a.v
      have hw : IntKind.wrap .i64 (i + 1) = i + 1 := ba (by omega) (by omega)
      rw [ad, cond_true, hc, hw, ab]
      exact .inr ⟨rfl, m - 1, by omega, i + 1, _, _, _, _, rfl, av.1, av.2.1, by omega, by omega, by have := av.2.2.1; omega, av.2.2.2 h6⟩
    · rw [decide_eq_false hi, cond_false, ab]
      exact .inl ⟨rfl, i, _, _, _, _, rfl, h1, h2, by omega, h6⟩) es.length (es, [], 0, s, ([], [], 0, 0), g, [], s.1, s.2.1, ()) (uS (es, [], 0, s, ([], [], 0, 0), g, [], s.1, s.2.1, ())) ⟨0, g, [], s.1, s.2.1, rfl, rfl, rfl, by omega, by omega, by simp, fun y hy => absurd hy List.not_mem_nil⟩ (by simp only [uS]; omega)
  exact ⟨this.1.1, this.2⟩
theorem aa9 (es : List (Ty.T y27)) (s : Ty.T y36) {g : _} {nt : List (Ty.T y69)} {ps : _} {ss : _} (c : Int) (h1 : ps.map (·.1) = s.1.map (·.1)) (h2 : List.length ss = List.length s.2.1) (hc : 0 <= c) (hc2 : c <= 500000) (hn : (nt.length : Int) <= c) (hN : ∀ y ∈ nt, NoR y) (hI : ∀ p ∈ s.1, I6 p.1) (hb : s.1.length <= 1048576) (hs : s.2.1.length <= 1048576) (he : es.length <= 500000) : LV es [] 0 s ([], [], 0, 0) g nt ps ss 0 = true /\ (fun v => ∃ (i : Int) (g : _) (nt : List (Ty.T y69)) (ps : _) (ss : _), v = (es, [], i, s, ([], [], 0, 0), g, nt, ps, ss, ()) /\ ps.map (·.1) = s.1.map (·.1) /\ List.length ss = List.length s.2.1 /\ (nt.length : Int) <= c + es.length /\ ∀ y ∈ nt, NoR y) (Pn es [] 0 s ([], [], 0, 0) g nt ps ss) := by
  have := eP (s := uQ) (Q := fun v => ∃ (i : Int) (g : _) (nt : List (Ty.T y69)) (ps : _) (ss : _), v = (es, [], i, s, ([], [], 0, 0), g, nt, ps, ss, ()) /\ ps.map (·.1) = s.1.map (·.1) /\ List.length ss = List.length s.2.1 /\ (nt.length : Int) <= c + es.length /\ ∀ y ∈ nt, NoR y) (fun m v => ∃ (i : Int) (g : _) (nt : List (Ty.T y69)) (ps : _) (ss : _), v = (es, [], i, s, ([], [], 0, 0), g, nt, ps, ss, ()) /\ ps.map (·.1) = s.1.map (·.1) /\ List.length ss = List.length s.2.1 /\ 0 <= i /\ i + (m : Int) = (es.length : Int) /\ (nt.length : Int) <= c + i /\ ∀ y ∈ nt, NoR y) (fun m v hv => by
    obtain ⟨i, g, nt, ps, ss, rfl, h1, h2, h3, h4, h5, h6⟩ := hv
    have hw : i < (es.length : Int) -> IntKind.wrap .i64 (i + 1) = i + 1 := fun _ => ba (by omega) (by omega)
    unfold uQ vH
    dsimp only
    by_cases hi : i < (es.length : Int)
    · obtain ⟨x, hx⟩ := kq h3 hi
      rw [decide_eq_true hi, cond_true, hw hi]
      simp only [if_pos h3, hx, ay]
      cases (x.1 != (2 : Int))
      · rw [cond_false]
        have pb : List.length ps <= 1048576 := by rw [rW h1]; exact hb
        have a := carry (ps, ss, g) x pb (by show ss.length <= _; rw [h2]; exact hs)
        have ad : d278 (ps, ss, g) x = true := a.d
        obtain ⟨r, hr⟩ : ∃ r, BP (ps, ss, g) x = r := ⟨_, rfl⟩
        have av : r.2.2.1.map (·.1) = ps.map (·.1) /\ List.length r.2.2.2 = List.length ss /\ (r.2.1 = true -> @LE.le Int _ 0 (bW (ps, ss, g) x.2.2.1)) := by rw [← hr]; exact a.v
        have hz : ∀ y, (nt ++ [y]).length * 176 <= 140737488351232 := fun y => by simp only [List.length_append, List.length_cons, List.length_nil]; omega
        have hl : ∀ y, ((nt ++ [y]).length : Int) <= c + (i + 1) := fun y => by simp only [List.length_append, List.length_cons, List.length_nil]; omega
        have C4 : ∀ i2 es2 m dc es3 i3 x1 x2 kd b o, Bf (es, [], i, i2, es2, m, dc, es3, i3, x1, x2, kd, b, s, o, g, nt, ps, ss, ()) = true /\ BH (es, [], i, i2, es2, m, dc, es3, i3, x1, x2, kd, b, s, o, g, nt, ps, ss, ()) = (r.2.1, x, x, r.1.1, r.1.2, r.2.1, r.1, r.2.2.1, r.2.2.2) := fun i2 es2 m dc es3 i3 x1 x2 kd b o => by
          unfold Bf BH sV
          dsimp only
          rw [if_pos h3, hx]
          simp only [ay]
          rw [ad, hr]
          exact ⟨rfl, rfl⟩
        have E1 : vP (es, [], i, s, ([], [], 0, 0), g, nt, ps, ss, ()) x = (r.2.1, x, x, r.1.1, r.1.2, r.2.1, r.1, r.2.2.1, r.2.2.2) := (C4 _ _ _ _ _ _ _ _ _ _ _).2
        rw [(C4 _ _ _ _ _ _ _ _ _ _ _).1, cond_true, E1]
        dsimp only
        cases hk : r.2.1
        · rw [Bool.not_false, cond_true, if_pos (hz _), ab]
          exact .inr ⟨rfl, m - 1, by omega, i + 1, _, _, _, _, rfl, h1, h2, by omega, by omega, hl _, YA h6 ⟨(by decide : I6 0), (by decide : I6 0), (by decide : I6 0)⟩⟩
        · have pe := paE s (ps, ss, g) x.2.2.1 hb h1
          have p0 := av.2.2 hk
          rw [pe] at p0
          have pi := paI s x.2.2.1 hb
          rcases pi.2 with hneg | ⟨k0, k1⟩
          · exact absurd p0 (Int.not_le.2 hneg)
          · obtain ⟨y, hy⟩ := kq k0 k1
            rw [Bool.not_true, cond_false, pi.1, cond_true, if_pos k0, hy]
            simp only [ay]
            rw [if_pos (hz _), ab]
            exact .inr ⟨rfl, m - 1, by omega, i + 1, _, _, _, _, rfl, av.1.trans h1, av.2.1.trans h2, by omega, by omega, hl _, YA h6 ⟨(by decide : I6 0), (by decide : I6 0), hI y (List.mem_of_getElem? hy)⟩⟩
      · rw [cond_true, ab]
        exact .inr ⟨rfl, m - 1, by omega, i + 1, _, _, _, _, rfl, h1, h2, by omega, by omega, by omega, h6⟩
    · rw [decide_eq_false hi, cond_false, ab]
      exact .inl ⟨rfl, i, _, _, _, _, rfl, h1, h2, by omega, h6⟩) es.length (es, [], 0, s, ([], [], 0, 0), g, nt, ps, ss, ()) (wj (es, [], 0, s, ([], [], 0, 0), g, nt, ps, ss, ())) ⟨0, g, nt, ps, ss, rfl, h1, h2, by omega, by omega, by omega, hN⟩ (by simp only [wj]; omega)
  exact ⟨this.1.1, this.2⟩
theorem Wb (s : Ty.T y36) (es : List (Ty.T y27)) (hb : s.1.length <= 1048576) (hs : s.2.1.length <= 1048576) (he : es.length <= 8) (hI : ∀ p ∈ s.1, I6 p.1) : Sat (t216 s es some) fun r => List.length r.2.2.2 <= 16 /\ ∀ y ∈ r.2.2.2, NoR y := by
  have cp := J0 s hb hs
  have cv := copyV s
  have q := uf s hb hs
  obtain ⟨a1, i, g, nt, ps, ss, a2, a3, a4, a5, a6⟩ := acQ es s (g := s.2.2) hb hs (by omega)
  obtain ⟨b1, i', g', nt', ps', ss', b2, b3, b4, b5, b6⟩ := aa9 es s (g := g) (nt := nt) (ps := ps) (ss := ss) 8 a3 a4 (by omega) (by omega) (by omega) a6 hI hb hs (by omega)
  have E0 : dJ s es = (es, [], i, s, ([], [], 0, 0), g, nt, ps, ss, ()) := by
    unfold dJ
    rw [cv]
    exact a2
  have E1 : ri s es = (es, [], i', s, ([], [], 0, 0), g', nt', ps', ss', ()) := by
    unfold ri
    rw [E0]
    exact b2
  unfold t216
  rw [cp, cond_true, q.1, cond_true, cv, E1, E0]
  dsimp only
  cases vF s
  · rw [Bool.not_false, cond_true, ab]
    exact ⟨Nat.zero_le _, fun y hy => absurd hy List.not_mem_nil⟩
  · rw [Bool.not_true, cond_false, a1, cond_true, b1, cond_true, ab]
    exact ⟨by show nt'.length <= 16; omega, b6⟩
theorem Qp {v : jJ} (h : cur v.2.1) : Sat (gK v some) fun r => cur r.2 /\ (r.1 = true -> 0 < List.length v.2.2.2.1) := by
  obtain ⟨x, c, s, nt, u⟩ := v
  dsimp only at h ⊢
  unfold gK
  dsimp only
  by_cases hn : (nt.length : Int) > 0
  · have o := once 3 c h
    rw [decide_eq_true hn, cond_true, o.1, cond_true, ab]
    exact ⟨o.2, fun _ => by omega⟩
  · rw [decide_eq_false hn, cond_false, ab]
    exact ⟨h, fun h => by cases h⟩
theorem P4 {nt : List (Ty.T y69)} {k : Nat} {y : Ty.T y69} (h : ∀ x ∈ nt, NoR x) (hy : NoR y) : ∀ x ∈ nt.set k y, NoR x := fun x hx => by
  rcases List.mem_or_eq_of_mem_set hx with hx | rfl
  · exact h x hx
  · exact hy
theorem Qv {v : en} (h : cur v.2.2.1) (hn : v.2.1 = true -> 0 < List.length v.2.2.2.2.1) : Sat (fL v some) fun r => cur r.1 /\ List.length r.2 = List.length v.2.2.2.2.1 /\ ((∀ y ∈ v.2.2.2.2.1, NoR y) -> ∀ y ∈ r.2, NoR y) := by
  obtain ⟨x, b, c, s, nt, u⟩ := v
  dsimp only at h hn ⊢
  unfold fL
  dsimp only
  cases b
  · rw [cond_false, ab]
    exact ⟨h, rfl, fun h => h⟩
  · have h1 := below (nt.length : Int) c h
    have r1 := h1.2.1 (by have := hn rfl; omega)
    have h2 := below 4 _ h1.2.2
    obtain ⟨y, hy⟩ := kq r1.1 r1.2
    rw [cond_true, h1.1, cond_true, h2.1, cond_true]
    cases ((aa 4 (aa (nt.length : Int) c).2).1 == (0 : Int))
    · rw [cond_false]
      cases ((aa 4 (aa (nt.length : Int) c).2).1 == (1 : Int))
      · rw [cond_false]
        cases ((aa 4 (aa (nt.length : Int) c).2).1 == (2 : Int))
        · rw [cond_false]
          cases ((aa 4 (aa (nt.length : Int) c).2).1 == (3 : Int))
          · rw [cond_false, ab]
            exact ⟨h2.2.2, rfl, fun h => h⟩
          · rw [cond_true, Gk h2.2.2, cond_true]
            simp only [if_pos r1.1, if_pos r1.2, hy, ay, ab]
            exact ⟨sM h2.2.2, List.length_set, fun hN => P4 hN (hN y (List.mem_of_getElem? hy))⟩
        · rw [cond_true, MY h2.2.2, cond_true]
          simp only [if_pos r1.1, if_pos r1.2, hy, ay, ab]
          exact ⟨K0 h2.2.2, List.length_set, fun hN => P4 hN ⟨(hN y (List.mem_of_getElem? hy)).1, (hN y (List.mem_of_getElem? hy)).2.1, (Sf h2.2.2).1⟩⟩
      · rw [cond_true, o7 h2.2.2, cond_true]
        simp only [if_pos r1.1, if_pos r1.2, hy, ay, ab]
        exact ⟨nF h2.2.2, List.length_set, fun hN => P4 hN ⟨TZ h2.2.2, (hN y (List.mem_of_getElem? hy)).2.1, (hN y (List.mem_of_getElem? hy)).2.2⟩⟩
    · have h3 := below 9 _ h2.2.2
      rw [cond_true, h3.1, cond_true]
      simp only [if_pos r1.1, if_pos r1.2, hy, ay, ab]
      exact ⟨h3.2.2, List.length_set, fun hN => P4 hN (hN y (List.mem_of_getElem? hy))⟩
theorem Qy {a0 : Ty.T af} (h : cur a0) : Sat (pE a0 some) fun r => cur r.1 /\ List.length r.2 <= 16 /\ ∀ y ∈ r.2, NoR y := by
  have z := PK h
  have R := YK h
  obtain ⟨s1, s2, s3, s4⟩ : cur (bf a0).2.1 /\ 1 <= (bf a0).2.2.1.length /\ (bf a0).2.2.1.length <= 6 /\ (bf a0).2.2.2.length = 2 := (ur h).v
  obtain ⟨⟨q, c, ps, ss⟩, hq⟩ : ∃ p, bf a0 = p := ⟨_, rfl⟩
  rw [hq] at s1 s2 s3 s4 R
  dsimp only at s1 s2 s3 s4 R
  have u := TF (a0 := (ps, ss, q)) s1
  have uz := Ul (a0 := (ps, ss, q)) s1
  obtain ⟨⟨c1, es⟩, he⟩ : ∃ p, nk (ps, ss, q) c = p := ⟨_, rfl⟩
  rw [he] at u
  have k := Wb (ps, ss, q) es (by show ps.length <= _; omega) (by show ss.length <= _; omega) u.2 R.ids
  have kd : d216 (ps, ss, q) es = true := k.d
  have kv : List.length (KU (ps, ss, q) es).2.2.2 <= 16 /\ ∀ y ∈ (KU (ps, ss, q) es).2.2.2, NoR y := k.v
  have G0 : qt ([], c, q, ps, ss, ()) = true := by
    unfold qt kj
    dsimp only
    rw [uz, cond_true, he]
    dsimp only
    rw [kd]
    rfl
  have E4 : m8 a0 = (c1, es) := by
    unfold m8
    rw [hq]
    exact he
  obtain ⟨nt, hn⟩ : ∃ nt, (KU (ps, ss, q) es).2.2.2 = nt := ⟨_, rfl⟩
  rw [hn] at kv
  have E5 : (kn a0).2.2.2 = nt := by
    unfold kn
    rw [hq, E4]
    exact hn
  have p1 := Qp (v := ([], c1, (ps, ss, q), nt, ())) u.1
  have G1 : uU ([], c1, (ps, ss, q), nt, ()) = true := p1.d
  have E6 : cur (dQ a0).2 /\ ((dQ a0).1 = true -> 0 < List.length nt) := by
    unfold dQ
    rw [hq, E4, E5]
    exact p1.v
  have p2 := Qv (v := ([], (dQ a0).1, (dQ a0).2, (ps, ss, q), nt, ())) E6.1 E6.2
  have G2 : vS ([], (dQ a0).1, (dQ a0).2, (ps, ss, q), nt, ()) = true := p2.d
  have E7 : cur (iy a0).1 /\ List.length (iy a0).2 = List.length nt /\ ((∀ y ∈ nt, NoR y) -> ∀ y ∈ (iy a0).2, NoR y) := by
    unfold iy
    rw [hq, E5]
    exact p2.v
  unfold pE
  rw [z, cond_true, hq, E4, E5]
  dsimp only
  rw [G0, cond_true, G1, cond_true, G2, cond_true, ab]
  exact ⟨E7.1, by have := kv.1; have := E7.2.1; show List.length (iy a0).2 <= 16; omega, E7.2.2 kv.2⟩
theorem Z5 {a0 : Ty.T af} (h : cur a0) : I6 (iQ a0).1 := by
  have key : Sat (kU a0 some) fun r => I6 r.1 := by
    unfold kU
    rw [(oneOf _ _ (by simp) h).1, cond_true, ab]
    exact yD h (by simp) (by decide)
  exact key.v
theorem drP (a : List (Ty.T (.int .u8))) (h : cur (b8 a)) (h1 : d116 a = true) : d29 a = true /\ PaR (v29 a) := by
  unfold d29 v29 t29
  rw [h1, MY h]
  exact ⟨rfl, Sf h⟩
theorem drG (a : List (Ty.T (.int .u8))) (h : cur (b8 a)) (h1 : d116 a = true) : d32 a = true /\ I6 (v32 a).2.2.2.1 /\ I6 (v32 a).2.1 /\ I6 (v32 a).2.2.1 := by
  have b1 := below 4 _ h
  have b2 := below 3 _ b1.2.2
  have b3 := T5 b2.2.2
  have c3 : cur (iQ (aa 3 (aa 4 (b8 a)).2).2).2 := Ko b2.2.2
  have b4 := below 9 _ c3
  have e := (l4R (IntKind.wrap .i64 ((1 : Int) + (aa 9 (iQ (aa 3 (aa 4 (b8 a)).2).2).2).1)) _ b4.2.2).1
  unfold d32 v32 t32
  rw [h1, b1.1, b2.1, b3, b4.1, qS b4.2.2]
  exact ⟨rfl, by show I6 (cU _ _).1.1; rw [e]; exact MP _, UA b1.2.2 (by omega) (by omega), Z5 b2.2.2⟩
theorem drT (a : List (Ty.T (.int .u8))) (h : cur (b8 a)) (h1 : d116 a = true) : d30 a = true /\ List.length (v30 a).2.2 <= 4 /\ TuR (v30 a).1.1 (v30 a).1.2.1 (v30 a).1.2.2.1 (v30 a).1.2.2.2.1 (v30 a).2.1.1 := by
  have z := PK h
  have R := YK h
  obtain ⟨s1, s2, s3, s4⟩ : cur (bf (b8 a)).2.1 /\ 1 <= (bf (b8 a)).2.2.1.length /\ (bf (b8 a)).2.2.1.length <= 6 /\ (bf (b8 a)).2.2.2.length = 2 := (ur h).v
  obtain ⟨⟨q, c, ps, ss⟩, hq⟩ : ∃ p, bf (b8 a) = p := ⟨_, rfl⟩
  rw [hq] at s1 s2 s3 s4 R
  dsimp only at s1 s2 s3 s4 R
  have tz := Ui (a0 := (ps, ss, q)) s1 (by show ps.length <= _; omega) (by show ss.length <= _; omega) R.side.1 R.side.2
  have tu := Tr (a0 := (ps, ss, q)) s1 (by show ps.length <= _; omega) (by show ss.length <= _; omega) R.side.1 R.side.2
  have key : t30 a some = some ((eX (ps, ss, q) c).1, (eX (ps, ss, q) c).2.1, (eX (ps, ss, q) c).2.2.2) := by
    unfold t30
    rw [h1, z, hq]
    dsimp only
    rw [tz]
    rfl
  unfold d30 v30
  rw [key]
  exact ⟨rfl, tu.2⟩
theorem drN (a : List (Ty.T (.int .u8))) (h : cur (b8 a)) (h1 : d116 a = true) : d31 a = true /\ NoR (v31 a) := by
  have k := Qy h
  have kd : Hw (b8 a) = true := k.d
  have kv : cur (dj (b8 a)).1 /\ List.length (dj (b8 a)).2 <= 16 /\ ∀ y ∈ (dj (b8 a)).2, NoR y := k.v
  obtain ⟨⟨c, nt⟩, hq⟩ : ∃ p, dj (b8 a) = p := ⟨_, rfl⟩
  rw [hq] at kv
  dsimp only at kv
  have key : Sat (t31 a some) NoR := by
    unfold t31
    rw [h1, kd, hq]
    dsimp only
    rw [cond_true, cond_true]
    cases hz : ((nt.length : Int) == (0 : Int))
    · have b := below (nt.length : Int) c kv.1
      have hne : ¬ ((nt.length : Int) = 0) := by simpa using hz
      have r := b.2.1 (by omega)
      obtain ⟨y, hy⟩ := kq r.1 r.2
      simp only [cond_true, cond_false, b.1, if_pos r.1, if_pos r.2, hy, ay, ab]
      exact kv.2.2 y (List.mem_of_getElem? hy)
    · have b1 := below 9 c kv.1
      have b2 := below 3 _ b1.2.2
      rw [cond_true, b1.1, cond_true, b2.1, cond_true, qS b2.2.2, cond_true, ab]
      exact ⟨(by decide : I6 2), UA b1.2.2 (by omega) (by omega), ((l4R 3 _ b2.2.2).in (by omega) (by omega)).1⟩
  exact ⟨key.d, key.v⟩

def dg (d : Nat) : ByteArray := ⟨#[UInt8.ofNat (48 + d)]⟩
def tV (n : Nat) : ByteArray := if h : n < 10 then dg n else tV (n / 10) ++ dg (n % 10)
termination_by n
def minus : ByteArray := ⟨#[45]⟩
def txt (n : Int) : ByteArray := if n < 0 then minus ++ tV n.natAbs else tV n.natAbs
theorem fp (n : Nat) (h : n < 10) : tV n = dg n := by rw [tV, dif_pos h]
theorem nS (n : Nat) (h : ¬ n < 10) : tV n = tV (n / 10) ++ dg (n % 10) := by rw [tV, dif_neg h]
theorem nU (d : Nat) : (dg d).size = 1 := rfl
theorem TU : minus.size = 1 := rfl
theorem KA (d : Nat) : ∀ n : Nat, n < 10 ^ (d + 1) -> (tV n).size <= d + 1 := by
  induction d with
  | zero =>
    intro n h
    rw [fp n (by simpa using h), nU]
    omega
  | succ d ih =>
    intro n h
    by_cases h10 : n < 10
    · rw [fp n h10, nU]
      omega
    · rw [nS n h10, ByteArray.size_append, nU]
      have := ih (n / 10) (by rw [Nat.pow_succ] at h; omega)
      omega
def I64 (n : Int) : Prop := -9223372036854775808 <= n /\ n <= 9223372036854775807
theorem Hr {n : Int} (h : I64 n) : n.natAbs < 10 ^ (19 + 1) := by
  have : (10 : Nat) ^ (19 + 1) = 100000000000000000000 := by decide
  unfold I64 at h
  omega
theorem bM {n : Int} (h : I64 n) : (txt n).size <= 21 := by
  have h := KA 19 _ (Hr h)
  unfold txt
  split
  · rw [ByteArray.size_append]
    have : minus.size = 1 := rfl
    omega
  · omega
theorem yT (d : Nat) (h : d < 10) : Utf8.encode (IntKind.wrap .i32 (IntKind.wrap .i64 (48 + (d : Int)))) = dg d := by
  have e : ∀ m, m < 10 -> Utf8.encode (IntKind.wrap .i32 (IntKind.wrap .i64 (48 + ((m : Nat) : Int)))) = dg m := by decide
  exact e d h
theorem ot (d : Nat) (h : d < 10) : strOfNums [IntKind.wrap .u8 (IntKind.wrap .i64 (48 + (d : Int)))] = dg d := by
  have e : ∀ m, m < 10 -> strOfNums [IntKind.wrap .u8 (IntKind.wrap .i64 (48 + ((m : Nat) : Int)))] = dg m := by decide
  exact e d h
theorem tmod_neg {x : Int} (h : x < 0) : Int.tmod x 10 = -((x.natAbs % 10 : Nat) : Int) := by
  obtain ⟨m, rfl⟩ : ∃ m : Nat, x = -(m : Int) := ⟨x.natAbs, by omega⟩
  rw [Int.neg_tmod, Int.natAbs_neg, Int.natAbs_natCast]
  rfl
theorem tdiv_neg {x : Int} (h : x < 0) : Int.tdiv x 10 = -((x.natAbs / 10 : Nat) : Int) := by
  obtain ⟨m, rfl⟩ : ∃ m : Nat, x = -(m : Int) := ⟨x.natAbs, by omega⟩
  rw [Int.neg_tdiv, Int.natAbs_neg, Int.natAbs_natCast]
  rfl
theorem Eg {x : Int} (h : 0 <= x) : Int.tmod x 10 = ((x.natAbs % 10 : Nat) : Int) := by
  obtain ⟨m, rfl⟩ : ∃ m : Nat, x = (m : Int) := ⟨x.natAbs, by omega⟩
  rfl
theorem vN {x : Int} (h : 0 <= x) : Int.tdiv x 10 = ((x.natAbs / 10 : Nat) : Int) := by
  obtain ⟨m, rfl⟩ : ∃ m : Nat, x = (m : Int) := ⟨x.natAbs, by omega⟩
  rfl
theorem D9 (x : Int) : (Int.tdiv x 10).natAbs = x.natAbs / 10 := by
  by_cases h : x < 0
  · rw [tdiv_neg h]; omega
  · rw [vN (by omega)]; omega
theorem Dm {x : Int} (h : I64 x) : I64 (Int.tdiv x 10) := by
  unfold I64 at h ⊢
  by_cases hn : x < 0
  · rw [tdiv_neg hn]; omega
  · rw [vN (by omega)]; omega
theorem Yx (a x : Int) (e s : ByteArray) (hx : x ≠ 0) (hr : I64 x) (hs : s.size <= 100) : m9 (a, e, s, x, ()) = some (0, (a, e, dg (x.natAbs % 10) ++ s, Int.tdiv x 10, ())) := by
  have hd := Dm hr
  unfold I64 at hr hd
  have hne : (x != 0) = true := by simpa using hx
  have hsz : ∀ d, (dg d).size + s.size <= 9223372036854775807 := fun d => by rw [nU]; omega
  simp only [m9, xx, hne, cond_true]
  rw [ba (n := Int.tdiv x 10) hd.1 hd.2]
  by_cases hn : x < 0
  · by_cases hz : x.natAbs % 10 = 0
    · have e1 : Int.tmod x 10 = ((x.natAbs % 10 : Nat) : Int) := by rw [tmod_neg hn, hz]; rfl
      rw [e1, decide_eq_false (by omega), ot _ (by omega)]
      simp only [cond_false, if_pos (hsz _)]
    · rw [tmod_neg hn, decide_eq_true (by omega), show (0 : Int) - -((x.natAbs % 10 : Nat) : Int) = ((x.natAbs % 10 : Nat) : Int) by omega, ba (n := ((x.natAbs % 10 : Nat) : Int)) (by omega) (by omega), ot _ (by omega)]
      simp only [cond_true, if_pos (hsz _)]
  · rw [Eg (by omega), decide_eq_false (by omega), ot _ (by omega)]
    simp only [cond_false, if_pos (hsz _)]
theorem agi (a : Int) (e s : ByteArray) : m9 (a, e, s, 0, ()) = some (1, (a, e, s, 0, ())) := rfl
theorem Wy (a : Int) (e : ByteArray) : ∀ (d : Nat) (x : Int) (s : ByteArray) (n : Nat), x.natAbs < 10 ^ d -> d < n -> I64 x -> s.size + d <= 100 ->
    iter m9 n (a, e, s, x, ()) = some (0, (a, e, (if x = 0 then s else tV x.natAbs ++ s), 0, ())) := by
  have stop : ∀ (s : ByteArray) (n : Nat), 0 < n -> iter m9 n (a, e, s, 0, ()) = some (0, (a, e, s, 0, ())) := fun s n hn => by
    obtain ⟨n, rfl⟩ : ∃ k, n = k + 1 := ⟨n - 1, by omega⟩
    rfl
  intro d
  induction d with
  | zero =>
    intro x s n h hn hr hs
    have : x = 0 := by omega
    subst this
    rw [stop s n hn]
    rfl
  | succ d ih =>
    intro x s n h hn hr hs
    by_cases hx : x = 0
    · subst hx
      rw [stop s n (by omega)]
      rfl
    · obtain ⟨n, rfl⟩ : ∃ k, n = k + 1 := ⟨n - 1, by omega⟩
      have hq := D9 x
      have h2 := ih (Int.tdiv x 10) (dg (x.natAbs % 10) ++ s) n (by rw [hq]; rw [Nat.pow_succ] at h; omega) (by omega) (Dm hr) (by rw [ByteArray.size_append, nU]; omega)
      simp only [iter, Yx a x e s hx hr (by omega), Option.bind_some, if_neg hx]
      rw [h2, hq]
      by_cases h10 : x.natAbs < 10
      · rw [if_pos (by omega), fp _ h10, Nat.mod_eq_of_lt h10]
      · rw [if_neg (by omega), ← ByteArray.append_assoc, ← nS _ h10]
theorem cz (n : Int) (hr : I64 n) : d127 n = true /\ v127 n = txt n := by
  have h := Wy n ByteArray.empty 20 n ByteArray.empty (v7 (n, ByteArray.empty, ByteArray.empty, n, ())) (Hr hr) (by simp only [v7]; omega) hr (by decide)
  have hk : CC n ByteArray.empty ByteArray.empty n 0 = true := bg h 0
  have hw : ju n ByteArray.empty ByteArray.empty n = _ := bD h
  have ht := bM hr
  unfold d127 v127
  rw [hk, hw]
  by_cases hz : n = 0
  · subst hz
    simp only [beq_self_eq_true, cond_true, true_and]
    unfold txt
    rw [if_neg (by omega), fp _ (by decide)]
    rfl
  · have e0 : (n == 0) = false := by simpa using hz
    have ee : tV n.natAbs ++ ByteArray.empty = tV n.natAbs := ByteArray.append_empty
    simp only [e0, cond_false, cond_true, if_neg hz, ee, Bool.and_true]
    unfold txt at ht ⊢
    by_cases hn : n < 0
    · rw [if_pos hn] at ht ⊢
      rw [decide_eq_true hn]
      rw [ByteArray.size_append] at ht
      exact ⟨decide_eq_true (show minus.size + _ <= _ by omega), rfl⟩
    · rw [if_neg hn]
      rw [decide_eq_false hn]
      exact ⟨rfl, rfl⟩
theorem Rb (k : Nat) (n : Int) (h0 : 0 <= n) (h1 : n < 10) : tR (k + 1) n = (true, txt n) := by
  have e : Utf8.encode (IntKind.wrap .i32 (IntKind.wrap .i64 (48 + n))) = txt n := by
    have := yT n.natAbs (by omega)
    rw [show ((n.natAbs : Nat) : Int) = n by omega] at this
    rw [this]
    unfold txt
    rw [if_neg (by omega), fp _ (by omega)]
  simp only [tR, zS, Aj, t124, Option.isSome_some, Option.getD_some, decide_eq_false (show ¬ n < 0 by omega), decide_eq_true h1, cond_true, cond_false, e]
theorem VO (k : Nat) (n : Int) (h0 : n < 0) (h1 : -10 < n) : tR (k + 2) n = (true, txt n) := by
  have e1 : IntKind.wrap .i64 (0 - n) = -n := by rw [ba (by omega) (by omega)]; omega
  have e2 := Rb k (-n) (by omega) (by omega)
  have hs : (txt (-n)).size <= 21 := bM (by unfold I64; omega)
  have et : (ByteArray.mk #[45]) ++ txt (-n) = txt n := by
    unfold txt
    rw [if_neg (by omega), if_pos h0, Int.natAbs_neg]
    rfl
  rw [tR]
  simp only [zS, Aj, t124, Option.isSome_some, Option.getD_some, decide_eq_true h0, decide_eq_true (show n > -10 by omega), cond_true, e1, e2, et]
  rw [if_pos (show (ByteArray.mk #[45]).size + (txt (-n)).size <= 9223372036854775807 from by have : (ByteArray.mk #[45]).size = 1 := rfl; omega)]
  rfl
theorem aff : ∀ (d : Nat) (n : Int), n.natAbs < 10 ^ (d + 1) -> I64 n -> tR (d + 2) n = (true, txt n) := by
  intro d
  induction d with
  | zero =>
    intro n h hr
    have : n.natAbs < 10 := by simpa using h
    by_cases hn : n < 0
    · exact VO 0 n hn (by omega)
    · exact Rb 1 n (by omega) (by omega)
  | succ d ih =>
    intro n h hr
    by_cases h10 : n.natAbs < 10
    · by_cases hn : n < 0
      · exact VO _ n hn (by omega)
      · exact Rb _ n (by omega) (by omega)
    · have hq := D9 n
      have hd := Dm hr
      have h1 := ih (Int.tdiv n 10) (by rw [hq]; rw [Nat.pow_succ] at h; omega) hd
      have hs1 := bM hd
      have hd' := hd
      unfold I64 at hd'
      have e1 : IntKind.wrap .i64 (Int.tdiv n 10) = Int.tdiv n 10 := ba hd'.1 hd'.2
      rw [tR]
      by_cases hn : n < 0
      · have e2 : IntKind.wrap .i64 (0 - Int.tmod n 10) = ((n.natAbs % 10 : Nat) : Int) := by
          rw [tmod_neg hn, show (0 : Int) - -((n.natAbs % 10 : Nat) : Int) = ((n.natAbs % 10 : Nat) : Int) by omega, ba (by omega) (by omega)]
        have h2 := Rb (d + 1) ((n.natAbs % 10 : Nat) : Int) (by omega) (by omega)
        have hs2 : (txt ((n.natAbs % 10 : Nat) : Int)).size <= 21 := bM (by unfold I64; omega)
        have et : txt (Int.tdiv n 10) ++ txt ((n.natAbs % 10 : Nat) : Int) = txt n := by
          unfold txt
          rw [if_pos (show Int.tdiv n 10 < 0 by rw [tdiv_neg hn]; omega), if_neg (by omega), if_pos hn, hq, Int.natAbs_natCast, nS _ h10, fp (n.natAbs % 10) (by omega), ByteArray.append_assoc]
        simp only [zS, Aj, t124, Option.isSome_some, Option.getD_some, decide_eq_true hn, decide_eq_false (show ¬ n > -10 by omega), cond_true, cond_false, e1, e2, h1, h2, et]
        rw [if_pos (show (txt (Int.tdiv n 10)).size + (txt ((n.natAbs % 10 : Nat) : Int)).size <= 9223372036854775807 by omega)]
        rfl
      · have e2 : Utf8.encode (IntKind.wrap .i32 (IntKind.wrap .i64 (48 + Int.tmod n 10))) = dg (n.natAbs % 10) := by rw [Eg (by omega), yT _ (by omega)]
        have et : txt (Int.tdiv n 10) ++ dg (n.natAbs % 10) = txt n := by
          unfold txt
          rw [if_neg (show ¬ Int.tdiv n 10 < 0 by rw [vN (by omega)]; omega), if_neg hn, hq, nS _ h10]
        simp only [zS, Aj, t124, Option.isSome_some, Option.getD_some, decide_eq_false hn, decide_eq_false (show ¬ n < 10 by omega), cond_true, cond_false, e1, e2, h1, et]
        rw [if_pos (show (txt (Int.tdiv n 10)).size + (dg (n.natAbs % 10)).size <= 9223372036854775807 by rw [nU]; omega)]
        rfl
theorem cG (n : Int) (hr : I64 n) : d124 n = true /\ aC n = txt n := by
  have h := aff 38 n (Nat.lt_of_lt_of_le (Hr hr) (Nat.pow_le_pow_right (by omega) (by omega))) hr
  unfold d124 aC
  rw [h]
  exact ⟨rfl, rfl⟩
theorem lits (a : Array UInt8) : (ByteArray.mk a).size = a.size := rfl
theorem aW (x s : ByteArray) : e8 [x] s = x := by simp [e8, Go.Lib.join]
theorem aQ (x y : ByteArray) (l : List ByteArray) (s : ByteArray) : e8 (x :: y :: l) s = x ++ (s ++ e8 (y :: l) s) := by
  apply ByteArray.ext
  simp [e8, Go.Lib.join, List.intercalate]
theorem Tf {n : Int} (h : Ty.ok (.int .i64) n) : -9223372036854775808 <= n /\ n <= 9223372036854775807 := by
  simp [Ty.ok, Lit.wf, IntKind.min, IntKind.max, IntKind.signed, IntKind.bits] at h
  omega
theorem okI {n : Int} (h : Ty.ok (.int .i64) n) : I64 n := Tf h
theorem LS (a : Ty.T y72) (h1 : I64 a.2.2.2.1) (h2 : I64 a.2.1) (h3 : I64 a.2.2.1) : d40 a = true /\ d39 a = true /\ v39 a = v40 a := by
  have z1 := bM h1
  have z2 := bM h2
  have z3 := bM h3
  have key : t39 a some = t40 a some /\ (t40 a some).isSome = true := by
    unfold t40 t39
    simp only [(cz _ h1).1, (cz _ h1).2, (cz _ h2).1, (cz _ h2).2, (cz _ h3).1, (cz _ h3).2, (cG _ h1).1, (cG _ h1).2, (cG _ h2).1, (cG _ h2).2, (cG _ h3).1, (cG _ h3).2, cond_true]
    generalize txt a.2.2.2.1 = T1 at *
    generalize txt a.2.1 = T2 at *
    generalize txt a.2.2.1 = T3 at *
    cases (a.1 == (1 : Int)) <;> cases (a.1 == (2 : Int)) <;> simp only [cond_true, cond_false] <;> (try (repeat rw [if_pos (by simp only [ByteArray.size_append, lits, List.size_toArray, List.length_cons, List.length_nil]; omega)])) <;> first | exact ⟨rfl, rfl⟩ | exact ⟨trivial, rfl⟩
  unfold d40 d39 v39 v40
  rw [key.1]
  exact ⟨key.2, key.2, rfl⟩
theorem bdR (x : Int) : -2147483647 <= dZ x /\ dZ x <= 2147483647 := by
  unfold dZ
  split <;> split <;> omega
theorem RO (x y : Int) : I64 (vo x y) := by
  unfold vo I64
  have := bdR (IntKind.wrap .i64 (dZ x - dZ y))
  omega
theorem ab8 (a : Ty.T y63) : tW a = ke a /\ yG a = lG a /\ I64 (ke a) /\ I64 (lG a) := by
  have e1 : tW a = ke a := by unfold tW ke; rw [plus, less]
  have e2 : yG a = lG a := by unfold yG lG; rw [plus, less]
  refine ⟨e1, e2, ?_, ?_⟩
  · rw [← e1]
    unfold tW
    exact RO _ _
  · rw [← e2]
    unfold yG
    exact RO _ _
theorem pc0 {v : dY} (h : I64 v.2.2.2.1.2.2.2.2.2.2.2.2.2.2.1) (hz : v.2.1.size <= 1000) : ∃ w, wu v some = some w /\ wQ v some = some w /\ v.2.1.size <= w.size /\ w.size <= v.2.1.size + 30 := by
  have z1 := bM h
  refine ⟨cond v.2.2.1 (v.2.1 ++ (ByteArray.mk #[32, 109, 97, 114, 107, 115, 32] ++ txt v.2.2.2.1.2.2.2.2.2.2.2.2.2.2.1)) v.2.1, ?_, ?_, ?_, ?_⟩
  · unfold wu
    try simp only [(cz _ h).1, (cz _ h).2, (cG _ h).1, (cG _ h).2, cond_true]
    cases v.2.2.1
    · rfl
    · rw [cond_true]
      repeat rw [if_pos (by simp only [ByteArray.size_append, lits, List.size_toArray, List.length_cons, List.length_nil]; omega)]
      rfl
  · unfold wQ
    try simp only [(cz _ h).1, (cz _ h).2, (cG _ h).1, (cG _ h).2, cond_true]
    cases v.2.2.1
    · rfl
    · rw [cond_true]
      repeat rw [if_pos (by simp only [ByteArray.size_append, lits, List.size_toArray, List.length_cons, List.length_nil]; omega)]
      try simp only [ByteArray.append_assoc]
      rfl
  · cases v.2.2.1
    · exact Nat.le_refl _
    · rw [cond_true]
      simp only [ByteArray.size_append]
      omega
  · cases v.2.2.1
    · exact Nat.le_add_right _ _
    · rw [cond_true]
      simp only [ByteArray.size_append, lits, List.size_toArray, List.length_cons, List.length_nil]
      omega
theorem pc1 {v : dY} (hz : v.2.1.size <= 1000) : ∃ w, wm v some = some w /\ uR v some = some w /\ v.2.1.size <= w.size /\ w.size <= v.2.1.size + 30 := by
  refine ⟨cond v.2.2.1 (v.2.1 ++ ByteArray.mk #[32, 100, 101, 97, 100, 108, 121]) v.2.1, ?_, ?_, ?_, ?_⟩
  · unfold wm
    try simp only [cond_true]
    cases v.2.2.1
    · rfl
    · rw [cond_true]
      repeat rw [if_pos (by simp only [ByteArray.size_append, lits, List.size_toArray, List.length_cons, List.length_nil]; omega)]
      rfl
  · unfold uR
    try simp only [cond_true]
    cases v.2.2.1
    · rfl
    · rw [cond_true]
      repeat rw [if_pos (by simp only [ByteArray.size_append, lits, List.size_toArray, List.length_cons, List.length_nil]; omega)]
      try simp only [ByteArray.append_assoc]
      rfl
  · cases v.2.2.1
    · exact Nat.le_refl _
    · rw [cond_true]
      simp only [ByteArray.size_append]
      omega
  · cases v.2.2.1
    · exact Nat.le_add_right _ _
    · rw [cond_true]
      simp only [ByteArray.size_append, lits, List.size_toArray, List.length_cons, List.length_nil]
      omega
theorem pc2 {v : nh} (hz : v.2.1.size <= 1000) : ∃ w, w7 v some = some w /\ wM v some = some w /\ v.2.1.size <= w.size /\ w.size <= v.2.1.size + 30 := by
  refine ⟨cond v.2.2.1 (v.2.1 ++ ByteArray.mk #[32, 98, 101, 110, 116]) v.2.1, ?_, ?_, ?_, ?_⟩
  · unfold w7
    try simp only [cond_true]
    cases v.2.2.1
    · rfl
    · rw [cond_true]
      repeat rw [if_pos (by simp only [ByteArray.size_append, lits, List.size_toArray, List.length_cons, List.length_nil]; omega)]
      rfl
  · unfold wM
    try simp only [cond_true]
    cases v.2.2.1
    · rfl
    · rw [cond_true]
      repeat rw [if_pos (by simp only [ByteArray.size_append, lits, List.size_toArray, List.length_cons, List.length_nil]; omega)]
      try simp only [ByteArray.append_assoc]
      rfl
  · cases v.2.2.1
    · exact Nat.le_refl _
    · rw [cond_true]
      simp only [ByteArray.size_append]
      omega
  · cases v.2.2.1
    · exact Nat.le_add_right _ _
    · rw [cond_true]
      simp only [ByteArray.size_append, lits, List.size_toArray, List.length_cons, List.length_nil]
      omega
theorem Kw (a : Ty.T y63) (h1 : I64 a.1) (h2 : I64 a.2.1) (h3 : I64 a.2.2.1) (h4 : I64 a.2.2.2.1) (h5 : I64 a.2.2.2.2.2.2.2.2.2.2.1) : d34 a = true /\ d33 a = true /\ v33 a = v34 a /\ 20 < (v34 a).size := by
  obtain ⟨p1, p2, h6, h7⟩ := ab8 a
  have z1 := bM h1
  have z2 := bM h2
  have z3 := bM h3
  have z4 := bM h4
  have z6 := bM h6
  have z7 := bM h7
  have key : ∃ w, t33 a some = some w /\ t34 a some = some w /\ 20 < w.size := by
    have E0 : DD a = Jj (ByteArray.empty, ((((((((((((ByteArray.mk #[112, 105, 101, 99, 101, 32]) ++ (txt a.1)) ++ (ByteArray.mk #[32, 111, 102, 32])) ++ (txt a.2.1)) ++ (ByteArray.mk #[32, 119, 105, 116, 104, 32])) ++ (txt a.2.2.1)) ++ (ByteArray.mk #[32, 105, 110, 32])) ++ (txt a.2.2.2.1)) ++ (ByteArray.mk #[32])) ++ (txt (ke a))) ++ (ByteArray.mk #[47])) ++ (txt (lG a))), decide (a.2.2.2.2.2.2.2.2.2.2.1 > (0 : Int)), a, ()) := by
      unfold DD
      simp only [(cz _ h1).2, (cz _ h2).2, (cz _ h3).2, (cz _ h4).2, (cz _ h6).2, (cz _ h7).2]
    have E1 : EY a = Jz (ByteArray.empty, ((((((((((((ByteArray.mk #[112, 105, 101, 99, 101, 32]) ++ (txt a.1)) ++ (ByteArray.mk #[32, 111, 102, 32])) ++ (txt a.2.1)) ++ (ByteArray.mk #[32, 119, 105, 116, 104, 32])) ++ (txt a.2.2.1)) ++ (ByteArray.mk #[32, 105, 110, 32])) ++ (txt a.2.2.2.1)) ++ (ByteArray.mk #[32])) ++ (txt (ke a))) ++ (ByteArray.mk #[47])) ++ (txt (lG a))), decide (a.2.2.2.2.2.2.2.2.2.2.1 > (0 : Int)), a, ()) := by
      unfold EY
      rw [p1, p2]
      simp only [(cG _ h1).2, (cG _ h2).2, (cG _ h3).2, (cG _ h4).2, (cG _ h6).2, (cG _ h7).2]
    have hh : 20 < (((((((((((((ByteArray.mk #[112, 105, 101, 99, 101, 32]) ++ (txt a.1)) ++ (ByteArray.mk #[32, 111, 102, 32])) ++ (txt a.2.1)) ++ (ByteArray.mk #[32, 119, 105, 116, 104, 32])) ++ (txt a.2.2.1)) ++ (ByteArray.mk #[32, 105, 110, 32])) ++ (txt a.2.2.2.1)) ++ (ByteArray.mk #[32])) ++ (txt (ke a))) ++ (ByteArray.mk #[47])) ++ (txt (lG a)))).size /\ (((((((((((((ByteArray.mk #[112, 105, 101, 99, 101, 32]) ++ (txt a.1)) ++ (ByteArray.mk #[32, 111, 102, 32])) ++ (txt a.2.1)) ++ (ByteArray.mk #[32, 119, 105, 116, 104, 32])) ++ (txt a.2.2.1)) ++ (ByteArray.mk #[32, 105, 110, 32])) ++ (txt a.2.2.2.1)) ++ (ByteArray.mk #[32])) ++ (txt (ke a))) ++ (ByteArray.mk #[47])) ++ (txt (lG a)))).size <= 200 := by
      simp only [ByteArray.size_append, lits, List.size_toArray, List.length_cons, List.length_nil]
      omega
    obtain ⟨w0, a1, b1, a3, a4⟩ := pc0 (v := (ByteArray.empty, ((((((((((((ByteArray.mk #[112, 105, 101, 99, 101, 32]) ++ (txt a.1)) ++ (ByteArray.mk #[32, 111, 102, 32])) ++ (txt a.2.1)) ++ (ByteArray.mk #[32, 119, 105, 116, 104, 32])) ++ (txt a.2.2.1)) ++ (ByteArray.mk #[32, 105, 110, 32])) ++ (txt a.2.2.2.1)) ++ (ByteArray.mk #[32])) ++ (txt (ke a))) ++ (ByteArray.mk #[47])) ++ (txt (lG a))), decide (a.2.2.2.2.2.2.2.2.2.2.1 > (0 : Int)), a, ())) h5 (by show (((((((((((((ByteArray.mk #[112, 105, 101, 99, 101, 32]) ++ (txt a.1)) ++ (ByteArray.mk #[32, 111, 102, 32])) ++ (txt a.2.1)) ++ (ByteArray.mk #[32, 119, 105, 116, 104, 32])) ++ (txt a.2.2.1)) ++ (ByteArray.mk #[32, 105, 110, 32])) ++ (txt a.2.2.2.1)) ++ (ByteArray.mk #[32])) ++ (txt (ke a))) ++ (ByteArray.mk #[47])) ++ (txt (lG a)))).size <= 1000; omega)
    dsimp only at a3 a4
    obtain ⟨w1, c1, d1, c3, c4⟩ := pc1 (v := (ByteArray.empty, w0, a.2.2.2.2.2.2.2.2.2.2.2.1, a, ())) (by show w0.size <= 1000; omega)
    dsimp only at c3 c4
    obtain ⟨w2, f1, g1, f3, f4⟩ := pc2 (v := (ByteArray.empty, w1, a.2.2.2.2.2.2.2.2.2.2.2.2, ())) (by show w1.size <= 1000; omega)
    dsimp only at f3 f4
    have G0ip : J3 (ByteArray.empty, ((((((((((((ByteArray.mk #[112, 105, 101, 99, 101, 32]) ++ (txt a.1)) ++ (ByteArray.mk #[32, 111, 102, 32])) ++ (txt a.2.1)) ++ (ByteArray.mk #[32, 119, 105, 116, 104, 32])) ++ (txt a.2.2.1)) ++ (ByteArray.mk #[32, 105, 110, 32])) ++ (txt a.2.2.2.1)) ++ (ByteArray.mk #[32])) ++ (txt (ke a))) ++ (ByteArray.mk #[47])) ++ (txt (lG a))), decide (a.2.2.2.2.2.2.2.2.2.2.1 > (0 : Int)), a, ()) = true := by
      unfold J3
      rw [a1]
      rfl
    have X0ip : EY a = w0 := by
      rw [E1]
      unfold Jz
      rw [a1]
      rfl
    have G1ip : IB (ByteArray.empty, w0, a.2.2.2.2.2.2.2.2.2.2.2.1, a, ()) = true := by
      unfold IB
      rw [c1]
      rfl
    have X1ip : JH a = w1 := by
      unfold JH
      rw [X0ip]
      unfold Oh
      rw [c1]
      rfl
    have G2ip : I1 (ByteArray.empty, w1, a.2.2.2.2.2.2.2.2.2.2.2.2, ()) = true /\ IH (ByteArray.empty, w1, a.2.2.2.2.2.2.2.2.2.2.2.2, ()) = w2 := by
      unfold I1 IH
      rw [f1]
      exact ⟨rfl, rfl⟩
    have G0sp : Ke (ByteArray.empty, ((((((((((((ByteArray.mk #[112, 105, 101, 99, 101, 32]) ++ (txt a.1)) ++ (ByteArray.mk #[32, 111, 102, 32])) ++ (txt a.2.1)) ++ (ByteArray.mk #[32, 119, 105, 116, 104, 32])) ++ (txt a.2.2.1)) ++ (ByteArray.mk #[32, 105, 110, 32])) ++ (txt a.2.2.2.1)) ++ (ByteArray.mk #[32])) ++ (txt (ke a))) ++ (ByteArray.mk #[47])) ++ (txt (lG a))), decide (a.2.2.2.2.2.2.2.2.2.2.1 > (0 : Int)), a, ()) = true := by
      unfold Ke
      rw [b1]
      rfl
    have X0sp : DD a = w0 := by
      rw [E0]
      unfold Jj
      rw [b1]
      rfl
    have G1sp : Jw (ByteArray.empty, w0, a.2.2.2.2.2.2.2.2.2.2.2.1, a, ()) = true := by
      unfold Jw
      rw [d1]
      rfl
    have X1sp : Jo a = w1 := by
      unfold Jo
      rw [X0sp]
      unfold NW
      rw [d1]
      rfl
    have G2sp : J9 (ByteArray.empty, w1, a.2.2.2.2.2.2.2.2.2.2.2.2, ()) = true /\ IJ (ByteArray.empty, w1, a.2.2.2.2.2.2.2.2.2.2.2.2, ()) = w2 := by
      unfold J9 IJ
      rw [g1]
      exact ⟨rfl, rfl⟩
    refine ⟨w2, ?_, ?_, by omega⟩
    · unfold t33
      simp only [p1, p2, (cG _ h1).1, (cG _ h1).2, (cG _ h2).1, (cG _ h2).2, (cG _ h3).1, (cG _ h3).2, (cG _ h4).1, (cG _ h4).2, (cG _ h6).1, (cG _ h6).2, (cG _ h7).1, (cG _ h7).2, cond_true, X0ip, X1ip, G0ip, G1ip, G2ip.1, G2ip.2]
      repeat rw [if_pos (by simp only [ByteArray.size_append, lits, List.size_toArray, List.length_cons, List.length_nil]; omega)]
    · unfold t34
      simp only [p1, p2, (cz _ h1).1, (cz _ h1).2, (cz _ h2).1, (cz _ h2).2, (cz _ h3).1, (cz _ h3).2, (cz _ h4).1, (cz _ h4).2, (cz _ h6).1, (cz _ h6).2, (cz _ h7).1, (cz _ h7).2, cond_true, X0sp, X1sp, G0sp, G1sp, G2sp.1, G2sp.2]
      repeat rw [if_pos (by simp only [ByteArray.size_append, lits, List.size_toArray, List.length_cons, List.length_nil]; omega)]
  obtain ⟨w, k1, k2, k3⟩ := key
  unfold d34 d33 v33 v34
  rw [k1, k2]
  exact ⟨rfl, rfl, rfl, k3⟩
theorem ET : ByteArray.mk #[104, 117, 114, 116, 32] = (ByteArray.mk #[104, 117, 114, 116]) ++ ByteArray.mk #[32] := by decide
theorem Fv : ByteArray.mk #[32, 115, 105, 100, 101, 32] = ByteArray.mk #[32] ++ (ByteArray.mk #[115, 105, 100, 101] ++ ByteArray.mk #[32]) := by decide
theorem EP : ByteArray.mk #[32, 112, 105, 101, 99, 101, 32] = ByteArray.mk #[32] ++ (ByteArray.mk #[112, 105, 101, 99, 101] ++ ByteArray.mk #[32]) := by decide
theorem DO : ByteArray.mk #[109, 111, 118, 101, 32] = (ByteArray.mk #[109, 111, 118, 101]) ++ ByteArray.mk #[32] := by decide
theorem Fz : ByteArray.mk #[32, 98, 101, 110, 116] = (ByteArray.mk #[32]) ++ ByteArray.mk #[98, 101, 110, 116] := by decide
theorem Ek : ByteArray.mk #[103, 97, 105, 110, 32] = (ByteArray.mk #[103, 97, 105, 110]) ++ ByteArray.mk #[32] := by decide
theorem Fc : ByteArray.mk #[108, 111, 115, 101, 32] = (ByteArray.mk #[108, 111, 115, 101]) ++ ByteArray.mk #[32] := by decide
theorem Ed : ByteArray.mk #[112, 117, 116, 32] = (ByteArray.mk #[112, 117, 116]) ++ ByteArray.mk #[32] := by decide
theorem Ej : ByteArray.mk #[99, 117, 116, 32] = (ByteArray.mk #[99, 117, 116]) ++ ByteArray.mk #[32] := by decide
theorem sX (e : Ty.T y27) : d132 e = true /\ d130 e = true /\ lC e = bX e /\ (bX e).size <= 200 := by
  have key : t130 e some = t132 e some /\ Sat (t132 e some) fun r => r.size <= 200 := by
    unfold t132 t130
    rw [M0]
    cases ho : c8 e
    · exact ⟨rfl, by rw [Bool.not_false, cond_true, ab]; decide⟩
    · obtain ⟨q0, q1, q2, q3, q4⟩ := UG e ho
      unfold inR at q0 q1 q2 q3 q4
      have r0 : I64 e.2.1 := by unfold I64; omega
      have h0 := bM r0
      have r1 : I64 e.2.2.1 := by unfold I64; omega
      have h1 := bM r1
      have r2 : I64 e.2.2.2.1 := by unfold I64; omega
      have h2 := bM r2
      have r3 : I64 e.2.2.2.2.1 := by unfold I64; omega
      have h3 := bM r3
      have r4 : I64 e.2.2.2.2.2.1 := by unfold I64; omega
      have h4 := bM r4
      simp only [Bool.not_true, cond_false, (cz _ r0).1, (cz _ r0).2, (cG _ r0).1, (cG _ r0).2, (cz _ r1).1, (cz _ r1).2, (cG _ r1).1, (cG _ r1).2, (cz _ r2).1, (cz _ r2).2, (cG _ r2).1, (cG _ r2).2, (cz _ r3).1, (cz _ r3).2, (cG _ r3).1, (cG _ r3).2, (cz _ r4).1, (cz _ r4).2, (cG _ r4).1, (cG _ r4).2, cond_true]
      unfold d131 oG
      clear ho q0 q1 q2 q3 q4 r0 r1 r2 r3 r4
      revert h0 h1 h2 h3 h4
      generalize txt e.2.1 = t0, txt e.2.2.1 = t1, txt e.2.2.2.1 = t2, txt e.2.2.2.2.1 = t3, txt e.2.2.2.2.2.1 = t4
      intro h0 h1 h2 h3 h4
      cases (e.1 == (1 : Int))
      · simp only [cond_false]
        cases (e.1 == (2 : Int))
        · simp only [cond_false]
          cases (e.1 == (3 : Int))
          · simp only [cond_false]
            cases (e.1 == (4 : Int))
            · simp only [cond_false]
              cases (e.1 == (5 : Int))
              · simp only [cond_false]
                (repeat rw [if_pos (by simp only [List.nil_append, List.cons_append, List.length_append, aW, aQ, ByteArray.size_append, lits, List.size_toArray, List.length_cons, List.length_nil]; omega)]); (try rw [decide_eq_true (show _ /\ _ from by simp only [List.nil_append, List.cons_append, List.length_append, aW, aQ, ByteArray.size_append, lits, List.size_toArray, List.length_cons, List.length_nil]; omega)]); rw [cond_true]; refine ⟨?_, ?_⟩; (congr 1; (try simp only [List.nil_append, List.cons_append, aW, aQ, ByteArray.append_assoc, ET, Fv, EP, DO, Fz, Ek, Fc, Ed, Ej])); (rw [ab]; simp only [ByteArray.size_append, lits, List.size_toArray, List.length_cons, List.length_nil]; omega)
              · simp only [cond_true]
                (repeat rw [if_pos (by simp only [List.nil_append, List.cons_append, List.length_append, aW, aQ, ByteArray.size_append, lits, List.size_toArray, List.length_cons, List.length_nil]; omega)]); (try rw [decide_eq_true (show _ /\ _ from by simp only [List.nil_append, List.cons_append, List.length_append, aW, aQ, ByteArray.size_append, lits, List.size_toArray, List.length_cons, List.length_nil]; omega)]); rw [cond_true]; refine ⟨?_, ?_⟩; (congr 1; (try simp only [List.nil_append, List.cons_append, aW, aQ, ByteArray.append_assoc, ET, Fv, EP, DO, Fz, Ek, Fc, Ed, Ej])); (rw [ab]; simp only [ByteArray.size_append, lits, List.size_toArray, List.length_cons, List.length_nil]; omega)
            · simp only [cond_true]
              (repeat rw [if_pos (by simp only [List.nil_append, List.cons_append, List.length_append, aW, aQ, ByteArray.size_append, lits, List.size_toArray, List.length_cons, List.length_nil]; omega)]); (try rw [decide_eq_true (show _ /\ _ from by simp only [List.nil_append, List.cons_append, List.length_append, aW, aQ, ByteArray.size_append, lits, List.size_toArray, List.length_cons, List.length_nil]; omega)]); rw [cond_true]; refine ⟨?_, ?_⟩; (congr 1; (try simp only [List.nil_append, List.cons_append, aW, aQ, ByteArray.append_assoc, ET, Fv, EP, DO, Fz, Ek, Fc, Ed, Ej])); (rw [ab]; simp only [ByteArray.size_append, lits, List.size_toArray, List.length_cons, List.length_nil]; omega)
          · simp only [cond_true]
            (repeat rw [if_pos (by simp only [List.nil_append, List.cons_append, List.length_append, aW, aQ, ByteArray.size_append, lits, List.size_toArray, List.length_cons, List.length_nil]; omega)]); (try rw [decide_eq_true (show _ /\ _ from by simp only [List.nil_append, List.cons_append, List.length_append, aW, aQ, ByteArray.size_append, lits, List.size_toArray, List.length_cons, List.length_nil]; omega)]); rw [cond_true]; refine ⟨?_, ?_⟩; (congr 1; (try simp only [List.nil_append, List.cons_append, aW, aQ, ByteArray.append_assoc, ET, Fv, EP, DO, Fz, Ek, Fc, Ed, Ej])); (rw [ab]; simp only [ByteArray.size_append, lits, List.size_toArray, List.length_cons, List.length_nil]; omega)
        · simp only [cond_true]
          cases e.2.2.2.2.2.2
          · simp only [cond_false]
            (repeat rw [if_pos (by simp only [List.nil_append, List.cons_append, List.length_append, aW, aQ, ByteArray.size_append, lits, List.size_toArray, List.length_cons, List.length_nil]; omega)]); (try rw [decide_eq_true (show _ /\ _ from by simp only [List.nil_append, List.cons_append, List.length_append, aW, aQ, ByteArray.size_append, lits, List.size_toArray, List.length_cons, List.length_nil]; omega)]); rw [cond_true]; refine ⟨?_, ?_⟩; (congr 1; (try simp only [List.nil_append, List.cons_append, aW, aQ, ByteArray.append_assoc, ET, Fv, EP, DO, Fz, Ek, Fc, Ed, Ej])); (rw [ab]; simp only [ByteArray.size_append, lits, List.size_toArray, List.length_cons, List.length_nil]; omega)
          · simp only [cond_true]
            (repeat rw [if_pos (by simp only [List.nil_append, List.cons_append, List.length_append, aW, aQ, ByteArray.size_append, lits, List.size_toArray, List.length_cons, List.length_nil]; omega)]); (try rw [decide_eq_true (show _ /\ _ from by simp only [List.nil_append, List.cons_append, List.length_append, aW, aQ, ByteArray.size_append, lits, List.size_toArray, List.length_cons, List.length_nil]; omega)]); rw [cond_true]; refine ⟨?_, ?_⟩; (congr 1; (try simp only [List.nil_append, List.cons_append, aW, aQ, ByteArray.append_assoc, ET, Fv, EP, DO, Fz, Ek, Fc, Ed, Ej])); (rw [ab]; simp only [ByteArray.size_append, lits, List.size_toArray, List.length_cons, List.length_nil]; omega)
      · simp only [cond_true]
        cases hc : (e.2.2.1 == (0 : Int))
        · simp only [bne, hc, Bool.not_false, cond_true, cond_false]
          (repeat rw [if_pos (by simp only [List.nil_append, List.cons_append, List.length_append, aW, aQ, ByteArray.size_append, lits, List.size_toArray, List.length_cons, List.length_nil]; omega)]); (try rw [decide_eq_true (show _ /\ _ from by simp only [List.nil_append, List.cons_append, List.length_append, aW, aQ, ByteArray.size_append, lits, List.size_toArray, List.length_cons, List.length_nil]; omega)]); rw [cond_true]; refine ⟨?_, ?_⟩; (congr 1; (try simp only [List.nil_append, List.cons_append, aW, aQ, ByteArray.append_assoc, ET, Fv, EP, DO, Fz, Ek, Fc, Ed, Ej])); (rw [ab]; simp only [ByteArray.size_append, lits, List.size_toArray, List.length_cons, List.length_nil]; omega)
        · simp only [bne, hc, Bool.not_true, cond_true, cond_false]
          (repeat rw [if_pos (by simp only [List.nil_append, List.cons_append, List.length_append, aW, aQ, ByteArray.size_append, lits, List.size_toArray, List.length_cons, List.length_nil]; omega)]); (try rw [decide_eq_true (show _ /\ _ from by simp only [List.nil_append, List.cons_append, List.length_append, aW, aQ, ByteArray.size_append, lits, List.size_toArray, List.length_cons, List.length_nil]; omega)]); rw [cond_true]; refine ⟨?_, ?_⟩; (congr 1; (try simp only [List.nil_append, List.cons_append, aW, aQ, ByteArray.append_assoc, ET, Fv, EP, DO, Fz, Ek, Fc, Ed, Ej])); (rw [ab]; simp only [ByteArray.size_append, lits, List.size_toArray, List.length_cons, List.length_nil]; omega)
  unfold d132 d130 lC bX
  rw [key.1]
  exact ⟨key.2.d, key.2.d, rfl, key.2.v⟩
theorem NZ (a : Ty.T y69) (r0 : I64 a.2.2.1) (r1 : I64 a.2.2.2.1) (r2 : I64 a.2.2.2.2.1) : d38 a = true /\ d37 a = true /\ v37 a = v38 a /\ ((@LE.le Int _ 1 a.1 /\ @LE.le Int _ a.1 7) -> 0 < (v38 a).size) /\ (¬ (@LE.le Int _ 1 a.1 /\ @LE.le Int _ a.1 7) -> v38 a = ByteArray.empty) := by
  have q := sX a.2.1
  have h0 := bM r0
  have h1 := bM r1
  have h2 := bM r2
  have key : t37 a some = t38 a some /\ Sat (t38 a some) fun r => ((@LE.le Int _ 1 a.1 /\ @LE.le Int _ a.1 7) -> 0 < r.size) /\ (¬ (@LE.le Int _ 1 a.1 /\ @LE.le Int _ a.1 7) -> r = ByteArray.empty) := by
    unfold t38 t37
    have hq := q.2.2.2
    rw [q.1, q.2.1, q.2.2.1, (cz _ r0).1, (cz _ r0).2, (cG _ r0).1, (cG _ r0).2, (cz _ r1).1, (cz _ r1).2, (cG _ r1).1, (cG _ r1).2, (cz _ r2).1, (cz _ r2).2, (cG _ r2).1, (cG _ r2).2]
    revert hq h0 h1 h2
    generalize bX a.2.1 = T
    generalize txt a.2.2.1 = t0
    generalize txt a.2.2.2.1 = t1
    generalize txt a.2.2.2.2.1 = t2
    intro hq h0 h1 h2
    obtain ⟨K, hK⟩ : ∃ K : Int, a.1 = K := ⟨_, rfl⟩
    rw [hK]
    by_cases k1 : K = 1
    · rw [k1]
      simp only [show ((1 : Int) == 1) = true from rfl, show ((1 : Int) == 2) = false from rfl, show ((1 : Int) == 3) = false from rfl, show ((1 : Int) == 4) = false from rfl, show ((1 : Int) == 5) = false from rfl, show ((1 : Int) == 6) = false from rfl, show ((1 : Int) == 7) = false from rfl, cond_true, cond_false]
      (repeat rw [if_pos (by simp only [List.nil_append, List.cons_append, List.length_append, aW, aQ, ByteArray.size_append, lits, List.size_toArray, List.length_cons, List.length_nil]; omega)]); refine ⟨by first | rfl | trivial, ?_⟩; rw [ab]; refine ⟨fun _ => ?_, fun h => absurd h (by decide)⟩; simp only [ByteArray.size_append, lits, List.size_toArray, List.length_cons, List.length_nil]; omega
    by_cases k2 : K = 2
    · rw [k2]
      simp only [show ((2 : Int) == 1) = false from rfl, show ((2 : Int) == 2) = true from rfl, show ((2 : Int) == 3) = false from rfl, show ((2 : Int) == 4) = false from rfl, show ((2 : Int) == 5) = false from rfl, show ((2 : Int) == 6) = false from rfl, show ((2 : Int) == 7) = false from rfl, cond_true, cond_false]
      (repeat rw [if_pos (by simp only [List.nil_append, List.cons_append, List.length_append, aW, aQ, ByteArray.size_append, lits, List.size_toArray, List.length_cons, List.length_nil]; omega)]); refine ⟨by first | rfl | trivial, ?_⟩; rw [ab]; refine ⟨fun _ => ?_, fun h => absurd h (by decide)⟩; simp only [ByteArray.size_append, lits, List.size_toArray, List.length_cons, List.length_nil]; omega
    by_cases k3 : K = 3
    · rw [k3]
      simp only [show ((3 : Int) == 1) = false from rfl, show ((3 : Int) == 2) = false from rfl, show ((3 : Int) == 3) = true from rfl, show ((3 : Int) == 4) = false from rfl, show ((3 : Int) == 5) = false from rfl, show ((3 : Int) == 6) = false from rfl, show ((3 : Int) == 7) = false from rfl, cond_true, cond_false]
      (repeat rw [if_pos (by simp only [List.nil_append, List.cons_append, List.length_append, aW, aQ, ByteArray.size_append, lits, List.size_toArray, List.length_cons, List.length_nil]; omega)]); refine ⟨by first | rfl | trivial, ?_⟩; rw [ab]; refine ⟨fun _ => ?_, fun h => absurd h (by decide)⟩; simp only [ByteArray.size_append, lits, List.size_toArray, List.length_cons, List.length_nil]; omega
    by_cases k4 : K = 4
    · rw [k4]
      simp only [show ((4 : Int) == 1) = false from rfl, show ((4 : Int) == 2) = false from rfl, show ((4 : Int) == 3) = false from rfl, show ((4 : Int) == 4) = true from rfl, show ((4 : Int) == 5) = false from rfl, show ((4 : Int) == 6) = false from rfl, show ((4 : Int) == 7) = false from rfl, cond_true, cond_false]
      (repeat rw [if_pos (by simp only [List.nil_append, List.cons_append, List.length_append, aW, aQ, ByteArray.size_append, lits, List.size_toArray, List.length_cons, List.length_nil]; omega)]); refine ⟨by first | rfl | trivial, ?_⟩; rw [ab]; refine ⟨fun _ => ?_, fun h => absurd h (by decide)⟩; simp only [ByteArray.size_append, lits, List.size_toArray, List.length_cons, List.length_nil]; omega
    by_cases k5 : K = 5
    · rw [k5]
      simp only [show ((5 : Int) == 1) = false from rfl, show ((5 : Int) == 2) = false from rfl, show ((5 : Int) == 3) = false from rfl, show ((5 : Int) == 4) = false from rfl, show ((5 : Int) == 5) = true from rfl, show ((5 : Int) == 6) = false from rfl, show ((5 : Int) == 7) = false from rfl, cond_true, cond_false]
      (repeat rw [if_pos (by simp only [List.nil_append, List.cons_append, List.length_append, aW, aQ, ByteArray.size_append, lits, List.size_toArray, List.length_cons, List.length_nil]; omega)]); refine ⟨by first | rfl | trivial, ?_⟩; rw [ab]; refine ⟨fun _ => ?_, fun h => absurd h (by decide)⟩; simp only [ByteArray.size_append, lits, List.size_toArray, List.length_cons, List.length_nil]; omega
    by_cases k6 : K = 6
    · rw [k6]
      simp only [show ((6 : Int) == 1) = false from rfl, show ((6 : Int) == 2) = false from rfl, show ((6 : Int) == 3) = false from rfl, show ((6 : Int) == 4) = false from rfl, show ((6 : Int) == 5) = false from rfl, show ((6 : Int) == 6) = true from rfl, show ((6 : Int) == 7) = false from rfl, cond_true, cond_false]
      (repeat rw [if_pos (by simp only [List.nil_append, List.cons_append, List.length_append, aW, aQ, ByteArray.size_append, lits, List.size_toArray, List.length_cons, List.length_nil]; omega)]); refine ⟨by first | rfl | trivial, ?_⟩; rw [ab]; refine ⟨fun _ => ?_, fun h => absurd h (by decide)⟩; simp only [ByteArray.size_append, lits, List.size_toArray, List.length_cons, List.length_nil]; omega
    by_cases k7 : K = 7
    · rw [k7]
      simp only [show ((7 : Int) == 1) = false from rfl, show ((7 : Int) == 2) = false from rfl, show ((7 : Int) == 3) = false from rfl, show ((7 : Int) == 4) = false from rfl, show ((7 : Int) == 5) = false from rfl, show ((7 : Int) == 6) = false from rfl, show ((7 : Int) == 7) = true from rfl, cond_true, cond_false]
      (repeat rw [if_pos (by simp only [List.nil_append, List.cons_append, List.length_append, aW, aQ, ByteArray.size_append, lits, List.size_toArray, List.length_cons, List.length_nil]; omega)]); refine ⟨by first | rfl | trivial, ?_⟩; rw [ab]; refine ⟨fun _ => ?_, fun h => absurd h (by decide)⟩; simp only [ByteArray.size_append, lits, List.size_toArray, List.length_cons, List.length_nil]; omega
    simp only [show (K == (1 : Int)) = false from beq_eq_false_iff_ne.2 k1, show (K == (2 : Int)) = false from beq_eq_false_iff_ne.2 k2, show (K == (3 : Int)) = false from beq_eq_false_iff_ne.2 k3, show (K == (4 : Int)) = false from beq_eq_false_iff_ne.2 k4, show (K == (5 : Int)) = false from beq_eq_false_iff_ne.2 k5, show (K == (6 : Int)) = false from beq_eq_false_iff_ne.2 k6, show (K == (7 : Int)) = false from beq_eq_false_iff_ne.2 k7, cond_false]
    exact ⟨by first | rfl | trivial, by rw [ab]; exact ⟨fun h => absurd h (by omega), fun _ => rfl⟩⟩
  unfold d38 d37 v37 v38
  rw [key.1]
  exact ⟨key.2.d, key.2.d, rfl, key.2.v⟩
theorem KF (s : ByteArray) : e8 [] s = ByteArray.empty := by apply ByteArray.ext; simp [e8, Go.Lib.join]
theorem Hg (s x y : ByteArray) : ∀ (l : List ByteArray), e8 (y :: l ++ [x]) s = e8 (y :: l) s ++ (s ++ x) := by
  intro l
  induction l generalizing y with
  | nil => rw [List.cons_append, List.nil_append, aQ, aW, aW]
  | cons z l ih =>
    have := ih z
    rw [List.cons_append] at this
    rw [List.cons_append, List.cons_append, aQ, this, aQ, ByteArray.append_assoc, ByteArray.append_assoc]
noncomputable def tx (l : List (Ty.T y27)) : ByteArray := e8 (l.map bX) (ByteArray.mk #[32, 97, 110, 100, 32])
theorem Ct : tx [] = ByteArray.empty := KF _
theorem On (x : Ty.T y27) : tx [x] = bX x := aW _ _
theorem Rt (y x : Ty.T y27) (l : List (Ty.T y27)) : tx (y :: l ++ [x]) = tx (y :: l) ++ ((ByteArray.mk #[32, 97, 110, 100, 32]) ++ bX x) := by
  unfold tx
  rw [List.map_append, List.map_cons, List.map_cons, List.map_nil]
  exact Hg _ _ _ _
theorem BQ : ∀ l : List (Ty.T y27), (tx l).size <= 205 * l.length
  | [] => by rw [Ct]; decide
  | [x] => by rw [On]; have := (sX x).2.2.2; simp only [List.length_cons, List.length_nil]; omega
  | x :: y :: l => by
    have h1 := (sX x).2.2.2
    have h2 := BQ (y :: l)
    have e : tx (x :: y :: l) = bX x ++ ((ByteArray.mk #[32, 97, 110, 100, 32]) ++ tx (y :: l)) := aQ _ _ _ _
    rw [e, ByteArray.size_append, ByteArray.size_append]
    have h3 : (ByteArray.mk #[32, 97, 110, 100, 32]).size = 5 := rfl
    simp only [List.length_cons] at h2 ⊢
    omega
theorem Uc (a : Ty.T y66) (z : ByteArray) (hz : z.size <= 1000) (hb : a.2.2.2.2.2.1.length <= 1000) : iter qC (yL (ByteArray.empty, z, 0, a, ())) (ByteArray.empty, z, 0, a, ()) = some (0, (ByteArray.empty, z ++ tx a.2.2.2.2.2.1, (a.2.2.2.2.2.1.length : Int), a, ())) := by
  have e0 : (ByteArray.empty, z, (0 : Int), a, ()) = (ByteArray.empty, z ++ tx (a.2.2.2.2.2.1.take 0), ((0 : Nat) : Int), a, ()) := by rw [List.take_zero, Ct, ByteArray.append_empty]; rfl
  have h := dK (s := qC) (f := fun i => (ByteArray.empty, z ++ tx (a.2.2.2.2.2.1.take i), (i : Int), a, ())) (c := 0) (N := a.2.2.2.2.2.1.length) (v' := (ByteArray.empty, z ++ tx (a.2.2.2.2.2.1.take a.2.2.2.2.2.1.length), (a.2.2.2.2.2.1.length : Int), a, ())) (fun i hi => by
    have hx : a.2.2.2.2.2.1[i]? = some a.2.2.2.2.2.1[i] := List.getElem?_eq_getElem hi
    have hq := sX a.2.2.2.2.2.1[i]
    have hw := bE (n := i) (by omega)
    have h3 : (i : Int) < (a.2.2.2.2.2.1.length : Int) := by omega
    have h4 : (0 : Int) <= (i : Int) := by omega
    have ht : a.2.2.2.2.2.1.take (i + 1) = a.2.2.2.2.2.1.take i ++ [a.2.2.2.2.2.1[i]] := dV hx
    have hl : (List.take i a.2.2.2.2.2.1).length = i := by rw [List.length_take]; omega
    have hts := BQ (a.2.2.2.2.2.1.take i)
    have ha : (ByteArray.mk #[32, 97, 110, 100, 32]).size = 5 := rfl
    have hsz : (z ++ tx (a.2.2.2.2.2.1.take i)).size <= 300000 := by rw [ByteArray.size_append]; omega
    show qC (ByteArray.empty, z ++ tx (a.2.2.2.2.2.1.take i), (i : Int), a, ()) = some (0, (ByteArray.empty, z ++ tx (a.2.2.2.2.2.1.take (i + 1)), ((i + 1 : Nat) : Int), a, ()))
    have gc : ∀ b : Bool, ∀ k k2 : Int, ∀ xs2 n2 bb, Jx (ByteArray.empty, z ++ tx (a.2.2.2.2.2.1.take i), k, k2, xs2, n2, bb, k2, b, a, ()) = true /\ ES (ByteArray.empty, z ++ tx (a.2.2.2.2.2.1.take i), k, k2, xs2, n2, bb, k2, b, a, ()) = cond b ((z ++ tx (a.2.2.2.2.2.1.take i)) ++ (ByteArray.mk #[32, 97, 110, 100, 32])) (z ++ tx (a.2.2.2.2.2.1.take i)) := fun b k k2 xs2 n2 bb => by
      unfold Jx ES yV
      dsimp only
      cases b
      · exact ⟨rfl, rfl⟩
      · rw [cond_true, if_pos (by omega)]
        exact ⟨rfl, rfl⟩
    unfold qC zt
    dsimp only
    rw [decide_eq_true h3, cond_true, (gc _ _ _ _ _ _).1, cond_true, if_pos h4, Int.toNat_natCast, hx, ay, hq.1, cond_true, (gc _ _ _ _ _ _).2, hw, ht]
    match hm : List.take i a.2.2.2.2.2.1 with
    | [] =>
      rw [hm] at hl hsz
      have hl : i = 0 := hl.symm
      subst hl
      rw [show decide (((0 : Nat) : Int) > 0) = false from rfl, cond_false, if_pos (by have := hq.2.2.2; omega), List.nil_append, On, Ct, ByteArray.append_empty]
    | y :: l =>
      rw [hm] at hl hsz
      have hl : l.length + 1 = i := hl
      rw [decide_eq_true (show (i : Int) > 0 by omega), cond_true, if_pos (by have := hq.2.2.2; rw [ByteArray.size_append]; omega), Rt]
      simp only [ByteArray.append_assoc]) (by
    show qC (ByteArray.empty, z ++ tx (a.2.2.2.2.2.1.take a.2.2.2.2.2.1.length), (a.2.2.2.2.2.1.length : Int), a, ()) = _
    unfold qC zt
    dsimp only
    rw [decide_eq_false (Int.lt_irrefl _), cond_false]) a.2.2.2.2.2.1.length 0 (yL (ByteArray.empty, z, 0, a, ())) (by omega) (by simp only [yL]; omega)
  rw [List.take_length] at h
  rw [← h, ← e0]
theorem Ug (a : Ty.T y66) (xs : List (Ty.T y27)) (hb : xs.length <= 1000) : iter p3 (Ah (ByteArray.empty, xs, (xs.length : Int), 0, a, [], ())) (ByteArray.empty, xs, (xs.length : Int), 0, a, [], ()) = some (0, (ByteArray.empty, xs, (xs.length : Int), (xs.length : Int), a, xs.map bX, ())) := by
  have h := dK (s := p3) (f := fun i => (ByteArray.empty, xs, (xs.length : Int), (i : Int), a, (xs.take i).map bX, ())) (c := 0) (N := xs.length) (v' := (ByteArray.empty, xs, (xs.length : Int), (xs.length : Int), a, (xs.take xs.length).map bX, ())) (fun i hi => by
    have hx : xs[i]? = some xs[i] := List.getElem?_eq_getElem hi
    have hq := sX xs[i]
    have hw := bE (n := i) (by omega)
    have h3 : (i : Int) < (xs.length : Int) := by omega
    have h4 : (0 : Int) <= (i : Int) := by omega
    have ht : xs.take (i + 1) = xs.take i ++ [xs[i]] := dV hx
    have hl : ((xs.take i).map bX).length = i := by rw [List.length_map, List.length_take]; omega
    have h5 : ((xs.take i).map bX ++ [bX xs[i]]).length * 16 <= 140737488351232 := by rw [List.length_append, hl]; simp only [List.length_cons, List.length_nil]; omega
    show p3 (ByteArray.empty, xs, (xs.length : Int), (i : Int), a, (xs.take i).map bX, ()) = some (0, (ByteArray.empty, xs, (xs.length : Int), ((i + 1 : Nat) : Int), a, (xs.take (i + 1)).map bX, ()))
    unfold p3 y4
    dsimp only
    rw [decide_eq_true h3, cond_true, if_pos h4, Int.toNat_natCast, hx, ay, hq.2.1, cond_true, hq.2.2.1, if_pos h5, hw, ht, List.map_append]
    rfl) (by
    show p3 (ByteArray.empty, xs, (xs.length : Int), (xs.length : Int), a, (xs.take xs.length).map bX, ()) = _
    unfold p3 y4
    dsimp only
    rw [decide_eq_false (Int.lt_irrefl _), cond_false]) xs.length 0 (Ah (ByteArray.empty, xs, (xs.length : Int), 0, a, [], ())) (by omega) (by simp only [Ah]; omega)
  rw [List.take_length] at h
  exact h
theorem Nw (a : Ty.T y66) (hb : a.2.2.2.2.2.1.length <= 1000) (r0 : I64 a.2.1) (r1 : I64 a.1) (r2 : I64 a.2.2.1) (r3 : I64 a.2.2.2.1) (r4 : I64 a.2.2.2.2.2.2.1) : d36 a = true /\ d35 a = true /\ v35 a = v36 a := by
  have q := sX a.2.2.2.2.1
  have hq := q.2.2.2
  have h0 := bM r0
  have h1 := bM r1
  have h2 := bM r2
  have h3 := bM r3
  have h4 := bM r4
  have hh : ((((((((((((ByteArray.mk #[98, 121, 32]) ++ txt a.2.1) ++ (ByteArray.mk #[32, 101, 102, 102, 101, 99, 116, 32])) ++ txt a.1) ++ (ByteArray.mk #[32])) ++ txt a.2.2.1) ++ (ByteArray.mk #[47])) ++ txt a.2.2.2.1) ++ (ByteArray.mk #[58, 32])) ++ bX a.2.2.2.2.1) ++ (ByteArray.mk #[32, 116, 111, 32]))).size <= 500 := by
    simp only [ByteArray.size_append, lits, List.size_toArray, List.length_cons, List.length_nil]
    omega
  have hts := BQ a.2.2.2.2.2.1
  obtain ⟨b, hbb⟩ : ∃ b, (((a.2.2.2.2.2.1).length : Int) == (0 : Int)) = b := ⟨_, rfl⟩
  have hnil : b = true -> a.2.2.2.2.2.1 = [] := fun h => by rw [h] at hbb; have := beq_iff_eq.1 hbb; exact List.eq_nil_of_length_eq_zero (by omega)
  have L1 := Ug a a.2.2.2.2.2.1 hb
  have k1 : R8 ByteArray.empty a.2.2.2.2.2.1 ((a.2.2.2.2.2.1).length : Int) 0 a [] 0 = true := bg L1 0
  have E0 : bp a = (ByteArray.empty, a.2.2.2.2.2.1, (a.2.2.2.2.2.1.length : Int), (a.2.2.2.2.2.1.length : Int), a, a.2.2.2.2.2.1.map bX, ()) := bD L1
  have hml : ((a.2.2.2.2.2.1.map bX).length : Int) = (a.2.2.2.2.2.1.length : Int) := by rw [List.length_map]
  have P1 : Kg (ByteArray.empty, b, a, a.2.2.2.2.2.1.map bX, ()) = true /\ J2 (ByteArray.empty, b, a, a.2.2.2.2.2.1.map bX, ()) = cond b [(ByteArray.mk #[110, 111, 116, 104, 105, 110, 103])] (a.2.2.2.2.2.1.map bX) := by
    unfold Kg J2 yR
    dsimp only
    cases b
    · exact ⟨rfl, rfl⟩
    · rw [hnil rfl]
      exact ⟨rfl, rfl⟩
  have E1 : tK a = cond b [(ByteArray.mk #[110, 111, 116, 104, 105, 110, 103])] (a.2.2.2.2.2.1.map bX) := by
    unfold tK
    rw [E0]
    dsimp only
    rw [hml, hbb]
    exact P1.2
  have J : e8 (cond b [(ByteArray.mk #[110, 111, 116, 104, 105, 110, 103])] (a.2.2.2.2.2.1.map bX)) (ByteArray.mk #[32, 97, 110, 100, 32]) = cond b (ByteArray.mk #[110, 111, 116, 104, 105, 110, 103]) (tx a.2.2.2.2.2.1) := by
    cases b
    · rfl
    · exact aW _ _
  have Jl : List.length (α := ByteArray) (cond b [(ByteArray.mk #[110, 111, 116, 104, 105, 110, 103])] (a.2.2.2.2.2.1.map bX)) <= 140737488355328 /\ (e8 (cond b [(ByteArray.mk #[110, 111, 116, 104, 105, 110, 103])] (a.2.2.2.2.2.1.map bX)) (ByteArray.mk #[32, 97, 110, 100, 32])).size <= 140737488355328 := by
    rw [J]
    cases b
    · exact ⟨by show (a.2.2.2.2.2.1.map bX).length <= _; rw [List.length_map]; omega, by show (tx a.2.2.2.2.2.1).size <= _; omega⟩
    · exact ⟨by show (1 : Nat) <= 140737488355328; decide, by show (ByteArray.mk #[110, 111, 116, 104, 105, 110, 103]).size <= 140737488355328; decide⟩
  have Jv : d131 (tK a) (ByteArray.mk #[32, 97, 110, 100, 32]) = true /\ oG (tK a) (ByteArray.mk #[32, 97, 110, 100, 32]) = cond b (ByteArray.mk #[110, 111, 116, 104, 105, 110, 103]) (tx a.2.2.2.2.2.1) := by
    unfold d131 oG
    rw [E1]
    exact ⟨decide_eq_true Jl, J⟩
  have Bz : (cond b (ByteArray.mk #[110, 111, 116, 104, 105, 110, 103]) (tx a.2.2.2.2.2.1)).size <= 205000 := by
    cases b
    · show (tx a.2.2.2.2.2.1).size <= _; omega
    · show (ByteArray.mk #[110, 111, 116, 104, 105, 110, 103]).size <= 205000; decide
  have P0 : JV (ByteArray.empty, (((((((((((ByteArray.mk #[98, 121, 32]) ++ txt a.2.1) ++ (ByteArray.mk #[32, 101, 102, 102, 101, 99, 116, 32])) ++ txt a.1) ++ (ByteArray.mk #[32])) ++ txt a.2.2.1) ++ (ByteArray.mk #[47])) ++ txt a.2.2.2.1) ++ (ByteArray.mk #[58, 32])) ++ bX a.2.2.2.2.1) ++ (ByteArray.mk #[32, 116, 111, 32])), b, a, ()) = true /\ IT (ByteArray.empty, (((((((((((ByteArray.mk #[98, 121, 32]) ++ txt a.2.1) ++ (ByteArray.mk #[32, 101, 102, 102, 101, 99, 116, 32])) ++ txt a.1) ++ (ByteArray.mk #[32])) ++ txt a.2.2.1) ++ (ByteArray.mk #[47])) ++ txt a.2.2.2.1) ++ (ByteArray.mk #[58, 32])) ++ bX a.2.2.2.2.1) ++ (ByteArray.mk #[32, 116, 111, 32])), b, a, ()) = cond b ((((((((((((ByteArray.mk #[98, 121, 32]) ++ txt a.2.1) ++ (ByteArray.mk #[32, 101, 102, 102, 101, 99, 116, 32])) ++ txt a.1) ++ (ByteArray.mk #[32])) ++ txt a.2.2.1) ++ (ByteArray.mk #[47])) ++ txt a.2.2.2.1) ++ (ByteArray.mk #[58, 32])) ++ bX a.2.2.2.2.1) ++ (ByteArray.mk #[32, 116, 111, 32])) ++ (ByteArray.mk #[110, 111, 116, 104, 105, 110, 103])) ((((((((((((ByteArray.mk #[98, 121, 32]) ++ txt a.2.1) ++ (ByteArray.mk #[32, 101, 102, 102, 101, 99, 116, 32])) ++ txt a.1) ++ (ByteArray.mk #[32])) ++ txt a.2.2.1) ++ (ByteArray.mk #[47])) ++ txt a.2.2.2.1) ++ (ByteArray.mk #[58, 32])) ++ bX a.2.2.2.2.1) ++ (ByteArray.mk #[32, 116, 111, 32]))) := by
    unfold JV IT zX
    dsimp only
    cases b
    · exact ⟨rfl, rfl⟩
    · rw [cond_true, if_pos (by have : (ByteArray.mk #[110, 111, 116, 104, 105, 110, 103]).size = 7 := rfl; omega)]
      exact ⟨rfl, rfl⟩
  have S0 : ob a = cond b ((((((((((((ByteArray.mk #[98, 121, 32]) ++ txt a.2.1) ++ (ByteArray.mk #[32, 101, 102, 102, 101, 99, 116, 32])) ++ txt a.1) ++ (ByteArray.mk #[32])) ++ txt a.2.2.1) ++ (ByteArray.mk #[47])) ++ txt a.2.2.2.1) ++ (ByteArray.mk #[58, 32])) ++ bX a.2.2.2.2.1) ++ (ByteArray.mk #[32, 116, 111, 32])) ++ (ByteArray.mk #[110, 111, 116, 104, 105, 110, 103])) ((((((((((((ByteArray.mk #[98, 121, 32]) ++ txt a.2.1) ++ (ByteArray.mk #[32, 101, 102, 102, 101, 99, 116, 32])) ++ txt a.1) ++ (ByteArray.mk #[32])) ++ txt a.2.2.1) ++ (ByteArray.mk #[47])) ++ txt a.2.2.2.1) ++ (ByteArray.mk #[58, 32])) ++ bX a.2.2.2.2.1) ++ (ByteArray.mk #[32, 116, 111, 32]))) := by
    unfold ob
    rw [(cz _ r0).2, (cz _ r1).2, (cz _ r2).2, (cz _ r3).2, hbb]
    exact P0.2
  have S0z : (cond b ((((((((((((ByteArray.mk #[98, 121, 32]) ++ txt a.2.1) ++ (ByteArray.mk #[32, 101, 102, 102, 101, 99, 116, 32])) ++ txt a.1) ++ (ByteArray.mk #[32])) ++ txt a.2.2.1) ++ (ByteArray.mk #[47])) ++ txt a.2.2.2.1) ++ (ByteArray.mk #[58, 32])) ++ bX a.2.2.2.2.1) ++ (ByteArray.mk #[32, 116, 111, 32])) ++ (ByteArray.mk #[110, 111, 116, 104, 105, 110, 103])) ((((((((((((ByteArray.mk #[98, 121, 32]) ++ txt a.2.1) ++ (ByteArray.mk #[32, 101, 102, 102, 101, 99, 116, 32])) ++ txt a.1) ++ (ByteArray.mk #[32])) ++ txt a.2.2.1) ++ (ByteArray.mk #[47])) ++ txt a.2.2.2.1) ++ (ByteArray.mk #[58, 32])) ++ bX a.2.2.2.2.1) ++ (ByteArray.mk #[32, 116, 111, 32])))).size <= 1000 := by
    cases b
    · show ((((((((((((ByteArray.mk #[98, 121, 32]) ++ txt a.2.1) ++ (ByteArray.mk #[32, 101, 102, 102, 101, 99, 116, 32])) ++ txt a.1) ++ (ByteArray.mk #[32])) ++ txt a.2.2.1) ++ (ByteArray.mk #[47])) ++ txt a.2.2.2.1) ++ (ByteArray.mk #[58, 32])) ++ bX a.2.2.2.2.1) ++ (ByteArray.mk #[32, 116, 111, 32]))).size <= 1000; omega
    · show ((((((((((((ByteArray.mk #[98, 121, 32]) ++ txt a.2.1) ++ (ByteArray.mk #[32, 101, 102, 102, 101, 99, 116, 32])) ++ txt a.1) ++ (ByteArray.mk #[32])) ++ txt a.2.2.1) ++ (ByteArray.mk #[47])) ++ txt a.2.2.2.1) ++ (ByteArray.mk #[58, 32])) ++ bX a.2.2.2.2.1) ++ (ByteArray.mk #[32, 116, 111, 32])) ++ (ByteArray.mk #[110, 111, 116, 104, 105, 110, 103])).size <= 1000
      rw [ByteArray.size_append]
      have : (ByteArray.mk #[110, 111, 116, 104, 105, 110, 103]).size = 7 := rfl
      omega
  have L2 := Uc a _ S0z hb
  have k2 : RG ByteArray.empty (cond b ((((((((((((ByteArray.mk #[98, 121, 32]) ++ txt a.2.1) ++ (ByteArray.mk #[32, 101, 102, 102, 101, 99, 116, 32])) ++ txt a.1) ++ (ByteArray.mk #[32])) ++ txt a.2.2.1) ++ (ByteArray.mk #[47])) ++ txt a.2.2.2.1) ++ (ByteArray.mk #[58, 32])) ++ bX a.2.2.2.2.1) ++ (ByteArray.mk #[32, 116, 111, 32])) ++ (ByteArray.mk #[110, 111, 116, 104, 105, 110, 103])) ((((((((((((ByteArray.mk #[98, 121, 32]) ++ txt a.2.1) ++ (ByteArray.mk #[32, 101, 102, 102, 101, 99, 116, 32])) ++ txt a.1) ++ (ByteArray.mk #[32])) ++ txt a.2.2.1) ++ (ByteArray.mk #[47])) ++ txt a.2.2.2.1) ++ (ByteArray.mk #[58, 32])) ++ bX a.2.2.2.2.1) ++ (ByteArray.mk #[32, 116, 111, 32])))) 0 a 0 = true := bg L2 0
  have W2 : tD ByteArray.empty (cond b ((((((((((((ByteArray.mk #[98, 121, 32]) ++ txt a.2.1) ++ (ByteArray.mk #[32, 101, 102, 102, 101, 99, 116, 32])) ++ txt a.1) ++ (ByteArray.mk #[32])) ++ txt a.2.2.1) ++ (ByteArray.mk #[47])) ++ txt a.2.2.2.1) ++ (ByteArray.mk #[58, 32])) ++ bX a.2.2.2.2.1) ++ (ByteArray.mk #[32, 116, 111, 32])) ++ (ByteArray.mk #[110, 111, 116, 104, 105, 110, 103])) ((((((((((((ByteArray.mk #[98, 121, 32]) ++ txt a.2.1) ++ (ByteArray.mk #[32, 101, 102, 102, 101, 99, 116, 32])) ++ txt a.1) ++ (ByteArray.mk #[32])) ++ txt a.2.2.1) ++ (ByteArray.mk #[47])) ++ txt a.2.2.2.1) ++ (ByteArray.mk #[58, 32])) ++ bX a.2.2.2.2.1) ++ (ByteArray.mk #[32, 116, 111, 32])))) 0 a = _ := bD L2
  have R : cond b ((((((((((((ByteArray.mk #[98, 121, 32]) ++ txt a.2.1) ++ (ByteArray.mk #[32, 101, 102, 102, 101, 99, 116, 32])) ++ txt a.1) ++ (ByteArray.mk #[32])) ++ txt a.2.2.1) ++ (ByteArray.mk #[47])) ++ txt a.2.2.2.1) ++ (ByteArray.mk #[58, 32])) ++ bX a.2.2.2.2.1) ++ (ByteArray.mk #[32, 116, 111, 32])) ++ (ByteArray.mk #[110, 111, 116, 104, 105, 110, 103])) ((((((((((((ByteArray.mk #[98, 121, 32]) ++ txt a.2.1) ++ (ByteArray.mk #[32, 101, 102, 102, 101, 99, 116, 32])) ++ txt a.1) ++ (ByteArray.mk #[32])) ++ txt a.2.2.1) ++ (ByteArray.mk #[47])) ++ txt a.2.2.2.1) ++ (ByteArray.mk #[58, 32])) ++ bX a.2.2.2.2.1) ++ (ByteArray.mk #[32, 116, 111, 32]))) ++ tx a.2.2.2.2.2.1 = (((((((((((ByteArray.mk #[98, 121, 32]) ++ txt a.2.1) ++ (ByteArray.mk #[32, 101, 102, 102, 101, 99, 116, 32])) ++ txt a.1) ++ (ByteArray.mk #[32])) ++ txt a.2.2.1) ++ (ByteArray.mk #[47])) ++ txt a.2.2.2.1) ++ (ByteArray.mk #[58, 32])) ++ bX a.2.2.2.2.1) ++ (ByteArray.mk #[32, 116, 111, 32])) ++ cond b (ByteArray.mk #[110, 111, 116, 104, 105, 110, 103]) (tx a.2.2.2.2.2.1) := by
    cases b
    · rfl
    · show ((((((((((((ByteArray.mk #[98, 121, 32]) ++ txt a.2.1) ++ (ByteArray.mk #[32, 101, 102, 102, 101, 99, 116, 32])) ++ txt a.1) ++ (ByteArray.mk #[32])) ++ txt a.2.2.1) ++ (ByteArray.mk #[47])) ++ txt a.2.2.2.1) ++ (ByteArray.mk #[58, 32])) ++ bX a.2.2.2.2.1) ++ (ByteArray.mk #[32, 116, 111, 32])) ++ (ByteArray.mk #[110, 111, 116, 104, 105, 110, 103])) ++ tx a.2.2.2.2.2.1 = (((((((((((ByteArray.mk #[98, 121, 32]) ++ txt a.2.1) ++ (ByteArray.mk #[32, 101, 102, 102, 101, 99, 116, 32])) ++ txt a.1) ++ (ByteArray.mk #[32])) ++ txt a.2.2.1) ++ (ByteArray.mk #[47])) ++ txt a.2.2.2.1) ++ (ByteArray.mk #[58, 32])) ++ bX a.2.2.2.2.1) ++ (ByteArray.mk #[32, 116, 111, 32])) ++ (ByteArray.mk #[110, 111, 116, 104, 105, 110, 103])
      rw [hnil rfl, Ct, ByteArray.append_empty]
  have Rz : ((((((((((((ByteArray.mk #[98, 121, 32]) ++ txt a.2.1) ++ (ByteArray.mk #[32, 101, 102, 102, 101, 99, 116, 32])) ++ txt a.1) ++ (ByteArray.mk #[32])) ++ txt a.2.2.1) ++ (ByteArray.mk #[47])) ++ txt a.2.2.2.1) ++ (ByteArray.mk #[58, 32])) ++ bX a.2.2.2.2.1) ++ (ByteArray.mk #[32, 116, 111, 32])) ++ cond b (ByteArray.mk #[110, 111, 116, 104, 105, 110, 103]) (tx a.2.2.2.2.2.1)).size <= 300000 := by rw [ByteArray.size_append]; omega
  have l6 : (ByteArray.mk #[32, 108, 101, 115, 115, 32]).size = 6 := rfl
  have l7 : ((ByteArray.mk #[32, 108, 101, 115, 115, 32]) ++ txt a.2.2.2.2.2.2.1).size <= 27 := by rw [ByteArray.size_append]; omega
  have P2 : ∀ c : Bool, IV (ByteArray.empty, (((((((((((ByteArray.mk #[98, 121, 32]) ++ txt a.2.1) ++ (ByteArray.mk #[32, 101, 102, 102, 101, 99, 116, 32])) ++ txt a.1) ++ (ByteArray.mk #[32])) ++ txt a.2.2.1) ++ (ByteArray.mk #[47])) ++ txt a.2.2.2.1) ++ (ByteArray.mk #[58, 32])) ++ bX a.2.2.2.2.1) ++ (ByteArray.mk #[32, 116, 111, 32])) ++ cond b (ByteArray.mk #[110, 111, 116, 104, 105, 110, 103]) (tx a.2.2.2.2.2.1), c, a, ()) = true /\ Kh (ByteArray.empty, (((((((((((ByteArray.mk #[98, 121, 32]) ++ txt a.2.1) ++ (ByteArray.mk #[32, 101, 102, 102, 101, 99, 116, 32])) ++ txt a.1) ++ (ByteArray.mk #[32])) ++ txt a.2.2.1) ++ (ByteArray.mk #[47])) ++ txt a.2.2.2.1) ++ (ByteArray.mk #[58, 32])) ++ bX a.2.2.2.2.1) ++ (ByteArray.mk #[32, 116, 111, 32])) ++ cond b (ByteArray.mk #[110, 111, 116, 104, 105, 110, 103]) (tx a.2.2.2.2.2.1), c, a, ()) = cond c (((((((((((((ByteArray.mk #[98, 121, 32]) ++ txt a.2.1) ++ (ByteArray.mk #[32, 101, 102, 102, 101, 99, 116, 32])) ++ txt a.1) ++ (ByteArray.mk #[32])) ++ txt a.2.2.1) ++ (ByteArray.mk #[47])) ++ txt a.2.2.2.1) ++ (ByteArray.mk #[58, 32])) ++ bX a.2.2.2.2.1) ++ (ByteArray.mk #[32, 116, 111, 32])) ++ cond b (ByteArray.mk #[110, 111, 116, 104, 105, 110, 103]) (tx a.2.2.2.2.2.1)) ++ ((ByteArray.mk #[32, 108, 101, 115, 115, 32]) ++ txt a.2.2.2.2.2.2.1)) ((((((((((((ByteArray.mk #[98, 121, 32]) ++ txt a.2.1) ++ (ByteArray.mk #[32, 101, 102, 102, 101, 99, 116, 32])) ++ txt a.1) ++ (ByteArray.mk #[32])) ++ txt a.2.2.1) ++ (ByteArray.mk #[47])) ++ txt a.2.2.2.1) ++ (ByteArray.mk #[58, 32])) ++ bX a.2.2.2.2.1) ++ (ByteArray.mk #[32, 116, 111, 32])) ++ cond b (ByteArray.mk #[110, 111, 116, 104, 105, 110, 103]) (tx a.2.2.2.2.2.1)) := fun c => by
    unfold IV Kh zj
    dsimp only
    rw [(cG _ r4).1, (cG _ r4).2]
    cases c
    · exact ⟨rfl, rfl⟩
    · rw [cond_true, cond_true, if_pos (by omega), if_pos (by omega)]
      exact ⟨rfl, rfl⟩
  have key : t35 a some = some (cond (decide (@GT.gt Int _ a.2.2.2.2.2.2.1 0)) (((((((((((((ByteArray.mk #[98, 121, 32]) ++ txt a.2.1) ++ (ByteArray.mk #[32, 101, 102, 102, 101, 99, 116, 32])) ++ txt a.1) ++ (ByteArray.mk #[32])) ++ txt a.2.2.1) ++ (ByteArray.mk #[47])) ++ txt a.2.2.2.1) ++ (ByteArray.mk #[58, 32])) ++ bX a.2.2.2.2.1) ++ (ByteArray.mk #[32, 116, 111, 32])) ++ cond b (ByteArray.mk #[110, 111, 116, 104, 105, 110, 103]) (tx a.2.2.2.2.2.1)) ++ ((ByteArray.mk #[32, 108, 101, 115, 115, 32]) ++ txt a.2.2.2.2.2.2.1)) ((((((((((((ByteArray.mk #[98, 121, 32]) ++ txt a.2.1) ++ (ByteArray.mk #[32, 101, 102, 102, 101, 99, 116, 32])) ++ txt a.1) ++ (ByteArray.mk #[32])) ++ txt a.2.2.1) ++ (ByteArray.mk #[47])) ++ txt a.2.2.2.1) ++ (ByteArray.mk #[58, 32])) ++ bX a.2.2.2.2.1) ++ (ByteArray.mk #[32, 116, 111, 32])) ++ cond b (ByteArray.mk #[110, 111, 116, 104, 105, 110, 103]) (tx a.2.2.2.2.2.1))) /\ t36 a some = some (cond (decide (@GT.gt Int _ a.2.2.2.2.2.2.1 0)) (((((((((((((ByteArray.mk #[98, 121, 32]) ++ txt a.2.1) ++ (ByteArray.mk #[32, 101, 102, 102, 101, 99, 116, 32])) ++ txt a.1) ++ (ByteArray.mk #[32])) ++ txt a.2.2.1) ++ (ByteArray.mk #[47])) ++ txt a.2.2.2.1) ++ (ByteArray.mk #[58, 32])) ++ bX a.2.2.2.2.1) ++ (ByteArray.mk #[32, 116, 111, 32])) ++ cond b (ByteArray.mk #[110, 111, 116, 104, 105, 110, 103]) (tx a.2.2.2.2.2.1)) ++ ((ByteArray.mk #[32, 108, 101, 115, 115, 32]) ++ txt a.2.2.2.2.2.2.1)) ((((((((((((ByteArray.mk #[98, 121, 32]) ++ txt a.2.1) ++ (ByteArray.mk #[32, 101, 102, 102, 101, 99, 116, 32])) ++ txt a.1) ++ (ByteArray.mk #[32])) ++ txt a.2.2.1) ++ (ByteArray.mk #[47])) ++ txt a.2.2.2.1) ++ (ByteArray.mk #[58, 32])) ++ bX a.2.2.2.2.1) ++ (ByteArray.mk #[32, 116, 111, 32])) ++ cond b (ByteArray.mk #[110, 111, 116, 104, 105, 110, 103]) (tx a.2.2.2.2.2.1))) := by
    constructor
    · unfold t35
      rw [k1, E0, Jv.1, Jv.2]
      dsimp only
      rw [hml, hbb, P1.1, (cG _ r0).1, (cG _ r0).2, (cG _ r1).1, (cG _ r1).2, (cG _ r2).1, (cG _ r2).2, (cG _ r3).1, (cG _ r3).2, q.2.1, q.2.2.1]
      simp only [cond_true]
      (repeat rw [if_pos (by simp only [List.nil_append, List.cons_append, List.length_append, aW, aQ, ByteArray.size_append, lits, List.size_toArray, List.length_cons, List.length_nil]; omega)])
      rw [(P2 _).1, (P2 _).2, cond_true]
    · unfold t36
      rw [(cz _ r0).1, (cz _ r0).2, (cz _ r1).1, (cz _ r1).2, (cz _ r2).1, (cz _ r2).2, (cz _ r3).1, (cz _ r3).2, q.1, hbb, P0.1, S0, k2]
      have e1 : Jf a = txt a.2.2.2.2.2.2.1 := by
        unfold Jf
        rw [S0, W2]
        exact (cz _ r4).2
      rw [W2, e1, R]
      dsimp only
      rw [(cz _ r4).1]
      simp only [cond_true]
      (repeat rw [if_pos (by simp only [List.nil_append, List.cons_append, List.length_append, aW, aQ, ByteArray.size_append, lits, List.size_toArray, List.length_cons, List.length_nil]; omega)])
      cases decide (a.2.2.2.2.2.2.1 > (0 : Int))
      · rfl
      · exact congrArg some ByteArray.append_assoc
  unfold d36 d35 v35 v36
  rw [key.1, key.2]
  exact ⟨rfl, rfl, rfl⟩
theorem DW (b : ByteArray) : ∀ (n i : Nat) (r : List UInt8), b.size - i = n -> (r ≠ [] ∨ i < b.size) -> ByteArray.toList.loop b i r ≠ []
  | 0, i, r, hn, h => by
    rw [ByteArray.toList.loop, if_neg (by omega)]
    rcases h with h | h
    · simpa using h
    · omega
  | n + 1, i, r, hn, h => by
    rw [ByteArray.toList.loop, if_pos (by omega)]
    exact DW b n (i + 1) _ (by omega) (.inl (by simp))
theorem abv {b : ByteArray} (h : 0 < b.size) : (b.toList == ByteArray.empty.toList) = false := by
  have := DW b _ 0 [] rfl (.inr h)
  rw [ByteArray.toList_empty]
  cases hb : b.toList with
  | nil => exact absurd hb this
  | cons x l => rfl
theorem law (a0 : List (Ty.T (.int .u8))) (w0 : Ty.ok (.sl 5 (.int .u8)) a0) : d5 a0 = true /\ v5 a0 = true := by
  unfold d5 v5
  cases hb : v28 a0
  · simp only [cond_false]
    have hl : (a0.length : Int) <= 1048576 := by
      unfold v28 at hb
      have := of_decide_eq_false hb
      omega
    obtain ⟨n1, nc⟩ := afx a0 (by omega)
    obtain ⟨p1, q1, q2, q3, q4, q5⟩ := drP a0 nc n1
    obtain ⟨t1, t2, u1, u2, u3, u4, u5⟩ := drT a0 nc n1
    obtain ⟨m1, x1, x2, x3⟩ := drN a0 nc n1
    obtain ⟨g1, g2, g3, g4⟩ := drG a0 nc n1
    obtain ⟨A1, A2, A3, A4⟩ := Kw (v29 a0) q1 q2 q3 q4 q5
    have B := Nw ((v30 a0).1.1, (v30 a0).1.2.1, (v30 a0).1.2.2.1, (v30 a0).1.2.2.2.1, (v30 a0).1.2.2.2.2, (v30 a0).2.2, (v30 a0).2.1) (Nat.le_trans t2 (by decide)) u2 u1 u3 u4 u5
    obtain ⟨C1, C2, C3, C4, C5⟩ := NZ (v31 a0) x1 x2 x3
    obtain ⟨D1, D2, D3⟩ := LS (v32 a0) g2 g3 g4
    rw [p1, t1, m1, g1, A1, A2, A3, B.1, B.2.1, B.2.2, C1, C2, C3, D1, D2, D3, decide_eq_true (show ((v34 (v29 a0)).size : Int) > 20 by omega)]
    simp only [beq_self_eq_true, cond_true]
    by_cases k1 : (v31 a0).1 ≥ (1 : Int)
    · rw [decide_eq_true k1, cond_true, cond_true]
      refine ⟨rfl, ?_⟩
      by_cases k7 : (v31 a0).1 <= (7 : Int)
      · rw [decide_eq_true k7, abv (C4 ⟨k1, k7⟩)]
        rfl
      · rw [decide_eq_false k7, C5 (fun h => k7 h.2), beq_self_eq_true]
        rfl
    · rw [decide_eq_false k1, cond_false, cond_false, C5 (fun h => k1 h.1), beq_self_eq_true]
      exact ⟨rfl, rfl⟩
  · exact ⟨rfl, rfl⟩
end Go.Proofs.YtahlaccdpmddbaaGreat.Vm
namespace Go.Proofs.YtahlaccdpmddbaaGreat.Pure
open Go Go.Proofs.YtahlaccdpmddbaaGreat.Lib Go.Proofs.YtahlaccdpmddbaaGreat.Vm
theorem fnSaid : Go.Proofs.YtahlaccdpmddbaaGreat.fnSaid.Pure := fun a0 w0 => by
  have h := law a0 w0
  show cond (d5 a0) (some (f5 (v5 a0))) none = _
  rw [h.1, h.2]
  rfl
end Go.Proofs.YtahlaccdpmddbaaGreat.Pure
