/- The law FnExactMostTurns holds. -/
import Derived.Test.YtnbmifoebaoemaaRowFnExactMostTurns
set_option linter.unusedVariables false
set_option linter.unusedSimpArgs false
namespace Go.Proofs.Ytnbmifoebaoemaa.Pure
open Go.RowKit Go.Proofs.Ytnbmifoebaoemaa Go.Proofs.Ytnbmifoebaoemaa.PFnExactMostTurns Go.Proofs.YtnbmifoebaoemaaW.PrintWords Go.Proofs.YtnbmifoebaoemaaW.PrintLast Go.Proofs.YtnbmifoebaoemaaW.PrintMore Go.Proofs.Ytnbmifoebaoemaa.Opening

/-! generic: loops from an index on, rows that are filled -/
theorem Ev.down {P : Nat → Prop} (n : Nat) (hend : P n) (hstep : ∀ i, i < n → P (i + 1) → P i) : P 0 := by
  have h : ∀ d i, i + d = n → P i := by
    intro d
    induction d with
    | zero => intro i hi; rw [show i = n by omega]; exact hend
    | succ d ih => intro i hi; exact hstep i (by omega) (ih (i + 1) (by omega))
  exact h n 0 (by omega)
theorem Ev.eq1 {α : Type} {a : Option α} {r : α} (h : a = some r) : Ev (fun _ => a) r := ⟨0, fun _ _ => h⟩
theorem w64_ {a : Int} (h0 : -9223372036854775808 ≤ a) (h1 : a ≤ 9223372036854775807) : wrap64 a = a := by unfold wrap64; omega
theorem next_ (i : Nat) (h : (i : Int) < 9223372036854775807) : wrap64 ((i : Int) + 1) = ((i + 1 : Nat) : Int) := by rw [w64_ (by omega) (by omega)]; rfl
theorem take_next {α : Type} (l : List α) (i : Nat) (h : i < l.length) (z : α) : l.take (i + 1) = l.take i ++ [l.getD i z] := by
  rw [List.take_succ_eq_append_getElem h, List.getD_eq_getElem?_getD, List.getElem?_eq_getElem h]
  rfl
theorem getD_mem {α : Type} (l : List α) (i : Nat) (h : i < l.length) (z : α) : l.getD i z ∈ l := by
  rw [List.getD_eq_getElem?_getD, List.getElem?_eq_getElem h]
  exact List.getElem_mem h
/-- a row that is filled up to i -/
def fill {α β : Type} (f : α → β) (z : β) (l : List α) (i : Nat) : List β := (l.take i).map f ++ List.replicate (l.length - i) z
theorem fill_zero {α β : Type} (f : α → β) (z : β) (l : List α) : fill f z l 0 = List.replicate l.length z := by simp [fill]
theorem fill_all {α β : Type} (f : α → β) (z : β) (l : List α) : fill f z l l.length = l.map f := by simp [fill]
theorem fill_length {α β : Type} (f : α → β) (z : β) (l : List α) (i : Nat) (h : i ≤ l.length) : (fill f z l i).length = l.length := by
  simp [fill]
  omega
theorem fill_next {α β : Type} (f : α → β) (z : β) (l : List α) (i : Nat) (h : i < l.length) (z' : α) : (fill f z l i).set i (f (l.getD i z')) = fill f z l (i + 1) := by
  have hl : ((l.take i).map f).length = i := by simp; omega
  unfold fill
  rw [List.set_append_right _ _ (by omega), hl, Nat.sub_self, take_next l i h z', List.map_append, List.append_assoc]
  congr 1
  obtain ⟨m, hm⟩ : ∃ m, l.length - i = m + 1 := ⟨l.length - i - 1, by omega⟩
  rw [hm, List.replicate_succ, List.set_cons_zero, show l.length - (i + 1) = m by omega]
  rfl

/-! events: laws' into the program's, equal to themselves -/
def toEv (x : S34) : S40 := ⟨x.f0, x.f1, x.f2, x.f3, x.f4, x.f5, x.f6⟩
theorem toEventS_f (l : List S34) (h : l.length ≤ 5026338869833) : Ev (fun k => laws_toEventS.f k l) (l.map toEv) := by
  have hl : Ev (fun k => laws_toEventS.l0 k l (fill toEv z40 l 0) ((0 : Nat) : Int)) (l.map toEv) := by
    refine Ev.down (P := fun i => Ev (fun k => laws_toEventS.l0 k l (fill toEv z40 l i) (i : Int)) (l.map toEv)) l.length ?_ ?_
    · refine Ev.step (f := fun _ => some (l.map toEv)) (fun k => ?_) (Ev.now _)
      simp only [laws_toEventS.l0]
      rw [if_neg (by omega), fill_all]
    · intro i hi ih
      refine Ev.step (f := fun k => laws_toEventS.l0 k l (fill toEv z40 l (i + 1)) ((i + 1 : Nat) : Int)) (fun k => ?_) ih
      simp only [laws_toEventS.l0, laws_toEvent.f, Option.bind_some, rd_T34, Int.toNat_natCast]
      rw [if_pos (by omega), if_pos (by omega), fill_length _ _ _ _ (by omega), if_pos (by omega), next_ i (by omega), ← fill_next toEv z40 l i hi z34]
      rfl
  refine Ev.congr (fun k => ?_) hl
  unfold laws_toEventS.f
  rw [if_pos (by omega), Int.toNat_natCast, if_pos h, fill_zero]
  rfl
theorem eqEventS_f (l : List S40) (h : l.length ≤ 5026338869833) : Ev (fun k => laws_eqEventS.f k l l) true := by
  have hl : Ev (fun k => laws_eqEventS.l0 k l l ((0 : Nat) : Int)) true := by
    refine Ev.down (P := fun i => Ev (fun k => laws_eqEventS.l0 k l l (i : Int)) true) l.length ?_ ?_
    · refine Ev.step (f := fun _ => some true) (fun k => ?_) (Ev.now _)
      simp only [laws_eqEventS.l0]
      rw [if_neg (by omega)]
    · intro i hi ih
      refine Ev.step (f := fun k => laws_eqEventS.l0 k l l ((i + 1 : Nat) : Int)) (fun k => ?_) ih
      simp only [laws_eqEventS.l0, laws_eqEvent.f]
      rw [if_pos (by omega), if_pos (by omega), next_ i (by omega)]
      simp
      intro h; omega
  refine Ev.congr (fun k => ?_) hl
  unfold laws_eqEventS.f
  rw [if_pos rfl]
  rfl

theorem szEventS_f (l : List S34) (h : l.length ≤ 9223372036854775807) (a : Int) (h0 : 0 ≤ a) (h1 : a ≤ 1048576) : laws_szEventS.f l a = some (if a - l.length < 0 then -1 else a - l.length) := by
  unfold laws_szEventS.f
  rw [w64_ (by omega) (by omega)]
  split <;> rfl

/-! effects -/
def toPa (x : S47) : S57 := ⟨x.f0, x.f1, x.f2, x.f3, x.f4, x.f5, x.f6⟩
def toGu (x : S49) : S58 := ⟨x.f0, x.f1⟩
def toAc (x : S52) : S61 := ⟨x.f0, x.f1, x.f2, x.f3, x.f4, x.f5, x.f6.map toEv⟩
def toEf (x : S54) : S63 := ⟨x.f0, x.f1, x.f2, x.f3, toPa x.f4, toGu x.f5, toAc x.f6, x.f7, x.f8⟩
theorem toEffectS_f (l : List S54) (h : l.length ≤ 1048576) (hx : ∀ x, x ∈ l → x.f6.f6.length ≤ 1048576) : Ev (fun k => laws_toEffectS.f k l) (l.map toEf) := by
  have hl : Ev (fun k => laws_toEffectS.l0 k l (fill toEf z63 l 0) ((0 : Nat) : Int)) (l.map toEf) := by
    refine Ev.down (P := fun i => Ev (fun k => laws_toEffectS.l0 k l (fill toEf z63 l i) (i : Int)) (l.map toEf)) l.length ?_ ?_
    · refine Ev.step (f := fun _ => some (l.map toEf)) (fun k => ?_) (Ev.now _)
      simp only [laws_toEffectS.l0]
      rw [if_neg (by omega), fill_all]
    · intro i hi ih
      have hm := hx _ (getD_mem l i hi z54)
      have hf := fill_next toEf z63 l i hi z54
      refine Ev.step (f := fun k => (laws_toEventS.f k (l.getD i z54).f6.f6).bind fun t => laws_toEffectS.l0 k l ((fill toEf z63 l i).set i ⟨(l.getD i z54).f0, (l.getD i z54).f1, (l.getD i z54).f2, (l.getD i z54).f3, toPa (l.getD i z54).f4, toGu (l.getD i z54).f5, ⟨(l.getD i z54).f6.f0, (l.getD i z54).f6.f1, (l.getD i z54).f6.f2, (l.getD i z54).f6.f3, (l.getD i z54).f6.f4, (l.getD i z54).f6.f5, t⟩, (l.getD i z54).f7, (l.getD i z54).f8⟩) ((i + 1 : Nat) : Int)) (fun k => ?_) (Ev.bind (toEventS_f _ (by omega)) ?_)
      · simp only [laws_toEffectS.l0, laws_toEffect.f, laws_toPat.f, laws_toGuard.f, laws_toAct.f, rd_T54, Int.toNat_natCast, Option.bind_some]
        rw [if_pos (by omega), if_pos (by omega), fill_length _ _ _ _ (by omega), next_ i (by omega), Option.bind_assoc, Option.bind_assoc]
        congr 1
        funext t
        simp only [Option.bind_some]
        rw [if_pos (by omega)]
        rfl
      · refine Ev.congr (fun k => ?_) ih
        rw [← hf]
        rfl
  refine Ev.congr (fun k => ?_) hl
  unfold laws_toEffectS.f
  rw [if_pos (by omega), Int.toNat_natCast, if_pos (by omega), fill_zero]
  rfl
theorem eqPat_refl (a0 a1 a2 a3 a4 a5 a6 : Int) : laws_eqPat.f a0 a1 a2 a3 a4 a5 a6 a0 a1 a2 a3 a4 a5 a6 = some true := by
  simp [laws_eqPat.f]
theorem eqGuard_refl (a0 a1 : Int) : laws_eqGuard.f a0 a1 a0 a1 = some true := by
  simp [laws_eqGuard.f]
theorem eqEffect_refl (x : S63) (k : Nat) (h : laws_eqEventS.f k x.f6.f6 x.f6.f6 = some true) :
    laws_eqEffect.f k x.f0 x.f1 x.f2 x.f3 x.f4.f0 x.f4.f1 x.f4.f2 x.f4.f3 x.f4.f4 x.f4.f5 x.f4.f6 x.f5.f0 x.f5.f1 x.f6.f0 x.f6.f1 x.f6.f2 x.f6.f3 x.f6.f4 x.f6.f5 x.f6.f6 x.f7 x.f8 x.f0 x.f1 x.f2 x.f3 x.f4.f0 x.f4.f1 x.f4.f2 x.f4.f3 x.f4.f4 x.f4.f5 x.f4.f6 x.f5.f0 x.f5.f1 x.f6.f0 x.f6.f1 x.f6.f2 x.f6.f3 x.f6.f4 x.f6.f5 x.f6.f6 x.f7 x.f8 = some true := by
  have ha : laws_eqAct.f k x.f6.f0 x.f6.f1 x.f6.f2 x.f6.f3 x.f6.f4 x.f6.f5 x.f6.f6 x.f6.f0 x.f6.f1 x.f6.f2 x.f6.f3 x.f6.f4 x.f6.f5 x.f6.f6 = some true := by
    unfold laws_eqAct.f
    rw [h]
    simp
  unfold laws_eqEffect.f
  rw [eqPat_refl, eqGuard_refl, ha]
  simp
theorem eqEffectS_f (l : List S63) (h : l.length ≤ 1048576) (hx : ∀ x, x ∈ l → x.f6.f6.length ≤ 1048576) : Ev (fun k => laws_eqEffectS.f k l l) true := by
  have hl : Ev (fun k => laws_eqEffectS.l0 k l l ((0 : Nat) : Int)) true := by
    refine Ev.down (P := fun i => Ev (fun k => laws_eqEffectS.l0 k l l (i : Int)) true) l.length ?_ ?_
    · refine Ev.step (f := fun _ => some true) (fun k => ?_) (Ev.now _)
      simp only [laws_eqEffectS.l0]
      rw [if_neg (by omega)]
    · intro i hi ih
      have hm := hx _ (getD_mem l i hi z63)
      obtain ⟨K1, h1⟩ := eqEventS_f (l.getD i z63).f6.f6 (by omega)
      obtain ⟨K2, h2⟩ := ih
      refine ⟨K1 + K2 + 1, fun k hk => ?_⟩
      obtain ⟨k, rfl⟩ : ∃ j, k = j + 1 := ⟨k - 1, by omega⟩
      have e := eqEffect_refl (l.getD i z63) k (h1 k (by omega))
      have e2 := h2 k (by omega)
      simp only [laws_eqEffectS.l0, rd_T63, Int.toNat_natCast]
      rw [if_pos (by omega), if_pos (by omega), if_pos (by omega), next_ i (by omega), e]
      simpa using e2
  refine Ev.congr (fun k => ?_) hl
  unfold laws_eqEffectS.f
  rw [if_pos rfl]
  rfl
theorem szEffectS_l0 (l : List S54) (h : l.length ≤ 1048576) (hx : ∀ x, x ∈ l → x.f6.f6.length ≤ 9223372036854775807) (d : Nat) : ∀ (i : Nat) (a : Int), i + d = l.length → 0 ≤ a → a ≤ 1048576 →
    ∃ r, Ev (fun k => laws_szEffectS.l0 k l a (i : Int)) r ∧ (0 ≤ r → ∀ x, x ∈ l.drop i → x.f6.f6.length ≤ 1048576) := by
  induction d with
  | zero =>
    intro i a hi h0 h1
    refine ⟨a, Ev.step (f := fun _ => some a) (fun k => ?_) (Ev.now _), fun _ x hx => ?_⟩
    · simp only [laws_szEffectS.l0]
      rw [if_neg (by omega)]
    · rw [List.drop_eq_nil_of_le (by omega)] at hx
      simp at hx
  | succ d ih =>
    intro i a hi h0 h1
    have hm := hx _ (getD_mem l i (by omega) z54)
    have hstep : ∀ k, laws_szEffectS.l0 (k + 1) l a (i : Int) = (if a - ((l.getD i z54).f6.f6.length : Int) < 0 then some (-1) else laws_szEffectS.l0 k l (a - ((l.getD i z54).f6.f6.length : Int)) ((i + 1 : Nat) : Int)) := by
      intro k
      simp only [laws_szEffectS.l0, laws_szEffect.f, laws_szAct.f, rd_T54, Int.toNat_natCast]
      rw [if_pos (by omega), if_pos (by omega), szEventS_f _ hm a h0 h1, next_ i (by omega)]
      by_cases hc : a - ((l.getD i z54).f6.f6.length : Int) < 0
      · rw [if_pos hc, if_pos hc]
        simp
      · rw [if_neg hc, if_neg hc]
        simp only [Option.bind_some]
        rw [if_neg hc]
        simp only [Option.bind_some]
        rw [if_neg hc]
        simp only [Option.bind_some]
        rw [if_neg hc]
    by_cases hc : a - ((l.getD i z54).f6.f6.length : Int) < 0
    · refine ⟨-1, Ev.step (f := fun _ => some (-1)) (fun k => ?_) (Ev.now _), fun h => absurd h (by omega)⟩
      rw [hstep, if_pos hc]
    · obtain ⟨r, hr, hb⟩ := ih (i + 1) (a - ((l.getD i z54).f6.f6.length : Int)) (by omega) (by omega) (by omega)
      refine ⟨r, Ev.step (f := fun k => laws_szEffectS.l0 k l (a - ((l.getD i z54).f6.f6.length : Int)) ((i + 1 : Nat) : Int)) (fun k => ?_) hr, fun h0' x hx' => ?_⟩
      · rw [hstep, if_neg hc]
      · rw [List.drop_eq_getElem_cons (by omega), List.mem_cons] at hx'
        rcases hx' with rfl | hx'
        · have e : l[i]'(by omega) = l.getD i z54 := by rw [List.getD_eq_getElem?_getD, List.getElem?_eq_getElem (by omega)]; rfl
          rw [e]
          omega
        · exact hb h0' x hx'
theorem szEffectS_f (l : List S54) (h : l.length ≤ 9223372036854775807) (hx : ∀ x, x ∈ l → x.f6.f6.length ≤ 9223372036854775807) :
    ∃ r, Ev (fun k => laws_szEffectS.f k l 1048576) r ∧ (0 ≤ r → l.length ≤ 1048576 ∧ ∀ x, x ∈ l → x.f6.f6.length ≤ 1048576) := by
  unfold laws_szEffectS.f
  rw [w64_ (by omega) (by omega)]
  by_cases hc : (1048576 : Int) - l.length < 0
  · exact ⟨-1, Ev.congr (fun k => if_pos hc) (Ev.now _), fun h => absurd h (by omega)⟩
  · obtain ⟨r, hr, hb⟩ := szEffectS_l0 l (by omega) hx l.length 0 (1048576 - l.length) (by omega) (by omega) (by omega)
    exact ⟨r, Ev.congr (fun k => if_neg hc) hr, fun h0 => ⟨by omega, fun x hx => hb h0 x (by simpa using hx)⟩⟩
theorem effects_map (l : List S54) (hx : ∀ x, x ∈ l → x.f6.f6.length ≤ 1048576) : ∀ x, x ∈ l.map toEf → x.f6.f6.length ≤ 1048576 := by
  intro x h
  obtain ⟨y, hy, rfl⟩ := List.mem_map.1 h
  simp only [toEf, toAc, List.length_map]
  exact hx y hy

/-! powers and their sums, limited -/
theorem mx_eq (a b : Int) : mx a b = max a b := by unfold mx; omega
theorem mn_eq (a b : Int) : mn a b = min a b := by unfold mn; omega
def upto (a b : Int) : Int := max 0 (min a b)
theorem spec_Upto_f (a b : Int) : spec_Upto.f a b = some (upto a b) := by
  unfold spec_Upto.f upto
  repeat' split
  all_goals (congr 1; omega)
theorem impl_Upto_f (a b : Int) : impl_Upto.f a b = some (upto a b) := by
  unfold impl_Upto.f upto
  rw [mx_eq, mn_eq]
def bnd (a : Int) : Int := max (-2147483647) (min a 2147483647)
theorem spec_Bound_f (a : Int) : spec_Bound.f a = some (bnd a) := by
  unfold spec_Bound.f bnd
  repeat' split
  all_goals (congr 1; omega)
def pw (x : Int) : Nat → Int
  | 0 => 1
  | n + 1 => min (pw x n * x) 2147483647
theorem pw_succ (x : Int) (n : Nat) : pw x (n + 1) = min (pw x n * x) 2147483647 := rfl
theorem pw_range (x : Int) (h0 : 0 ≤ x) (n : Nat) : 0 ≤ pw x n ∧ pw x n ≤ 2147483647 := by
  induction n with
  | zero => simp [pw]
  | succ n ih =>
    have : 0 ≤ pw x n * x := Int.mul_nonneg ih.1 h0
    rw [pw_succ]
    omega
theorem mul_small {a x : Int} (h0 : 0 ≤ a) (h1 : a ≤ 2147483647) (h2 : 0 ≤ x) (h3 : x ≤ 2147483647) : 0 ≤ a * x ∧ a * x ≤ 4611686014132420609 := by
  constructor
  · exact Int.mul_nonneg h0 h2
  · calc a * x ≤ 2147483647 * 2147483647 := Int.mul_le_mul h1 h3 h2 (by omega)
      _ = 4611686014132420609 := by decide
theorem wrap_small {a : Int} (h0 : -9223372036854775808 ≤ a) (h1 : a ≤ 9223372036854775807) : wrap64 a = a := by
  unfold wrap64
  omega
theorem pw_one (n : Nat) : pw 1 n = 1 := by
  induction n with
  | zero => rfl
  | succ n ih => rw [pw_succ, ih]; decide
theorem pw_zero (n : Nat) : pw 0 (n + 1) = 0 := by
  rw [pw_succ, Int.mul_zero]
  decide
theorem pw_top (x : Int) (h : 1 ≤ x) (n j : Nat) (e : pw x n = 2147483647) : pw x (n + j) = 2147483647 := by
  induction j with
  | zero => exact e
  | succ j ih =>
    show min (pw x (n + j) * x) 2147483647 = _
    rw [ih]
    omega
theorem pw_lower (x : Int) (h : 2 ≤ x) (n : Nat) : min (2 ^ n) 2147483647 ≤ pw x n := by
  induction n with
  | zero => simp [pw]; omega
  | succ n ih =>
    have h1 := pw_range x (by omega) n
    have h2 : pw x n * 2 ≤ pw x n * x := Int.mul_le_mul_of_nonneg_left h h1.1
    rw [pw_succ, Int.pow_succ]
    omega
theorem pw_31 (x : Int) (h : 2 ≤ x) (n : Nat) (hn : 31 ≤ n) : pw x n = 2147483647 := by
  have h1 := pw_lower x h 31
  have h2 := (pw_range x (by omega) 31).2
  have h3 : pw x 31 = 2147483647 := by
    have : (2 : Int) ^ 31 = 2147483648 := by decide
    omega
  have := pw_top x (by omega) 31 (n - 31) h3
  rwa [show 31 + (n - 31) = n by omega] at this
theorem spec_Power_l0 (n x : Int) (hx0 : 0 ≤ x) (hx : x ≤ 2147483647) (hn : n ≤ 9223372036854775807) (d : Nat) : ∀ (j : Nat), j + d = (min n 64).toNat →
    Ev (fun k => spec_Power.l0 k n x (pw x j) j) (pw x (min n 64).toNat) := by
  induction d with
  | zero =>
    intro j hj
    refine Ev.step (f := fun _ => some (pw x j)) (fun k => ?_) ?_
    · simp only [spec_Power.l0]
      by_cases h : (j : Int) < n
      · rw [if_pos h, if_neg (by omega)]
      · rw [if_neg h]
    · rw [show (min n 64).toNat = j by omega]
      exact Ev.now _
  | succ d ih =>
    intro j hj
    have hp := pw_range x hx0 j
    have hm := mul_small hp.1 hp.2 hx0 hx
    refine Ev.step (f := fun k => spec_Power.l0 k n x (pw x (j + 1)) ((j + 1 : Nat) : Int)) (fun k => ?_) (ih (j + 1) (by omega))
    simp only [spec_Power.l0]
    rw [if_pos (by omega), if_pos (by omega), spec_Bound_f, wrap_small (by omega) (by omega), wrap_small (by omega) (by omega)]
    simp only [Option.bind_some]
    rw [show bnd (pw x j * x) = pw x (j + 1) by rw [pw_succ]; unfold bnd; omega]
    rfl
def powr (k n : Int) : Int := pw (upto k 2147483647) (min n 64).toNat
theorem upto_max (k : Int) : 0 ≤ upto k 2147483647 ∧ upto k 2147483647 ≤ 2147483647 := by unfold upto; omega
theorem spec_Power_f (a n : Int) (hn : n ≤ 9223372036854775807) : Ev (fun k => spec_Power.f k a n) (powr a n) := by
  unfold spec_Power.f
  refine Ev.bind (g := fun _ => spec_Upto.f a 2147483647) (a := upto a 2147483647) ?_ ?_
  · rw [spec_Upto_f]; exact Ev.now _
  · have h := spec_Power_l0 n (upto a 2147483647) (upto_max a).1 (upto_max a).2 hn (min n 64).toNat 0 (by omega)
    exact h
theorem impl_Power_l0 (x : Int) (hx0 : 2 ≤ x) (hx : x ≤ 2147483647) (m : Nat) : ∀ (j : Nat), (m : Int) ≤ 9223372036854775807 →
    Ev (fun k => impl_Power.l0 k x m (pw x j)) (pw x (j + m)) := by
  induction m with
  | zero =>
    intro j _
    refine Ev.step (f := fun _ => some (pw x j)) (fun k => ?_) (Ev.now _)
    simp only [impl_Power.l0]
    rw [if_neg (by omega)]
  | succ m ih =>
    intro j hm
    have hp := pw_range x (by omega) j
    by_cases h : pw x j < 2147483647
    · have hml := mul_small hp.1 hp.2 (by omega : 0 ≤ x) hx
      rw [show j + (m + 1) = (j + 1) + m by omega]
      refine Ev.step (f := fun k => impl_Power.l0 k x m (pw x (j + 1))) (fun k => ?_) (ih (j + 1) (by omega))
      simp only [impl_Power.l0]
      rw [if_pos (by omega), if_pos h, wrap_small (by omega) (by omega), wrap_small (by omega) (by omega), mn_eq]
      rw [show ((m + 1 : Nat) : Int) - 1 = m by omega]
      rfl
    · have e : pw x j = 2147483647 := by omega
      rw [pw_top x (by omega) j (m + 1) e]
      refine Ev.step (f := fun _ => some 2147483647) (fun k => ?_) (Ev.now _)
      simp only [impl_Power.l0]
      rw [if_pos (by omega), if_neg h, e]
theorem impl_Power_f (a n : Int) (hn : n ≤ 9223372036854775807) : Ev (fun k => impl_Power.f k a n) (powr a n) := by
  unfold impl_Power.f
  refine Ev.bind (g := fun _ => impl_Upto.f a 2147483647) (a := upto a 2147483647) ?_ ?_
  · rw [impl_Upto_f]; exact Ev.now _
  · have hu := upto_max a
    unfold powr
    generalize upto a 2147483647 = x at *
    by_cases h2 : x < 2
    · by_cases hn0 : n > 0
      · refine Ev.congr (f := fun _ => some x) (fun k => by rw [if_pos h2, if_pos hn0]) ?_
        obtain ⟨q, hq⟩ : ∃ q, (min n 64).toNat = q + 1 := ⟨(min n 64).toNat - 1, by omega⟩
        rw [hq]
        by_cases h0 : x = 0
        · subst h0; rw [pw_zero]; exact Ev.now _
        · obtain rfl : x = 1 := by omega
          rw [pw_one]; exact Ev.now _
      · refine Ev.congr (f := fun _ => some 1) (fun k => by rw [if_pos h2, if_neg hn0]) ?_
        rw [show (min n 64).toNat = 0 by omega]
        exact Ev.now _
    · refine Ev.congr (f := fun k => impl_Power.l0 k x n 1) (fun k => by rw [if_neg h2]) ?_
      by_cases hn0 : 0 ≤ n
      · have h := impl_Power_l0 x (by omega) hu.2 n.toNat 0 (by omega)
        rw [show ((n.toNat : Nat) : Int) = n by omega, Nat.zero_add] at h
        have e : pw x n.toNat = pw x (min n 64).toNat := by
          by_cases h64 : n ≤ 64
          · rw [show (min n 64).toNat = n.toNat by omega]
          · rw [pw_31 x (by omega) n.toNat (by omega), pw_31 x (by omega) (min n 64).toNat (by omega)]
        rw [← e]
        exact h
      · rw [show (min n 64).toNat = 0 by omega]
        refine Ev.step (f := fun _ => some 1) (fun k => ?_) (Ev.now _)
        simp only [impl_Power.l0]
        rw [if_neg (by omega)]
theorem int_of_wf {a : Int} (h : (Lit.int .i64 a).wf = true) : -9223372036854775808 ≤ a ∧ a ≤ 9223372036854775807 := by
  simp [Lit.wf, IntKind.min, IntKind.max, IntKind.signed, IntKind.bits] at h
  omega

def sm (x : Int) : Nat → Int
  | 0 => 0
  | n + 1 => min (sm x n + pw x n) 2147483647
theorem sm_succ (x : Int) (n : Nat) : sm x (n + 1) = min (sm x n + pw x n) 2147483647 := rfl
theorem sm_range (x : Int) (h0 : 0 ≤ x) (n : Nat) : 0 ≤ sm x n ∧ sm x n ≤ 2147483647 := by
  induction n with
  | zero => simp [sm]
  | succ n ih =>
    have := pw_range x h0 n
    rw [sm_succ]
    omega
theorem sm_top (x : Int) (h0 : 0 ≤ x) (n j : Nat) (e : sm x n = 2147483647) : sm x (n + j) = 2147483647 := by
  induction j with
  | zero => exact e
  | succ j ih =>
    have := pw_range x h0 (n + j)
    show min (sm x (n + j) + pw x (n + j)) 2147483647 = _
    omega
theorem sm_31 (x : Int) (h : 2 ≤ x) (n : Nat) (hn : 32 ≤ n) : sm x n = 2147483647 := by
  have h1 := pw_31 x h 31 (by omega)
  have h2 := sm_range x (by omega) 31
  have h3 : sm x 32 = 2147483647 := by
    rw [sm_succ, h1]
    omega
  have := sm_top x (by omega) 32 (n - 32) h3
  rwa [show 32 + (n - 32) = n by omega] at this
theorem sm_zero (n : Nat) : sm 0 (n + 1) = 1 := by
  induction n with
  | zero => decide
  | succ n ih => rw [sm_succ, ih, pw_zero]; decide
theorem sm_one (n : Nat) : sm 1 n = min (n : Int) 2147483647 := by
  induction n with
  | zero => decide
  | succ n ih => rw [sm_succ, ih, pw_one]; omega
theorem upto_upto (a : Int) : upto (upto a 2147483647) 2147483647 = upto a 2147483647 := by unfold upto; omega
theorem powr_nat (a : Int) (j : Nat) (h : j ≤ 64) : powr a j = pw (upto a 2147483647) j := by
  unfold powr
  rw [show (min (j : Int) 64).toNat = j by omega]
theorem powr_nat2 (x : Int) (h : 2 ≤ x) (hx : x ≤ 2147483647) (j : Nat) : powr x j = pw x j := by
  unfold powr
  rw [show upto x 2147483647 = x by unfold upto; omega]
  by_cases h64 : j ≤ 64
  · rw [show (min (j : Int) 64).toNat = j by omega]
  · rw [pw_31 x h _ (by omega), pw_31 x h _ (by omega)]
theorem spec_Plus_f (a b : Int) : spec_Plus.f a b = some (bnd (wrap64 (bnd a + bnd b))) := by
  unfold spec_Plus.f
  simp only [spec_Bound_f, Option.bind_some]
/-- what the reference's loop ends in, where it stands at i with what it has. -/
def smEnd (a n : Int) (out : Int) : Int := if n > 64 then (if upto a 2 = 1 then upto n 2147483647 else out) else out
theorem spec_Sums_end (a n out : Int) (i : Int) (h : ¬ (i < n ∧ out < 2147483647 ∧ i < 64)) : Ev (fun k => spec_Sums.l0 k a n out i) (smEnd a n out) := by
  have hj : Ev (fun k => spec_Sums.j1 k a n out i false) (smEnd a n out) := by
    refine Ev.step (f := fun _ => some (smEnd a n out)) (fun k => ?_) (Ev.now _)
    simp only [spec_Sums.j1, spec_Upto_f, Option.bind_some]
    rw [if_neg (by simp)]
    unfold smEnd
    repeat' split
    all_goals rfl
  refine Ev.step (f := fun k => spec_Sums.j1 k a n out i false) (fun k => ?_) hj
  simp only [spec_Sums.l0]
  by_cases h1 : i < n
  · rw [if_pos h1]
    by_cases h2 : out < 2147483647
    · rw [if_pos h2, decide_eq_false (by omega)]
    · rw [if_neg h2]
  · rw [if_neg h1]
theorem spec_Sums_l0 (a n : Int) (hn : n ≤ 9223372036854775807) (d : Nat) : ∀ (j : Nat), j + d = (min n 64).toNat →
    Ev (fun k => spec_Sums.l0 k a n (sm (upto a 2147483647) j) j) (smEnd a n (sm (upto a 2147483647) (min n 64).toNat)) := by
  have hu := upto_max a
  induction d with
  | zero =>
    intro j hj
    rw [show (min n 64).toNat = j by omega]
    exact spec_Sums_end a n _ j (by omega)
  | succ d ih =>
    intro j hj
    have hs := sm_range (upto a 2147483647) hu.1 j
    have hp := pw_range (upto a 2147483647) hu.1 j
    by_cases h : sm (upto a 2147483647) j < 2147483647
    · refine Ev.step (f := fun k => spec_Sums.j1 k a n (sm (upto a 2147483647) j) j true) (fun k => ?_) ?_
      · simp only [spec_Sums.l0]
        rw [if_pos (by omega), if_pos h, decide_eq_true (by omega)]
      · refine Ev.step (f := fun k => (spec_Power.f k a j).bind fun t106 => ((spec_Plus.f (sm (upto a 2147483647) j) t106).bind fun t107 => (spec_Sums.l0 k a n t107 (wrap64 (j + 1))))) (fun k => ?_) ?_
        · simp only [spec_Sums.j1]
          rw [if_pos trivial]
        · refine Ev.bind (spec_Power_f a j (by omega)) ?_
          rw [powr_nat a j (by omega)]
          refine Ev.congr (f := fun k => spec_Sums.l0 k a n (sm (upto a 2147483647) (j + 1)) ((j + 1 : Nat) : Int)) (fun k => ?_) (ih (j + 1) (by omega))
          rw [spec_Plus_f]
          simp only [Option.bind_some]
          have e : bnd (wrap64 (bnd (sm (upto a 2147483647) j) + bnd (pw (upto a 2147483647) j))) = sm (upto a 2147483647) (j + 1) := by
            rw [sm_succ, wrap_small (by unfold bnd; omega) (by unfold bnd; omega)]
            unfold bnd
            omega
          rw [e, wrap_small (by omega) (by omega)]
          rfl
    · have e : sm (upto a 2147483647) j = 2147483647 := by omega
      have e2 : sm (upto a 2147483647) (min n 64).toNat = 2147483647 := by
        have := sm_top _ hu.1 j (d + 1) e
        rwa [hj] at this
      rw [e2, e]
      exact spec_Sums_end a n _ j (by omega)
def sumr (a n : Int) : Int := smEnd a n (sm (upto a 2147483647) (min n 64).toNat)
theorem spec_Sums_f (a n : Int) (hn : n ≤ 9223372036854775807) : Ev (fun k => spec_Sums.f k a n) (sumr a n) := by
  by_cases h : 0 ≤ n
  · exact spec_Sums_l0 a n hn (min n 64).toNat 0 (by omega)
  · have e : (min n 64).toNat = 0 := by omega
    unfold sumr
    rw [e]
    exact spec_Sums_end a n 0 0 (by omega)
theorem impl_Sums_l0 (x n : Int) (h2 : 2 ≤ x) (hx : x ≤ 2147483647) (hn : n ≤ 9223372036854775807) (d : Nat) : ∀ (j : Nat), j + d = n.toNat →
    Ev (fun k => impl_Sums.l0 k x n (sm x j) j) (sm x n.toNat) := by
  induction d with
  | zero =>
    intro j hj
    rw [show n.toNat = j by omega]
    refine Ev.step (f := fun _ => some (sm x j)) (fun k => ?_) (Ev.now _)
    simp only [impl_Sums.l0]
    rw [if_neg (by omega)]
  | succ d ih =>
    intro j hj
    have hs := sm_range x (by omega) j
    have hp := pw_range x (by omega) j
    by_cases h : sm x j < 2147483647
    · refine Ev.step (f := fun k => (impl_Power.f k x j).bind fun t112 => (impl_Sums.l0 k x n (mn (wrap64 (sm x j + t112)) 2147483647) (wrap64 (j + 1)))) (fun k => ?_) ?_
      · simp only [impl_Sums.l0]
        rw [if_pos (by omega), if_pos h]
      · refine Ev.bind (impl_Power_f x j (by omega)) ?_
        rw [powr_nat2 x h2 hx j]
        refine Ev.congr (f := fun k => impl_Sums.l0 k x n (sm x (j + 1)) ((j + 1 : Nat) : Int)) (fun k => ?_) (ih (j + 1) (by omega))
        rw [wrap_small (by omega) (by omega), wrap_small (by omega) (by omega), mn_eq, sm_succ]
        rfl
    · have e : sm x j = 2147483647 := by omega
      have e2 : sm x n.toNat = 2147483647 := by
        have := sm_top x (by omega) j (d + 1) e
        rwa [hj] at this
      rw [e2, e]
      refine Ev.step (f := fun _ => some 2147483647) (fun k => ?_) (Ev.now _)
      simp only [impl_Sums.l0]
      rw [if_pos (by omega), if_neg (by omega)]
theorem impl_Sums_f (a n : Int) (hn : n ≤ 9223372036854775807) : Ev (fun k => impl_Sums.f k a n) (sumr a n) := by
  unfold impl_Sums.f
  refine Ev.bind (g := fun _ => impl_Upto.f a 2147483647) (a := upto a 2147483647) ?_ ?_
  · rw [impl_Upto_f]; exact Ev.now _
  · have hu := upto_max a
    have hq : upto a 2 = min (upto a 2147483647) 2 := by unfold upto; omega
    unfold sumr smEnd
    rw [hq]
    generalize upto a 2147483647 = x at *
    by_cases hn0 : n ≤ 0
    · refine Ev.congr (f := fun _ => some 0) (fun k => by rw [if_pos hn0]) ?_
      rw [if_neg (by omega), show (min n 64).toNat = 0 by omega]
      exact Ev.now _
    · obtain ⟨q, hq1⟩ : ∃ q, (min n 64).toNat = q + 1 := ⟨(min n 64).toNat - 1, by omega⟩
      by_cases h0 : x = 0
      · subst h0
        refine Ev.congr (f := fun _ => some 1) (fun k => by rw [if_neg hn0, if_pos rfl]) ?_
        rw [hq1, sm_zero, if_neg (show ¬ (min (0 : Int) 2 = 1) by decide), ite_self]
        exact Ev.now _
      · by_cases h1 : x = 1
        · subst h1
          refine Ev.congr (f := fun _ => some (mn n 2147483647)) (fun k => by rw [if_neg hn0, if_neg (by omega), if_pos rfl]) ?_
          rw [mn_eq, sm_one, if_pos (show min (1 : Int) 2 = 1 by decide)]
          have e : (if n > 64 then upto n 2147483647 else min (((min n 64).toNat : Nat) : Int) 2147483647) = min n 2147483647 := by
            split
            · unfold upto; omega
            · omega
          rw [e]
          exact Ev.now _
        · refine Ev.congr (f := fun k => impl_Sums.l0 k x n 0 0) (fun k => by rw [if_neg hn0, if_neg h0, if_neg h1]) ?_
          have h := impl_Sums_l0 x n (by omega) hu.2 hn n.toNat 0 (by omega)
          have e : (if n > 64 then (if min x 2 = 1 then upto n 2147483647 else sm x (min n 64).toNat) else sm x (min n 64).toNat) = sm x n.toNat := by
            split
            · rw [if_neg (by omega), sm_31 x (by omega) _ (by omega), sm_31 x (by omega) _ (by omega)]
            · rw [show (min n 64).toNat = n.toNat by omega]
          rw [e]
          exact h

/-! effects that are not used up -/
def usable (l : List S63) (n : Nat) : Nat := ((l.take n).filter (fun x => decide (x.f8 ≠ 0))).length
theorem usable_le (l : List S63) (n : Nat) : usable l n ≤ l.length :=
  Nat.le_trans (List.length_filter_le _ _) (by simp; omega)
theorem usable_next (l : List S63) (i : Nat) (h : i < l.length) : usable l (i + 1) = usable l i + (if (l.getD i z63).f8 = 0 then 0 else 1) := by
  unfold usable
  rw [take_next l i h z63, List.filter_append, List.length_append]
  congr 1
  by_cases hc : (l.getD i z63).f8 = 0
  · rw [if_pos hc, List.filter_cons_of_neg (by simpa using hc)]
    rfl
  · rw [if_neg hc, List.filter_cons_of_pos (by simpa using hc)]
    rfl
theorem spec_Usable_f (l : List S63) (h : l.length ≤ 1048576) : Ev (fun k => spec_Usable.f k l) (usable l l.length : Int) := by
  have hl : Ev (fun k => spec_Usable.l0 k l (usable l 0 : Int) ((0 : Nat) : Int)) (usable l l.length : Int) := by
    refine Ev.down (P := fun i => Ev (fun k => spec_Usable.l0 k l (usable l i : Int) (i : Int)) (usable l l.length : Int)) l.length ?_ ?_
    · refine Ev.step (f := fun _ => some (usable l l.length : Int)) (fun k => ?_) (Ev.now _)
      simp only [spec_Usable.l0]
      rw [if_neg (by omega)]
    · intro i hi ih
      have hb := usable_le l i
      refine Ev.step (f := fun k => spec_Usable.l0 k l (usable l (i + 1) : Int) ((i + 1 : Nat) : Int)) (fun k => ?_) ih
      simp only [spec_Usable.l0, rd_T63, Int.toNat_natCast]
      rw [if_pos (by omega), if_pos (by omega), next_ i (by omega), next_ (usable l i) (by omega), usable_next l i hi]
      by_cases hc : (l.getD i z63).f8 = 0
      · simp only [hc, if_true, Nat.add_zero]
      · simp only [hc, if_false]
  exact Ev.congr (fun k => rfl) hl
theorem impl_Usable_f (l : List S63) (h : l.length ≤ 1048576) : Ev (fun k => impl_Usable.f k l) (usable l l.length : Int) := by
  have hl : Ev (fun k => impl_Usable.l0 k (usable l 0 : Int) l (l.length : Int) ((0 : Nat) : Int)) (usable l l.length : Int) := by
    refine Ev.down (P := fun i => Ev (fun k => impl_Usable.l0 k (usable l i : Int) l (l.length : Int) (i : Int)) (usable l l.length : Int)) l.length ?_ ?_
    · refine Ev.step (f := fun _ => some (usable l l.length : Int)) (fun k => ?_) (Ev.now _)
      simp only [impl_Usable.l0]
      rw [if_neg (by omega)]
    · intro i hi ih
      have hb := usable_le l i
      refine Ev.step (f := fun k => impl_Usable.l0 k (usable l (i + 1) : Int) l (l.length : Int) ((i + 1 : Nat) : Int)) (fun k => ?_) ih
      simp only [impl_Usable.l0, rd_T63, Int.toNat_natCast]
      rw [if_pos (by omega), if_pos (by omega), if_pos (by omega), next_ i (by omega), next_ (usable l i) (by omega), usable_next l i hi]
      by_cases hc : (l.getD i z63).f8 = 0
      · simp only [hc, if_true, Nat.add_zero]
      · simp only [hc, if_false]
  exact Ev.congr (fun k => rfl) hl
theorem usable_int (l : List S63) (h : l.length ≤ 1048576) : ((usable l l.length : Nat) : Int) ≤ 9223372036854775807 := by
  have := usable_le l l.length
  omega

theorem FnExactMostTurns : fnExactMostTurns.Pure := by
  intro l hl
  obtain ⟨r, hr, hb⟩ := szEffectS_f l hl.2 (fun x hx => (hl.1 x hx).2.2.2.2.2.2.1.2.2.2.2.2.2.2)
  refine Ev.rounds ?_
  unfold laws_FnExactMostTurns.f
  refine Ev.bind hr ?_
  by_cases hc : r < 0
  · exact Ev.congr (fun k => if_pos hc) (Ev.now _)
  refine Ev.congr (fun k => if_neg hc) ?_
  obtain ⟨hn, hs⟩ := hb (by omega)
  have hm : (l.map toEf).length ≤ 1048576 := by simpa using hn
  have hu := usable_int (l.map toEf) hm
  have h1 : Ev (fun k => spec_MostTurns.f k (l.map toEf)) _ := Ev.bind (spec_Usable_f _ hm) (Ev.bind (spec_Sums_f _ _ hu) (Ev.now _))
  have h2 : Ev (fun k => impl_MostTurns.f k (l.map toEf)) _ := Ev.bind (impl_Usable_f _ hm) (Ev.bind (impl_Sums_f _ _ hu) (Ev.now _))
  refine Ev.bind (toEffectS_f l hn hs) (Ev.bind h1 (Ev.bind (toEffectS_f l hn hs) (Ev.bind h2 ?_)))
  refine Ev.congr (fun k => if_pos rfl) (Ev.bind (toEffectS_f l hn hs) (Ev.bind (eqEffectS_f _ hm (effects_map l hs)) (Ev.congr (fun k => if_pos rfl) (Ev.now _))))

end Go.Proofs.Ytnbmifoebaoemaa.Pure
