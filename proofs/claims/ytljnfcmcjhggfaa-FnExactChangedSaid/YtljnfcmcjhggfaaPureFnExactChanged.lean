/- For every list of applications, the program's Changed and the reference's Changed return the same number, and the list is left as it was. Conditions: none. -/
import Derived.Test.YtljnfcmcjhggfaaRowFnExactChanged
set_option linter.unusedVariables false
set_option linter.unusedSimpArgs false
namespace Go.Proofs.Ytljnfcmcjhggfaa.Pure
open Go.RowKit Go.Proofs.Ytljnfcmcjhggfaa Go.Proofs.Ytljnfcmcjhggfaa.PFnExactChanged Go.Proofs.YtljnfcmcjhggfaaW.PrintWords Go.Proofs.YtljnfcmcjhggfaaW.PrintLast Go.Proofs.YtljnfcmcjhggfaaW.PrintMore Go.Proofs.Ytljnfcmcjhggfaa.Opening

/-! generic: loops from an index on, rows that are filled -/
theorem Ev.down {P : Nat → Prop} (n : Nat) (hend : P n) (hstep : ∀ i, i < n → P (i + 1) → P i) : P 0 := by
  have h : ∀ d i, i + d = n → P i := by
    intro d
    induction d with
    | zero => intro i hi; rw [show i = n by omega]; exact hend
    | succ d ih => intro i hi; exact hstep i (by omega) (ih (i + 1) (by omega))
  exact h n 0 (by omega)
theorem Ev.eq1 {α : Type} {a : Option α} {r : α} (h : a = some r) : Ev (fun _ => a) r := ⟨0, fun _ _ => h⟩
theorem w64_ {a : Int} (h0 : -9223372036854775808 ≤ a) (h1 : a ≤ 9223372036854775807) : wrap64 a = a := by unfold wrap64; omega
theorem next_ (i : Nat) (h : (i : Int) < 9223372036854775807) : wrap64 ((i : Int) + 1) = ((i + 1 : Nat) : Int) := by rw [w64_ (by omega) (by omega)]; rfl
theorem take_next {α : Type} (l : List α) (i : Nat) (h : i < l.length) (z : α) : l.take (i + 1) = l.take i ++ [l.getD i z] := by
  rw [List.take_succ_eq_append_getElem h, List.getD_eq_getElem?_getD, List.getElem?_eq_getElem h]
  rfl
theorem getD_mem {α : Type} (l : List α) (i : Nat) (h : i < l.length) (z : α) : l.getD i z ∈ l := by
  rw [List.getD_eq_getElem?_getD, List.getElem?_eq_getElem h]
  exact List.getElem_mem h
/-- a row that is filled up to i -/
def fill {α β : Type} (f : α → β) (z : β) (l : List α) (i : Nat) : List β := (l.take i).map f ++ List.replicate (l.length - i) z
theorem fill_zero {α β : Type} (f : α → β) (z : β) (l : List α) : fill f z l 0 = List.replicate l.length z := by simp [fill]
theorem fill_all {α β : Type} (f : α → β) (z : β) (l : List α) : fill f z l l.length = l.map f := by simp [fill]
theorem fill_length {α β : Type} (f : α → β) (z : β) (l : List α) (i : Nat) (h : i ≤ l.length) : (fill f z l i).length = l.length := by
  simp [fill]
  omega
theorem fill_next {α β : Type} (f : α → β) (z : β) (l : List α) (i : Nat) (h : i < l.length) (z' : α) : (fill f z l i).set i (f (l.getD i z')) = fill f z l (i + 1) := by
  have hl : ((l.take i).map f).length = i := by simp; omega
  unfold fill
  rw [List.set_append_right _ _ (by omega), hl, Nat.sub_self, take_next l i h z', List.map_append, List.append_assoc]
  congr 1
  obtain ⟨m, hm⟩ : ∃ m, l.length - i = m + 1 := ⟨l.length - i - 1, by omega⟩
  rw [hm, List.replicate_succ, List.set_cons_zero, show l.length - (i + 1) = m by omega]
  rfl

theorem mx_eq (a b : Int) : mx a b = max a b := by unfold mx; omega
theorem mn_eq (a b : Int) : mn a b = min a b := by unfold mn; omega
def upto (a b : Int) : Int := max 0 (min a b)
theorem spec_Upto_f (a b : Int) : spec_Upto.f a b = some (upto a b) := by
  unfold spec_Upto.f upto
  repeat' split
  all_goals (congr 1; omega)
theorem impl_Upto_f (a b : Int) : impl_Upto.f a b = some (upto a b) := by
  unfold impl_Upto.f upto
  rw [mx_eq, mn_eq]
theorem upto_max (k : Int) : 0 ≤ upto k 2147483647 ∧ upto k 2147483647 ≤ 2147483647 := by unfold upto; omega

/-! events: laws' into the program's, equal to themselves -/
def toEv (x : S25) : S28 := ⟨x.f0, x.f1, x.f2, x.f3, x.f4, x.f5, x.f6⟩
theorem toEventS_f (l : List S25) (h : l.length ≤ 5026338869833) : Ev (fun k => laws_toEventS.f k l) (l.map toEv) := by
  have hl : Ev (fun k => laws_toEventS.l0 k l (fill toEv z28 l 0) ((0 : Nat) : Int)) (l.map toEv) := by
    refine Ev.down (P := fun i => Ev (fun k => laws_toEventS.l0 k l (fill toEv z28 l i) (i : Int)) (l.map toEv)) l.length ?_ ?_
    · refine Ev.step (f := fun _ => some (l.map toEv)) (fun k => ?_) (Ev.now _)
      simp only [laws_toEventS.l0]
      rw [if_neg (by omega), fill_all]
    · intro i hi ih
      refine Ev.step (f := fun k => laws_toEventS.l0 k l (fill toEv z28 l (i + 1)) ((i + 1 : Nat) : Int)) (fun k => ?_) ih
      simp only [laws_toEventS.l0, laws_toEvent.f, Option.bind_some, rd_T25, Int.toNat_natCast]
      rw [if_pos (by omega), if_pos (by omega), fill_length _ _ _ _ (by omega), if_pos (by omega), next_ i (by omega), ← fill_next toEv z28 l i hi z25]
      rfl
  refine Ev.congr (fun k => ?_) hl
  unfold laws_toEventS.f
  rw [if_pos (by omega), Int.toNat_natCast, if_pos h, fill_zero]
  rfl
theorem eqEventS_f (l : List S28) (h : l.length ≤ 5026338869833) : Ev (fun k => laws_eqEventS.f k l l) true := by
  have hl : Ev (fun k => laws_eqEventS.l0 k l l ((0 : Nat) : Int)) true := by
    refine Ev.down (P := fun i => Ev (fun k => laws_eqEventS.l0 k l l (i : Int)) true) l.length ?_ ?_
    · refine Ev.step (f := fun _ => some true) (fun k => ?_) (Ev.now _)
      simp only [laws_eqEventS.l0]
      rw [if_neg (by omega)]
    · intro i hi ih
      refine Ev.step (f := fun k => laws_eqEventS.l0 k l l ((i + 1 : Nat) : Int)) (fun k => ?_) ih
      simp only [laws_eqEventS.l0, laws_eqEvent.f]
      rw [if_pos (by omega), if_pos (by omega), next_ i (by omega)]
      simp
      intro h; omega
  refine Ev.congr (fun k => ?_) hl
  unfold laws_eqEventS.f
  rw [if_pos rfl]
  rfl

theorem szEventS_f (l : List S25) (h : l.length ≤ 9223372036854775807) (a : Int) (h0 : 0 ≤ a) (h1 : a ≤ 1048576) : laws_szEventS.f l a = some (if a - l.length < 0 then -1 else a - l.length) := by
  unfold laws_szEventS.f
  rw [w64_ (by omega) (by omega)]
  split <;> rfl

/-! the damage of events -/
def hurtOf (e : S28) : Int := if e.f0 = 1 then upto e.f4 2147483647 else 0
def tot : List S28 → Int
  | [] => 0
  | e :: l => hurtOf e + tot l
theorem tot_append (a b : List S28) : tot (a ++ b) = tot a + tot b := by
  induction a with
  | nil => simp [tot]
  | cons x a ih => simp only [List.cons_append, tot, ih]; omega
theorem hurtOf_range (e : S28) : 0 ≤ hurtOf e ∧ hurtOf e ≤ 2147483647 := by
  have h := upto_max e.f4
  unfold hurtOf
  split <;> omega
theorem tot_range (l : List S28) : 0 ≤ tot l ∧ tot l ≤ 2147483647 * l.length := by
  induction l with
  | nil => simp [tot]
  | cons x l ih =>
    have := hurtOf_range x
    simp only [tot, List.length_cons]
    omega
theorem tot_next (l : List S28) (i : Nat) (h : i < l.length) : tot (l.take (i + 1)) = tot (l.take i) + hurtOf (l.getD i z28) := by
  rw [take_next l i h z28, tot_append]
  simp [tot]
theorem tot_take (l : List S28) (i : Nat) (hl : l.length ≤ 1048576) : 0 ≤ tot (l.take i) ∧ tot (l.take i) ≤ 2147483647 * 1048576 := by
  have := tot_range (l.take i)
  have h2 : (l.take i).length ≤ l.length := by simp; omega
  omega
theorem spec_Total_f (l : List S28) (hl : l.length ≤ 1048576) : Ev (fun k => spec_Total.f k l) (tot l) := by
  have h : Ev (fun k => spec_Total.l0 k l (tot (l.take 0)) ((0 : Nat) : Int)) (tot l) := by
    refine Ev.down (P := fun i => Ev (fun k => spec_Total.l0 k l (tot (l.take i)) (i : Int)) (tot l)) l.length ?_ ?_
    · refine Ev.step (f := fun _ => some (tot l)) (fun k => ?_) (Ev.now _)
      simp only [spec_Total.l0]
      rw [if_neg (by omega), List.take_length]
    · intro i hi ih
      refine Ev.step (f := fun k => spec_Total.l0 k l (tot (l.take (i + 1))) ((i + 1 : Nat) : Int)) (fun k => ?_) ih
      have h1 := tot_take l i hl
      have h2 := tot_next l i hi
      have h3 := hurtOf_range (l.getD i z28)
      simp only [spec_Total.l0, rd_T28, Int.toNat_natCast, spec_Upto_f, Option.bind_some]
      rw [if_pos (by omega), if_pos (by omega), next_ i (by omega)]
      unfold hurtOf at h2 h3
      split
      · rename_i c
        rw [if_pos c] at h2 h3
        rw [w64_ (by omega) (by omega), h2]
      · rename_i c
        rw [if_neg c] at h2
        rw [h2, Int.add_zero]
  exact h
theorem impl_Total_f (l : List S28) (hl : l.length ≤ 1048576) : Ev (fun k => impl_Total.f k l) (tot l) := by
  have h : Ev (fun k => impl_Total.l0 k (tot (l.take 0)) l (l.length : Int) ((0 : Nat) : Int)) (tot l) := by
    refine Ev.down (P := fun i => Ev (fun k => impl_Total.l0 k (tot (l.take i)) l (l.length : Int) (i : Int)) (tot l)) l.length ?_ ?_
    · refine Ev.step (f := fun _ => some (tot l)) (fun k => ?_) (Ev.now _)
      simp only [impl_Total.l0]
      rw [if_neg (by omega), List.take_length]
    · intro i hi ih
      refine Ev.step (f := fun k => impl_Total.l0 k (tot (l.take (i + 1))) l (l.length : Int) ((i + 1 : Nat) : Int)) (fun k => ?_) ih
      have h1 := tot_take l i hl
      have h2 := tot_next l i hi
      have h3 := hurtOf_range (l.getD i z28)
      simp only [impl_Total.l0, rd_T28, Int.toNat_natCast, impl_Upto_f, Option.bind_some]
      rw [if_pos (by omega), if_pos (by omega), if_pos (by omega), next_ i (by omega)]
      unfold hurtOf at h2 h3
      split
      · rename_i c
        rw [if_pos c] at h2 h3
        rw [w64_ (by omega) (by omega), h2]
      · rename_i c
        rw [if_neg c] at h2
        rw [h2, Int.add_zero]
  exact h

/-! applications ('turns') -/
def toTu (x : S67) : S71 := ⟨x.f0, x.f1, x.f2, x.f3, toEv x.f4, x.f5.map toEv, x.f6, x.f7⟩
theorem toTurnS_f (l : List S67) (h : l.length ≤ 1048576) (hx : ∀ x, x ∈ l → x.f5.length ≤ 1048576) : Ev (fun k => laws_toTurnS.f k l) (l.map toTu) := by
  have hl : Ev (fun k => laws_toTurnS.l0 k l (fill toTu z71 l 0) ((0 : Nat) : Int)) (l.map toTu) := by
    refine Ev.down (P := fun i => Ev (fun k => laws_toTurnS.l0 k l (fill toTu z71 l i) (i : Int)) (l.map toTu)) l.length ?_ ?_
    · refine Ev.step (f := fun _ => some (l.map toTu)) (fun k => ?_) (Ev.now _)
      simp only [laws_toTurnS.l0]
      rw [if_neg (by omega), fill_all]
    · intro i hi ih
      have hm := hx _ (getD_mem l i hi z67)
      have hf := fill_next toTu z71 l i hi z67
      refine Ev.step (f := fun k => (laws_toEventS.f k (l.getD i z67).f5).bind fun t => laws_toTurnS.l0 k l ((fill toTu z71 l i).set i ⟨(l.getD i z67).f0, (l.getD i z67).f1, (l.getD i z67).f2, (l.getD i z67).f3, toEv (l.getD i z67).f4, t, (l.getD i z67).f6, (l.getD i z67).f7⟩) ((i + 1 : Nat) : Int)) (fun k => ?_) (Ev.bind (toEventS_f _ (by omega)) ?_)
      · simp only [laws_toTurnS.l0, laws_toTurn.f, laws_toEvent.f, rd_T67, Int.toNat_natCast, Option.bind_some]
        rw [if_pos (by omega), if_pos (by omega), fill_length _ _ _ _ (by omega), next_ i (by omega), Option.bind_assoc]
        congr 1
        funext t
        simp only [Option.bind_some]
        rw [if_pos (by omega)]
        rfl
      · refine Ev.congr (fun k => ?_) ih
        rw [← hf]
        rfl
  refine Ev.congr (fun k => ?_) hl
  unfold laws_toTurnS.f
  rw [if_pos (by omega), Int.toNat_natCast, if_pos (by omega), fill_zero]
  rfl
theorem eqEvent_refl (a0 a1 a2 a3 a4 a5 : Int) (a6 : Bool) : laws_eqEvent.f a0 a1 a2 a3 a4 a5 a6 a0 a1 a2 a3 a4 a5 a6 = some true := by
  simp [laws_eqEvent.f]
theorem eqTurnS_f (l : List S71) (h : l.length ≤ 1048576) (hx : ∀ x, x ∈ l → x.f5.length ≤ 1048576) : Ev (fun k => laws_eqTurnS.f k l l) true := by
  have hl : Ev (fun k => laws_eqTurnS.l0 k l l ((0 : Nat) : Int)) true := by
    refine Ev.down (P := fun i => Ev (fun k => laws_eqTurnS.l0 k l l (i : Int)) true) l.length ?_ ?_
    · refine Ev.step (f := fun _ => some true) (fun k => ?_) (Ev.now _)
      simp only [laws_eqTurnS.l0]
      rw [if_neg (by omega)]
    · intro i hi ih
      have hm := hx _ (getD_mem l i hi z71)
      refine Ev.step (f := fun k => (laws_eqEventS.f k (l.getD i z71).f5 (l.getD i z71).f5).bind fun t => if t = true then laws_eqTurnS.l0 k l l ((i + 1 : Nat) : Int) else some false) (fun k => ?_) (Ev.bind (eqEventS_f _ (by omega)) ?_)
      · simp only [laws_eqTurnS.l0, laws_eqTurn.f, eqEvent_refl, rd_T71, Int.toNat_natCast, Option.bind_some, if_true]
        rw [if_pos (by omega), if_pos (by omega), if_pos (by omega), next_ i (by omega), Option.bind_assoc]
        congr 1
        funext t
        cases t <;> simp
      · exact Ev.congr (fun k => if_pos rfl) ih
  refine Ev.congr (fun k => ?_) hl
  unfold laws_eqTurnS.f
  rw [if_pos rfl]
  rfl
theorem szTurnS_l0 (l : List S67) (h : l.length ≤ 1048576) (hx : ∀ x, x ∈ l → x.f5.length ≤ 9223372036854775807) (d : Nat) : ∀ (i : Nat) (a : Int), i + d = l.length → 0 ≤ a → a ≤ 1048576 →
    ∃ r, Ev (fun k => laws_szTurnS.l0 k l a (i : Int)) r ∧ (0 ≤ r → ∀ x, x ∈ l.drop i → x.f5.length ≤ 1048576) := by
  induction d with
  | zero =>
    intro i a hi h0 h1
    refine ⟨a, Ev.step (f := fun _ => some a) (fun k => ?_) (Ev.now _), fun _ x hx => ?_⟩
    · simp only [laws_szTurnS.l0]
      rw [if_neg (by omega)]
    · rw [List.drop_eq_nil_of_le (by omega)] at hx
      simp at hx
  | succ d ih =>
    intro i a hi h0 h1
    have hm := hx _ (getD_mem l i (by omega) z67)
    have hstep : ∀ k, laws_szTurnS.l0 (k + 1) l a (i : Int) = (if a - ((l.getD i z67).f5.length : Int) < 0 then some (-1) else laws_szTurnS.l0 k l (a - ((l.getD i z67).f5.length : Int)) ((i + 1 : Nat) : Int)) := by
      intro k
      simp only [laws_szTurnS.l0, laws_szTurn.f, rd_T67, Int.toNat_natCast]
      rw [if_pos (by omega), if_pos (by omega), szEventS_f _ hm a h0 h1, next_ i (by omega)]
      by_cases hc : a - ((l.getD i z67).f5.length : Int) < 0
      · rw [if_pos hc, if_pos hc]
        simp
      · rw [if_neg hc, if_neg hc]
        simp only [Option.bind_some]
        rw [if_neg hc]
        simp only [Option.bind_some]
        rw [if_neg hc]
    by_cases hc : a - ((l.getD i z67).f5.length : Int) < 0
    · refine ⟨-1, Ev.step (f := fun _ => some (-1)) (fun k => ?_) (Ev.now _), fun h => absurd h (by omega)⟩
      rw [hstep, if_pos hc]
    · obtain ⟨r, hr, hb⟩ := ih (i + 1) (a - ((l.getD i z67).f5.length : Int)) (by omega) (by omega) (by omega)
      refine ⟨r, Ev.step (f := fun k => laws_szTurnS.l0 k l (a - ((l.getD i z67).f5.length : Int)) ((i + 1 : Nat) : Int)) (fun k => ?_) hr, fun h0' x hx' => ?_⟩
      · rw [hstep, if_neg hc]
      · rw [List.drop_eq_getElem_cons (by omega), List.mem_cons] at hx'
        rcases hx' with rfl | hx'
        · have e : l[i]'(by omega) = l.getD i z67 := by rw [List.getD_eq_getElem?_getD, List.getElem?_eq_getElem (by omega)]; rfl
          rw [e]
          omega
        · exact hb h0' x hx'
theorem szTurnS_f (l : List S67) (h : l.length ≤ 9223372036854775807) (hx : ∀ x, x ∈ l → x.f5.length ≤ 9223372036854775807) :
    ∃ r, Ev (fun k => laws_szTurnS.f k l 1048576) r ∧ (0 ≤ r → l.length ≤ 1048576 ∧ ∀ x, x ∈ l → x.f5.length ≤ 1048576) := by
  unfold laws_szTurnS.f
  rw [w64_ (by omega) (by omega)]
  by_cases hc : (1048576 : Int) - l.length < 0
  · exact ⟨-1, Ev.congr (fun k => if_pos hc) (Ev.now _), fun h => absurd h (by omega)⟩
  · obtain ⟨r, hr, hb⟩ := szTurnS_l0 l (by omega) hx l.length 0 (1048576 - l.length) (by omega) (by omega) (by omega)
    exact ⟨r, Ev.congr (fun k => if_neg hc) hr, fun h0 => ⟨by omega, fun x hx => hb h0 x (by simpa using hx)⟩⟩
theorem turns_map (l : List S67) (hx : ∀ x, x ∈ l → x.f5.length ≤ 1048576) : ∀ x, x ∈ l.map toTu → x.f5.length ≤ 1048576 := by
  intro x h
  obtain ⟨y, hy, rfl⟩ := List.mem_map.1 h
  simp only [toTu, List.length_map]
  exact hx y hy

/-- by how much one application changes the damage, as both compute it -/
def chgOf (x : S71) : Int := wrap64 (wrap64 (tot x.f5 + upto x.f6 2147483647) - tot [x.f4])
def chgTo : List S71 → Int → Int
  | [], a => a
  | x :: r, a => chgTo r (wrap64 (a + chgOf x))
theorem chg_next (l : List S71) (i : Nat) (h : i < l.length) (a : Int) : chgTo (l.drop i) a = chgTo (l.drop (i + 1)) (wrap64 (a + chgOf (l.getD i z71))) := by
  rw [List.drop_eq_getElem_cons h]
  have e : l[i]'h = l.getD i z71 := by rw [List.getD_eq_getElem?_getD, List.getElem?_eq_getElem h]; rfl
  rw [e]
  rfl
theorem spec_ChangedBy_f (x : S71) (h : x.f5.length ≤ 1048576) : Ev (fun k => spec_ChangedBy.f k x.f0 x.f1 x.f2 x.f3 x.f4.f0 x.f4.f1 x.f4.f2 x.f4.f3 x.f4.f4 x.f4.f5 x.f4.f6 x.f5 x.f6 x.f7) (chgOf x) := by
  unfold spec_ChangedBy.f
  refine Ev.bind (spec_Total_f _ h) ?_
  rw [spec_Upto_f]
  simp only [Option.bind_some]
  exact Ev.bind (spec_Total_f [x.f4] (by simp)) (Ev.now _)
theorem impl_ChangedBy_f (x : S71) (h : x.f5.length ≤ 1048576) : Ev (fun k => impl_ChangedBy.f k x.f0 x.f1 x.f2 x.f3 x.f4.f0 x.f4.f1 x.f4.f2 x.f4.f3 x.f4.f4 x.f4.f5 x.f4.f6 x.f5 x.f6 x.f7) (chgOf x) := by
  unfold impl_ChangedBy.f
  refine Ev.bind (impl_Total_f _ h) ?_
  rw [impl_Upto_f]
  simp only [Option.bind_some]
  exact Ev.bind (impl_Total_f [x.f4] (by simp)) (Ev.now _)
theorem spec_Changed_f (l : List S71) (h : l.length ≤ 1048576) (hx : ∀ x, x ∈ l → x.f5.length ≤ 1048576) : Ev (fun k => spec_Changed.f k l) (chgTo l 0) := by
  have hl : ∀ a, Ev (fun k => spec_Changed.l0 k l a ((0 : Nat) : Int)) (chgTo (l.drop 0) a) := by
    refine Ev.down (P := fun i => ∀ a, Ev (fun k => spec_Changed.l0 k l a (i : Int)) (chgTo (l.drop i) a)) l.length ?_ ?_
    · intro a
      refine Ev.step (f := fun _ => some a) (fun k => ?_) ?_
      · simp only [spec_Changed.l0]
        rw [if_neg (by omega)]
      · rw [List.drop_length]; exact Ev.now _
    · intro i hi ih a
      have hm := hx _ (getD_mem l i hi z71)
      rw [chg_next l i hi a]
      refine Ev.step (fun k => ?_) (Ev.bind (f := fun k t => spec_Changed.l0 k l (wrap64 (a + t)) ((i + 1 : Nat) : Int)) (spec_ChangedBy_f _ hm) (ih _))
      simp only [spec_Changed.l0, rd_T71, Int.toNat_natCast]
      rw [if_pos (by omega), if_pos (by omega), next_ i (by omega)]
  exact hl 0
theorem impl_Changed_f (l : List S71) (h : l.length ≤ 1048576) (hx : ∀ x, x ∈ l → x.f5.length ≤ 1048576) : Ev (fun k => impl_Changed.f k l) (chgTo l 0) := by
  have hl : ∀ a, Ev (fun k => impl_Changed.l0 k a l (l.length : Int) ((0 : Nat) : Int)) (chgTo (l.drop 0) a) := by
    refine Ev.down (P := fun i => ∀ a, Ev (fun k => impl_Changed.l0 k a l (l.length : Int) (i : Int)) (chgTo (l.drop i) a)) l.length ?_ ?_
    · intro a
      refine Ev.step (f := fun _ => some a) (fun k => ?_) ?_
      · simp only [impl_Changed.l0]
        rw [if_neg (by omega)]
      · rw [List.drop_length]; exact Ev.now _
    · intro i hi ih a
      have hm := hx _ (getD_mem l i hi z71)
      rw [chg_next l i hi a]
      refine Ev.step (fun k => ?_) (Ev.bind (f := fun k t => impl_Changed.l0 k (wrap64 (a + t)) l (l.length : Int) ((i + 1 : Nat) : Int)) (impl_ChangedBy_f _ hm) (ih _))
      simp only [impl_Changed.l0, rd_T71, Int.toNat_natCast]
      rw [if_pos (by omega), if_pos (by omega), if_pos (by omega), next_ i (by omega)]
  exact hl 0

theorem FnExactChanged : fnExactChanged.Pure := by
  intro l hok
  refine Ev.rounds ?_
  unfold laws_FnExactChanged.f
  obtain ⟨r, hr, hb⟩ := szTurnS_f l hok.2 (fun x hx => (hok.1 x hx).2.2.2.2.2.1.2)
  refine Ev.bind hr ?_
  by_cases hc : r < 0
  · exact Ev.congr (fun k => if_pos hc) (Ev.now _)
  · obtain ⟨b1, b2⟩ := hb (by omega)
    have h1 := toTurnS_f l b1 b2
    have h2 := spec_Changed_f (l.map toTu) (by rw [List.length_map]; exact b1) (turns_map l b2)
    have h3 := impl_Changed_f (l.map toTu) (by rw [List.length_map]; exact b1) (turns_map l b2)
    have h4 := eqTurnS_f (l.map toTu) (by rw [List.length_map]; exact b1) (turns_map l b2)
    refine Ev.congr (fun k => if_neg hc) (Ev.bind h1 (Ev.bind h2 (Ev.bind h1 (Ev.bind h3 ?_))))
    refine Ev.congr (fun k => if_pos rfl) (Ev.bind h1 (Ev.bind h4 ?_))
    exact Ev.congr (fun k => if_pos rfl) (Ev.now _)

end Go.Proofs.Ytljnfcmcjhggfaa.Pure
