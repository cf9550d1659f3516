/- For every application, the program's ChangedBy and the reference's ChangedBy return the same number, and the application is left as it was. Conditions: none. -/
import Derived.Test.YtljnfcmcjhggfaaRowFnExactChangedBy
set_option linter.unusedVariables false
set_option linter.unusedSimpArgs false
namespace Go.Proofs.Ytljnfcmcjhggfaa.Pure
open Go.RowKit Go.Proofs.Ytljnfcmcjhggfaa Go.Proofs.Ytljnfcmcjhggfaa.PFnExactChangedBy Go.Proofs.YtljnfcmcjhggfaaW.PrintWords Go.Proofs.YtljnfcmcjhggfaaW.PrintLast Go.Proofs.YtljnfcmcjhggfaaW.PrintMore Go.Proofs.Ytljnfcmcjhggfaa.Opening

/-! generic: loops from an index on, rows that are filled -/
theorem Ev.down {P : Nat → Prop} (n : Nat) (hend : P n) (hstep : ∀ i, i < n → P (i + 1) → P i) : P 0 := by
  have h : ∀ d i, i + d = n → P i := by
    intro d
    induction d with
    | zero => intro i hi; rw [show i = n by omega]; exact hend
    | succ d ih => intro i hi; exact hstep i (by omega) (ih (i + 1) (by omega))
  exact h n 0 (by omega)
theorem Ev.eq1 {α : Type} {a : Option α} {r : α} (h : a = some r) : Ev (fun _ => a) r := ⟨0, fun _ _ => h⟩
theorem w64_ {a : Int} (h0 : -9223372036854775808 ≤ a) (h1 : a ≤ 9223372036854775807) : wrap64 a = a := by unfold wrap64; omega
theorem next_ (i : Nat) (h : (i : Int) < 9223372036854775807) : wrap64 ((i : Int) + 1) = ((i + 1 : Nat) : Int) := by rw [w64_ (by omega) (by omega)]; rfl
theorem take_next {α : Type} (l : List α) (i : Nat) (h : i < l.length) (z : α) : l.take (i + 1) = l.take i ++ [l.getD i z] := by
  rw [List.take_succ_eq_append_getElem h, List.getD_eq_getElem?_getD, List.getElem?_eq_getElem h]
  rfl
theorem getD_mem {α : Type} (l : List α) (i : Nat) (h : i < l.length) (z : α) : l.getD i z ∈ l := by
  rw [List.getD_eq_getElem?_getD, List.getElem?_eq_getElem h]
  exact List.getElem_mem h
/-- a row that is filled up to i -/
def fill {α β : Type} (f : α → β) (z : β) (l : List α) (i : Nat) : List β := (l.take i).map f ++ List.replicate (l.length - i) z
theorem fill_zero {α β : Type} (f : α → β) (z : β) (l : List α) : fill f z l 0 = List.replicate l.length z := by simp [fill]
theorem fill_all {α β : Type} (f : α → β) (z : β) (l : List α) : fill f z l l.length = l.map f := by simp [fill]
theorem fill_length {α β : Type} (f : α → β) (z : β) (l : List α) (i : Nat) (h : i ≤ l.length) : (fill f z l i).length = l.length := by
  simp [fill]
  omega
theorem fill_next {α β : Type} (f : α → β) (z : β) (l : List α) (i : Nat) (h : i < l.length) (z' : α) : (fill f z l i).set i (f (l.getD i z')) = fill f z l (i + 1) := by
  have hl : ((l.take i).map f).length = i := by simp; omega
  unfold fill
  rw [List.set_append_right _ _ (by omega), hl, Nat.sub_self, take_next l i h z', List.map_append, List.append_assoc]
  congr 1
  obtain ⟨m, hm⟩ : ∃ m, l.length - i = m + 1 := ⟨l.length - i - 1, by omega⟩
  rw [hm, List.replicate_succ, List.set_cons_zero, show l.length - (i + 1) = m by omega]
  rfl

theorem mx_eq (a b : Int) : mx a b = max a b := by unfold mx; omega
theorem mn_eq (a b : Int) : mn a b = min a b := by unfold mn; omega
def upto (a b : Int) : Int := max 0 (min a b)
theorem spec_Upto_f (a b : Int) : spec_Upto.f a b = some (upto a b) := by
  unfold spec_Upto.f upto
  repeat' split
  all_goals (congr 1; omega)
theorem impl_Upto_f (a b : Int) : impl_Upto.f a b = some (upto a b) := by
  unfold impl_Upto.f upto
  rw [mx_eq, mn_eq]
theorem upto_max (k : Int) : 0 ≤ upto k 2147483647 ∧ upto k 2147483647 ≤ 2147483647 := by unfold upto; omega

/-! events: laws' into the program's, equal to themselves -/
def toEv (x : S25) : S28 := ⟨x.f0, x.f1, x.f2, x.f3, x.f4, x.f5, x.f6⟩
theorem toEventS_f (l : List S25) (h : l.length ≤ 5026338869833) : Ev (fun k => laws_toEventS.f k l) (l.map toEv) := by
  have hl : Ev (fun k => laws_toEventS.l0 k l (fill toEv z28 l 0) ((0 : Nat) : Int)) (l.map toEv) := by
    refine Ev.down (P := fun i => Ev (fun k => laws_toEventS.l0 k l (fill toEv z28 l i) (i : Int)) (l.map toEv)) l.length ?_ ?_
    · refine Ev.step (f := fun _ => some (l.map toEv)) (fun k => ?_) (Ev.now _)
      simp only [laws_toEventS.l0]
      rw [if_neg (by omega), fill_all]
    · intro i hi ih
      refine Ev.step (f := fun k => laws_toEventS.l0 k l (fill toEv z28 l (i + 1)) ((i + 1 : Nat) : Int)) (fun k => ?_) ih
      simp only [laws_toEventS.l0, laws_toEvent.f, Option.bind_some, rd_T25, Int.toNat_natCast]
      rw [if_pos (by omega), if_pos (by omega), fill_length _ _ _ _ (by omega), if_pos (by omega), next_ i (by omega), ← fill_next toEv z28 l i hi z25]
      rfl
  refine Ev.congr (fun k => ?_) hl
  unfold laws_toEventS.f
  rw [if_pos (by omega), Int.toNat_natCast, if_pos h, fill_zero]
  rfl
theorem eqEventS_f (l : List S28) (h : l.length ≤ 5026338869833) : Ev (fun k => laws_eqEventS.f k l l) true := by
  have hl : Ev (fun k => laws_eqEventS.l0 k l l ((0 : Nat) : Int)) true := by
    refine Ev.down (P := fun i => Ev (fun k => laws_eqEventS.l0 k l l (i : Int)) true) l.length ?_ ?_
    · refine Ev.step (f := fun _ => some true) (fun k => ?_) (Ev.now _)
      simp only [laws_eqEventS.l0]
      rw [if_neg (by omega)]
    · intro i hi ih
      refine Ev.step (f := fun k => laws_eqEventS.l0 k l l ((i + 1 : Nat) : Int)) (fun k => ?_) ih
      simp only [laws_eqEventS.l0, laws_eqEvent.f]
      rw [if_pos (by omega), if_pos (by omega), next_ i (by omega)]
      simp
      intro h; omega
  refine Ev.congr (fun k => ?_) hl
  unfold laws_eqEventS.f
  rw [if_pos rfl]
  rfl

theorem szEventS_f (l : List S25) (h : l.length ≤ 9223372036854775807) (a : Int) (h0 : 0 ≤ a) (h1 : a ≤ 1048576) : laws_szEventS.f l a = some (if a - l.length < 0 then -1 else a - l.length) := by
  unfold laws_szEventS.f
  rw [w64_ (by omega) (by omega)]
  split <;> rfl

/-! the damage of events -/
def hurtOf (e : S28) : Int := if e.f0 = 1 then upto e.f4 2147483647 else 0
def tot : List S28 → Int
  | [] => 0
  | e :: l => hurtOf e + tot l
theorem tot_append (a b : List S28) : tot (a ++ b) = tot a + tot b := by
  induction a with
  | nil => simp [tot]
  | cons x a ih => simp only [List.cons_append, tot, ih]; omega
theorem hurtOf_range (e : S28) : 0 ≤ hurtOf e ∧ hurtOf e ≤ 2147483647 := by
  have h := upto_max e.f4
  unfold hurtOf
  split <;> omega
theorem tot_range (l : List S28) : 0 ≤ tot l ∧ tot l ≤ 2147483647 * l.length := by
  induction l with
  | nil => simp [tot]
  | cons x l ih =>
    have := hurtOf_range x
    simp only [tot, List.length_cons]
    omega
theorem tot_next (l : List S28) (i : Nat) (h : i < l.length) : tot (l.take (i + 1)) = tot (l.take i) + hurtOf (l.getD i z28) := by
  rw [take_next l i h z28, tot_append]
  simp [tot]
theorem tot_take (l : List S28) (i : Nat) (hl : l.length ≤ 1048576) : 0 ≤ tot (l.take i) ∧ tot (l.take i) ≤ 2147483647 * 1048576 := by
  have := tot_range (l.take i)
  have h2 : (l.take i).length ≤ l.length := by simp; omega
  omega
theorem spec_Total_f (l : List S28) (hl : l.length ≤ 1048576) : Ev (fun k => spec_Total.f k l) (tot l) := by
  have h : Ev (fun k => spec_Total.l0 k l (tot (l.take 0)) ((0 : Nat) : Int)) (tot l) := by
    refine Ev.down (P := fun i => Ev (fun k => spec_Total.l0 k l (tot (l.take i)) (i : Int)) (tot l)) l.length ?_ ?_
    · refine Ev.step (f := fun _ => some (tot l)) (fun k => ?_) (Ev.now _)
      simp only [spec_Total.l0]
      rw [if_neg (by omega), List.take_length]
    · intro i hi ih
      refine Ev.step (f := fun k => spec_Total.l0 k l (tot (l.take (i + 1))) ((i + 1 : Nat) : Int)) (fun k => ?_) ih
      have h1 := tot_take l i hl
      have h2 := tot_next l i hi
      have h3 := hurtOf_range (l.getD i z28)
      simp only [spec_Total.l0, rd_T28, Int.toNat_natCast, spec_Upto_f, Option.bind_some]
      rw [if_pos (by omega), if_pos (by omega), next_ i (by omega)]
      unfold hurtOf at h2 h3
      split
      · rename_i c
        rw [if_pos c] at h2 h3
        rw [w64_ (by omega) (by omega), h2]
      · rename_i c
        rw [if_neg c] at h2
        rw [h2, Int.add_zero]
  exact h
theorem impl_Total_f (l : List S28) (hl : l.length ≤ 1048576) : Ev (fun k => impl_Total.f k l) (tot l) := by
  have h : Ev (fun k => impl_Total.l0 k (tot (l.take 0)) l (l.length : Int) ((0 : Nat) : Int)) (tot l) := by
    refine Ev.down (P := fun i => Ev (fun k => impl_Total.l0 k (tot (l.take i)) l (l.length : Int) (i : Int)) (tot l)) l.length ?_ ?_
    · refine Ev.step (f := fun _ => some (tot l)) (fun k => ?_) (Ev.now _)
      simp only [impl_Total.l0]
      rw [if_neg (by omega), List.take_length]
    · intro i hi ih
      refine Ev.step (f := fun k => impl_Total.l0 k (tot (l.take (i + 1))) l (l.length : Int) ((i + 1 : Nat) : Int)) (fun k => ?_) ih
      have h1 := tot_take l i hl
      have h2 := tot_next l i hi
      have h3 := hurtOf_range (l.getD i z28)
      simp only [impl_Total.l0, rd_T28, Int.toNat_natCast, impl_Upto_f, Option.bind_some]
      rw [if_pos (by omega), if_pos (by omega), if_pos (by omega), next_ i (by omega)]
      unfold hurtOf at h2 h3
      split
      · rename_i c
        rw [if_pos c] at h2 h3
        rw [w64_ (by omega) (by omega), h2]
      · rename_i c
        rw [if_neg c] at h2
        rw [h2, Int.add_zero]
  exact h

theorem eqEvent_refl (a0 a1 a2 a3 a4 a5 : Int) (a6 : Bool) : laws_eqEvent.f a0 a1 a2 a3 a4 a5 a6 a0 a1 a2 a3 a4 a5 a6 = some true := by
  simp [laws_eqEvent.f]
theorem FnExactChangedBy : fnExactChangedBy.Pure := by
  intro a0 a1 a2 a3 a4 a5 a6 a7 a8 a9 a10 l a12 a13 _ _ _ _ _ _ _ _ _ _ hok _ _
  refine Ev.rounds ?_
  unfold laws_FnExactChangedBy.f laws_szTurn.f
  rw [szEventS_f l hok.2 1048576 (by omega) (by omega)]
  simp only [Option.bind_some]
  by_cases hb : (1048576 : Int) - l.length < 0
  · refine Ev.congr (f := fun _ => some true) (fun k => ?_) (Ev.now _)
    rw [if_pos hb, if_pos (by omega)]
    simp
  · have hl : l.length ≤ 1048576 := by omega
    have h1 := toEventS_f l (by omega)
    have h4 := eqEventS_f (l.map toEv) (by rw [List.length_map]; omega)
    have ht : Ev (fun k => laws_toTurn.f k a0 a1 a2 a3 a4 a5 a6 a7 a8 a9 a10 l a12 a13) (a0, a1, a2, a3, a4, a5, a6, a7, a8, a9, a10, l.map toEv, a12, a13) := by
      unfold laws_toTurn.f laws_toEvent.f
      simp only [Option.bind_some]
      exact Ev.bind h1 (Ev.now _)
    have hs : Ev (fun k => spec_ChangedBy.f k a0 a1 a2 a3 a4 a5 a6 a7 a8 a9 a10 (l.map toEv) a12 a13) (wrap64 (wrap64 (tot (l.map toEv) + upto a12 2147483647) - tot [⟨a4, a5, a6, a7, a8, a9, a10⟩])) := by
      unfold spec_ChangedBy.f
      refine Ev.bind (spec_Total_f _ (by rw [List.length_map]; exact hl)) ?_
      rw [spec_Upto_f]
      simp only [Option.bind_some]
      exact Ev.bind (spec_Total_f _ (by simp)) (Ev.now _)
    have hi : Ev (fun k => impl_ChangedBy.f k a0 a1 a2 a3 a4 a5 a6 a7 a8 a9 a10 (l.map toEv) a12 a13) (wrap64 (wrap64 (tot (l.map toEv) + upto a12 2147483647) - tot [⟨a4, a5, a6, a7, a8, a9, a10⟩])) := by
      unfold impl_ChangedBy.f
      refine Ev.bind (impl_Total_f _ (by rw [List.length_map]; exact hl)) ?_
      rw [impl_Upto_f]
      simp only [Option.bind_some]
      exact Ev.bind (impl_Total_f _ (by simp)) (Ev.now _)
    have he : Ev (fun k => laws_eqTurn.f k a0 a1 a2 a3 a4 a5 a6 a7 a8 a9 a10 (l.map toEv) a12 a13 a0 a1 a2 a3 a4 a5 a6 a7 a8 a9 a10 (l.map toEv) a12 a13) true := by
      unfold laws_eqTurn.f
      simp only [eqEvent_refl, Option.bind_some, if_true]
      exact Ev.bind h4 (Ev.congr (fun k => if_pos rfl) (Ev.now _))
    rw [if_neg hb]
    simp only [if_neg hb, Option.bind_some]
    refine Ev.bind ht (Ev.bind hs (Ev.bind ht (Ev.bind hi ?_)))
    refine Ev.congr (fun k => if_pos rfl) (Ev.bind ht (Ev.bind he ?_))
    exact Ev.congr (fun k => if_pos rfl) (Ev.now _)

end Go.Proofs.Ytljnfcmcjhggfaa.Pure
