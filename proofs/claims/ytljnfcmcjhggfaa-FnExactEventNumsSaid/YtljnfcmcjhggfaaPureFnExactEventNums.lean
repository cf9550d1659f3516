/- For every event, the program's EventNums and the reference's EventNums return the same numbers, in new memory. Conditions: none. -/
import Derived.Test.YtljnfcmcjhggfaaRowFnExactEventNums
set_option linter.unusedVariables false
set_option linter.unusedSimpArgs false
namespace Go.Proofs.Ytljnfcmcjhggfaa.Pure
open Go.RowKit Go.Proofs.Ytljnfcmcjhggfaa Go.Proofs.Ytljnfcmcjhggfaa.PFnExactEventNums Go.Proofs.YtljnfcmcjhggfaaW.PrintWords Go.Proofs.YtljnfcmcjhggfaaW.PrintLast Go.Proofs.YtljnfcmcjhggfaaW.PrintMore Go.Proofs.Ytljnfcmcjhggfaa.Opening

/-! generic: loops from an index on, rows that are filled -/
theorem Ev.down {P : Nat → Prop} (n : Nat) (hend : P n) (hstep : ∀ i, i < n → P (i + 1) → P i) : P 0 := by
  have h : ∀ d i, i + d = n → P i := by
    intro d
    induction d with
    | zero => intro i hi; rw [show i = n by omega]; exact hend
    | succ d ih => intro i hi; exact hstep i (by omega) (ih (i + 1) (by omega))
  exact h n 0 (by omega)
theorem Ev.eq1 {α : Type} {a : Option α} {r : α} (h : a = some r) : Ev (fun _ => a) r := ⟨0, fun _ _ => h⟩
theorem w64_ {a : Int} (h0 : -9223372036854775808 ≤ a) (h1 : a ≤ 9223372036854775807) : wrap64 a = a := by unfold wrap64; omega
theorem next_ (i : Nat) (h : (i : Int) < 9223372036854775807) : wrap64 ((i : Int) + 1) = ((i + 1 : Nat) : Int) := by rw [w64_ (by omega) (by omega)]; rfl
theorem take_next {α : Type} (l : List α) (i : Nat) (h : i < l.length) (z : α) : l.take (i + 1) = l.take i ++ [l.getD i z] := by
  rw [List.take_succ_eq_append_getElem h, List.getD_eq_getElem?_getD, List.getElem?_eq_getElem h]
  rfl
theorem getD_mem {α : Type} (l : List α) (i : Nat) (h : i < l.length) (z : α) : l.getD i z ∈ l := by
  rw [List.getD_eq_getElem?_getD, List.getElem?_eq_getElem h]
  exact List.getElem_mem h
/-- a row that is filled up to i -/
def fill {α β : Type} (f : α → β) (z : β) (l : List α) (i : Nat) : List β := (l.take i).map f ++ List.replicate (l.length - i) z
theorem fill_zero {α β : Type} (f : α → β) (z : β) (l : List α) : fill f z l 0 = List.replicate l.length z := by simp [fill]
theorem fill_all {α β : Type} (f : α → β) (z : β) (l : List α) : fill f z l l.length = l.map f := by simp [fill]
theorem fill_length {α β : Type} (f : α → β) (z : β) (l : List α) (i : Nat) (h : i ≤ l.length) : (fill f z l i).length = l.length := by
  simp [fill]
  omega
theorem fill_next {α β : Type} (f : α → β) (z : β) (l : List α) (i : Nat) (h : i < l.length) (z' : α) : (fill f z l i).set i (f (l.getD i z')) = fill f z l (i + 1) := by
  have hl : ((l.take i).map f).length = i := by simp; omega
  unfold fill
  rw [List.set_append_right _ _ (by omega), hl, Nat.sub_self, take_next l i h z', List.map_append, List.append_assoc]
  congr 1
  obtain ⟨m, hm⟩ : ∃ m, l.length - i = m + 1 := ⟨l.length - i - 1, by omega⟩
  rw [hm, List.replicate_succ, List.set_cons_zero, show l.length - (i + 1) = m by omega]
  rfl

/-! lists of numbers: equal to themselves, marked, held -/
theorem eqIntS_f (l : List Int) (h : l.length ≤ 4611686018427387904) : Ev (fun k => laws_eqIntS.f k l l) true := by
  have hl : Ev (fun k => laws_eqIntS.l0 k l l ((0 : Nat) : Int)) true := by
    refine Ev.down (P := fun i => Ev (fun k => laws_eqIntS.l0 k l l (i : Int)) true) l.length ?_ ?_
    · refine Ev.step (f := fun _ => some true) (fun k => ?_) (Ev.now _)
      simp only [laws_eqIntS.l0]
      rw [if_neg (by omega)]
    · intro i hi ih
      refine Ev.step (f := fun k => laws_eqIntS.l0 k l l ((i + 1 : Nat) : Int)) (fun k => ?_) ih
      simp only [laws_eqIntS.l0]
      rw [if_pos (by omega), if_pos (by omega), if_pos (by omega), if_pos trivial, next_ i (by omega)]
  refine Ev.congr (fun k => ?_) hl
  unfold laws_eqIntS.f
  rw [if_pos rfl]
  rfl

/-- a, a + 1, .., n of them -/
def marks (a : Int) : Nat → List Int
  | 0 => []
  | n + 1 => marks a n ++ [a + n]
theorem marks_length (a : Int) (n : Nat) : (marks a n).length = n := by
  induction n with
  | zero => rfl
  | succ n ih => simp [marks, ih]
theorem marks_get (a : Int) (n i : Nat) (h : i < n) (z : Int) : (marks a n).getD i z = a + i := by
  induction n with
  | zero => omega
  | succ n ih =>
    unfold marks
    rw [List.getD_eq_getElem?_getD]
    by_cases hi : i < n
    · rw [List.getElem?_append_left (by rw [marks_length]; exact hi), ← List.getD_eq_getElem?_getD]
      exact ih hi
    · obtain rfl : i = n := by omega
      rw [List.getElem?_append_right (by rw [marks_length]; omega), marks_length, Nat.sub_self]
      rfl
theorem marks_set (a : Int) (l : List Int) (i : Nat) (h : i < l.length) : (marks a i ++ l.drop i).set i (a + i) = marks a (i + 1) ++ l.drop (i + 1) := by
  rw [List.set_append_right _ _ (by rw [marks_length]; omega), marks_length, Nat.sub_self, List.drop_eq_getElem_cons h, List.set_cons_zero]
  simp [marks]
theorem markIntS_f (l : List Int) (h : l.length ≤ 4611686018427387904) (a : Int) (h0 : 0 ≤ a) (h1 : a ≤ 4611686018427387903) : Ev (fun k => laws_markIntS.f k l a) (a + l.length, marks a l.length) := by
  have hl : Ev (fun k => laws_markIntS.l0 k (marks a 0 ++ l.drop 0) (a + (0 : Nat)) ((0 : Nat) : Int)) (a + l.length, marks a l.length) := by
    refine Ev.down (P := fun i => Ev (fun k => laws_markIntS.l0 k (marks a i ++ l.drop i) (a + (i : Nat)) (i : Int)) (a + l.length, marks a l.length)) l.length ?_ ?_
    · refine Ev.step (f := fun _ => some (a + l.length, marks a l.length)) (fun k => ?_) (Ev.now _)
      simp only [laws_markIntS.l0, List.drop_length, List.append_nil, marks_length]
      rw [if_neg (by omega)]
    · intro i hi ih
      refine Ev.step (f := fun k => laws_markIntS.l0 k (marks a (i + 1) ++ l.drop (i + 1)) (a + (i + 1 : Nat)) ((i + 1 : Nat) : Int)) (fun k => ?_) ih
      have hlen : ((marks a i ++ l.drop i).length : Int) = l.length := by rw [List.length_append, marks_length, List.length_drop]; omega
      simp only [laws_markIntS.l0]
      rw [hlen, if_pos (by omega), if_pos (by omega), next_ i (by omega), Int.toNat_natCast, marks_set a l i hi, w64_ (by omega) (by omega)]
      rw [show a + (i : Int) + 1 = a + ((i + 1 : Nat) : Int) by omega]
  have h2 : marks a 0 ++ l.drop 0 = l := by simp [marks]
  rw [h2] at hl
  refine Ev.congr (fun k => ?_) hl
  unfold laws_markIntS.f
  rw [show a + ((0 : Nat) : Int) = a by omega]
  rfl
theorem heldIntS_f (n : Nat) (h : n ≤ 4611686018427387904) (a : Int) (h0 : 0 ≤ a) (h1 : a ≤ 4611686018427387903) : Ev (fun k => laws_heldIntS.f k (marks a n) a) (a + n) := by
  have hl : Ev (fun k => laws_heldIntS.l0 k (marks a n) (a + (0 : Nat)) ((0 : Nat) : Int)) (a + n) := by
    refine Ev.down (P := fun i => Ev (fun k => laws_heldIntS.l0 k (marks a n) (a + (i : Nat)) (i : Int)) (a + n)) n ?_ ?_
    · refine Ev.step (f := fun _ => some (a + n)) (fun k => ?_) (Ev.now _)
      simp only [laws_heldIntS.l0, marks_length]
      rw [if_neg (by omega)]
    · intro i hi ih
      refine Ev.step (f := fun k => laws_heldIntS.l0 k (marks a n) (a + (i + 1 : Nat)) ((i + 1 : Nat) : Int)) (fun k => ?_) ih
      simp only [laws_heldIntS.l0, marks_length]
      rw [if_pos (by omega), if_pos (by omega), if_pos (show rd (marks a n) (i : Int) = a + (i : Nat) from marks_get a n i hi 0), next_ i (by omega), w64_ (by omega) (by omega)]
      rw [show a + (i : Int) + 1 = a + ((i + 1 : Nat) : Int) by omega]
  refine Ev.congr (fun k => ?_) hl
  unfold laws_heldIntS.f
  rw [show a + ((0 : Nat) : Int) = a by omega]
  rfl

theorem FnExactEventNums : fnExactEventNums.Pure := by
  intro a0 a1 a2 a3 a4 a5 a6 _ _ _ _ _ _
  refine Ev.rounds ?_
  unfold laws_FnExactEventNums.f
  simp only [laws_toEvent.f, Option.bind_some, spec_EventNums.f, impl_EventNums.f]
  have e1 : spec_l4Bit.f a6 = some (if a6 = true then 1 else 0) := by unfold spec_l4Bit.f; split <;> rfl
  have e2 : impl_bit.f a6 = some (if a6 = true then 1 else 0) := by unfold impl_bit.f; split <;> rfl
  rw [e1, e2]
  simp only [Option.bind_some]
  generalize hl : [a0, a1, a2, a3, a4, a5, if a6 = true then (1 : Int) else 0] = l
  have hn : l.length = 7 := by rw [← hl]; rfl
  have h1 := eqIntS_f l (by omega)
  have h2 := markIntS_f l (by omega) 1 (by omega) (by omega)
  rw [hn] at h2
  have h3 := heldIntS_f 7 (by omega) 1 (by omega) (by omega)
  refine Ev.bind h1 (Ev.congr (fun k => if_pos rfl) (Ev.bind h2 (Ev.bind h3 ?_)))
  refine Ev.congr (fun k => (if_neg (by decide)).trans (if_pos rfl)) (Ev.bind h1 ?_)
  refine Ev.congr (fun k => if_pos rfl) (Ev.bind h3 ?_)
  exact Ev.congr (fun k => (if_neg (by decide)).trans (if_pos rfl)) (Ev.now _)

end Go.Proofs.Ytljnfcmcjhggfaa.Pure
