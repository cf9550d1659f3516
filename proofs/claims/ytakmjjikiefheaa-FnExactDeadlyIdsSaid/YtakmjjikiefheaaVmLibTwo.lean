/- An interpreter over plain values for translated functions, and that it says what the model does (calls, statements, loops, arguments). No condition. -/
import Derived.Test.YtakmjjikiefheaaVmLibOne
import Derived.StillTail
import Derived.KernelRfl
namespace Go.Proofs.Ytakmjjikiefheaa.Lib
open Go Go.RowKit
set_option linter.unusedVariables false
set_option linter.unusedSimpArgs false
theorem All2.app {α β : Type} {R : α → β → Prop} {l l' : List α} {m m' : List β} (h : All2 R l m) (h' : All2 R l' m') : All2 R (l ++ l') (m ++ m') := h.append h'
def CEnv.strict (ρ : CEnv) : CEnv := ⟨ρ.loc, fun _ => ρ.ok false⟩
theorem nobor_rc {ρ : CEnv} {w : World} {c : Cell} {v : Value} (hn : c.nobor = true) (h : rc ρ w c v) : rc ρ.strict w c v := by
 cases c with
 | emb e t l b =>
  have : b = false := by simpa [Cell.nobor] using hn
  subst this; exact h
 | eptr t x c b =>
  have : b = false := by simpa [Cell.nobor] using hn
  subst this; exact h
 | fn f caps =>
  have : caps = [] := by simpa [Cell.nobor] using hn
  subst this
  obtain ⟨vs, h0, h1⟩ := h
  cases h1
  exact ⟨_, h0, .nil⟩
 | _ => exact h
theorem nobor_cells {ρ : CEnv} {w : World} {cs : List Cell} {vs : List Value} (hn : cs.all (·.nobor) = true) (h : All2 (rc ρ w) cs vs) : All2 (rc ρ.strict w) cs vs :=
 h.imp fun c v hc h => nobor_rc (List.all_eq_true.1 hn c hc) h
theorem nobor_rav {ρ : CEnv} {w : World} {x : AV} {v : Value} (hn : x.nobor = true) (h : rav ρ w x v) : rav ρ.strict w x v := by
 cases x with
 | one c => exact nobor_rc hn h
 | agg cs => obtain ⟨vs, h0, h1⟩ := h; exact ⟨vs, h0, nobor_cells hn h1⟩
 | tup ps =>
  obtain ⟨vs, h0, h1⟩ := h
  refine ⟨vs, h0, h1.imp fun q v hq h => ?_⟩
  have hq := List.all_eq_true.1 hn q hq
  obtain ⟨g, cs⟩ := q
  cases g with
  | true => obtain ⟨vs, h0, h1⟩ := h; exact ⟨vs, h0, nobor_cells hq h1⟩
  | false => obtain ⟨c, rfl, h⟩ := h; exact ⟨c, rfl, nobor_rc (by simpa using hq) h⟩
theorem nobor_blk {ρ : CEnv} {w : World} {j : Nat} {b : Blk} (hn : b.nobor = true) (h : rblk ρ w j b) : rblk ρ.strict w j b := by
 cases b with
 | box t cs => obtain ⟨g, vs, h0, h1, h2⟩ := h; exact ⟨g, vs, h0, h1, nobor_cells hn h2⟩
 | arr e t l b =>
  have : b = false := by simpa [Blk.nobor] using hn
  subst this; exact h
 | fro e t l b =>
  have : b = false := by simpa [Blk.nobor] using hn
  subst this; exact h
theorem shift_rc {ρ ρ' : CEnv} {w : World} {d : Nat} {c : Cell} {v : Value} (hl : ∀ j, c.uses j = true → ρ'.loc (j + d) = ρ.loc j) (ho : ρ'.ok = ρ.ok) (h : rc ρ w c v) : rc ρ' w (c.shift d) v := by
 cases c with
 | emb e t l b => rw [show Cell.shift d (.emb e t l b) = .emb e t l b from rfl]; unfold rc at h ⊢; rw [ho]; exact h
 | sl j =>
  obtain ⟨g, sz, h⟩ := h
  exact ⟨g, sz, (hl j (by simp [Cell.uses])).trans h⟩
 | sub j o n =>
  obtain ⟨A, m, c, g, sz, h, h1⟩ := h
  exact ⟨A, m, c, g, sz, (hl j (by simp [Cell.uses])).trans h, h1⟩
 | ptr j i c =>
  have hl := hl j (by simp [Cell.uses])
  rcases h with ⟨h0, g, h, h1⟩ | ⟨a, m, cp, g, sz, h, h1⟩
  ·exact .inl ⟨h0, g, hl.trans h, h1⟩
  ·exact .inr ⟨a, m, cp, g, sz, hl.trans h, h1⟩
 | eptr t x c b =>
  obtain ⟨a, h, h1⟩ := h
  exact ⟨a, by rw [ho]; exact h, h1⟩
 | fn f caps =>
  obtain ⟨vs, h, h1⟩ := h
  exact ⟨vs, h, h1.imp fun p u _ ⟨a, h, h2⟩ => ⟨a, by rw [ho]; exact h, h2⟩⟩
 | fnp f js =>
  obtain ⟨vs, h, h1⟩ := h
  exact ⟨vs, h, h1.map_left _ fun j u hj ⟨g, h, h2⟩ => ⟨g, (hl j (by simp [Cell.uses, hj])).trans h, h2⟩⟩
 | _ => exact h
theorem shift_cells {ρ ρ' : CEnv} {w : World} {d : Nat} {cs : List Cell} {vs : List Value} (hl : ∀ j, cs.any (·.uses j) = true → ρ'.loc (j + d) = ρ.loc j) (ho : ρ'.ok = ρ.ok) (h : All2 (rc ρ w) cs vs) : All2 (rc ρ' w) (cs.map (·.shift d)) vs :=
 h.map_left _ fun c v hc h => shift_rc (fun j hj => hl j (List.any_eq_true.2 ⟨c, hc, hj⟩)) ho h
theorem shift_rav {ρ ρ' : CEnv} {w : World} {d : Nat} {x : AV} {v : Value} (hl : ∀ j, x.uses j = true → ρ'.loc (j + d) = ρ.loc j) (ho : ρ'.ok = ρ.ok) (h : rav ρ w x v) : rav ρ' w (x.shift d) v := by
 cases x with
 | one c => exact shift_rc hl ho h
 | agg cs => obtain ⟨vs, h0, h1⟩ := h; exact ⟨vs, h0, shift_cells hl ho h1⟩
 | tup ps =>
  obtain ⟨vs, h0, h1⟩ := h
  refine ⟨vs, h0, h1.map_left _ fun q v hq h => ?_⟩
  have hl' : ∀ j, q.2.any (·.uses j) = true → ρ'.loc (j + d) = ρ.loc j := fun j hj => hl j (List.any_eq_true.2 ⟨q, hq, hj⟩)
  obtain ⟨g, cs⟩ := q
  cases g with
  | true => obtain ⟨vs, h0, h1⟩ := h; exact ⟨vs, h0, shift_cells hl' ho h1⟩
  | false => obtain ⟨c, rfl, h⟩ := h; exact ⟨c.shift d, rfl, shift_rc (fun j hj => hl' j (by simpa using hj)) ho h⟩
theorem shift_uses {d i : Nat} {c : Cell} (h : (c.shift d).uses i = true) : ∃ j, i = j + d ∧ c.uses j = true := by
 cases c with
 | sl j => have h : (j + d == i) = true := h; exact ⟨j, (eq_of_beq h).symm, by simp [Cell.uses]⟩
 | sub j o n => have h : (j + d == i) = true := h; exact ⟨j, (eq_of_beq h).symm, by simp [Cell.uses]⟩
 | ptr j k c => have h : (j + d == i) = true := h; exact ⟨j, (eq_of_beq h).symm, by simp [Cell.uses]⟩
 | fnp f js =>
  have h : (js.map (· + d)).contains i = true := h
  simp only [List.contains_eq_mem, List.mem_map, decide_eq_true_eq] at h
  obtain ⟨j, h1, h2⟩ := h
  exact ⟨j, h2.symm, by simp [Cell.uses, h1]⟩
 | _ => cases h
theorem shift_any {d i : Nat} {cs : List Cell} (h : (cs.map (·.shift d)).any (·.uses i) = true) : ∃ j, i = j + d ∧ cs.any (·.uses j) = true := by
 obtain ⟨c, hc, h⟩ := List.any_eq_true.1 h
 obtain ⟨c', hc', rfl⟩ := List.mem_map.1 hc
 obtain ⟨j, h1, h2⟩ := shift_uses h
 exact ⟨j, h1, List.any_eq_true.2 ⟨c', hc', h2⟩⟩
theorem shift_av {d i : Nat} {x : AV} (h : (x.shift d).uses i = true) : ∃ j, i = j + d ∧ x.uses j = true := by
 cases x with
 | one c => exact shift_uses h
 | agg cs => exact shift_any h
 | tup ps =>
  obtain ⟨q, hq, h⟩ := List.any_eq_true.1 h
  obtain ⟨q', hq', rfl⟩ := List.mem_map.1 hq
  obtain ⟨j, h1, h2⟩ := shift_any h
  exact ⟨j, h1, List.any_eq_true.2 ⟨q', hq', h2⟩⟩
theorem shift_rblk {ρ ρ' : CEnv} {w : World} {d j : Nat} {b : Blk} (hj : ρ'.loc (j + d) = ρ.loc j) (hl : ∀ i, b.uses i = true → ρ'.loc (i + d) = ρ.loc i) (ho : ρ'.ok = ρ.ok) (h : rblk ρ w j b) : rblk ρ' w (j + d) (b.shift d) := by
 cases b with
 | box t cs => obtain ⟨g, vs, h0, h1, h2⟩ := h; exact ⟨g, vs, hj.trans h0, h1, shift_cells hl ho h2⟩
 | arr e t l b =>
  obtain ⟨v, g, xs, h0, h1, h2⟩ := h
  exact ⟨v, g, xs, hj.trans h0, by rw [ho]; exact h1, h2⟩
 | fro e t l b =>
  obtain ⟨v, g, h0, h1⟩ := h
  exact ⟨v, g, hj.trans h0, by rw [ho]; exact h1⟩
section
variable {P : Program} {E : Env} {B : Nat} {O : Ow} {w0 w w' : World} {ρ ρ' : CEnv} {a : Act} {R : Type} {r : R} {sg sg' : Sig} {st : St}
def CEnv.lent (ρ : CEnv) (sg : Sig) (own : Bool) : CEnv := ⟨ρ.loc, fun q k => ρ.ok q k ∨ (q = true ∧ own = true ∧ ∃ j, Owns ρ sg j k)⟩
theorem lendBoxes_sound (hE : Env.Ok P E) (h : Mem B O ρ sg w) {own : Bool} (ho : own = true) : ∀ {js : List Nat} {us : List Value} {l : List ((t : Ty) × t.T)}, All2 (fun j u => ∃ g, ρ.loc j = .box g ∧ u = .pointer (some ⟨g, 0, none⟩)) js us → lendBoxes E sg js = some l →
  All2 (fun (p : (t : Ty) × t.T) u => ∃ a, Peek ((ρ.lent sg own).ok true) w p.1 p.2 a ∧ u = .pointer (some a)) l us
 | [], us, l, hj, hl => by
  simp only [lendBoxes, Option.some.injEq] at hl
  subst hl
  cases hj
  exact .nil
 | j :: js, us, l, hj, hl => by
  cases hj with
  | cons h0 h1 =>
  simp only [lendBoxes] at hl
  split at hl
  ·rename_i ty cs hb
   split at hl
   ·rename_i td sz by_ τ ht
    split at hl
    ·rename_i x hx
     split at hl
     ·rename_i l' hl'
      simp only [Option.some.injEq] at hl
      subst hl
      obtain ⟨g, h2, rfl⟩ := h0
      obtain ⟨g', vs, h3, h4, h5⟩ := h.blk j _ hb
      rw [h2] at h3; cases h3
      refine .cons ⟨⟨g, 0, none⟩, ⟨?_, vs, ?_, ?_⟩, rfl⟩ (lendBoxes_sound hE h ho h1 hl')
      ·exact .inr ⟨rfl, ho, j, owns_iff.2 ⟨_, hb, by simp, .inl ⟨ty, cs, rfl, h2⟩⟩⟩
      ·exact (read_sound h.okm hx h5).step (fun g hg => .inl hg) (fun _ _ => rfl)
      ·intro q u hq
       rw [addp, Nat.zero_add]
       rw [cell_of_row w g q vs.toArray ty (0, 0) h4]
       simpa using hq
     ·cases hl
    ·cases hl
   ·cases hl
  ·cases hl
theorem lend_sound (hE : Env.Ok P E) (h : Mem B O ρ sg w) {own : Bool} {c c' : Cell} {u : Bool} {v : Value} (hr : rc ρ w c v) (hl : lendCell E sg c = some (c', u)) (hu : u = true → own = true) : rc (ρ.lent sg own) w c' v ∧ ∀ d, c'.uses d = false := by
 have up : ∀ b g, ρ.ok b g → (ρ.lent sg own).ok b g := fun b g h => .inl h
 have step : Step (fun _ => True) ρ (ρ.lent sg own) w w := ⟨fun _ _ => rfl, up, fun _ _ _ => rfl⟩
 have upt : ∀ b g, ρ.ok b g → (ρ.lent sg own).ok true g := fun b g hg => by
  cases b with
  | true => exact .inl hg
  | false => exact .inl (h.okm g hg)
 have arr : ∀ {j : Nat} {e : TypeId} {t : Ty} {l : List t.T} {b : Bool}, sg.get j = some (.arr e t l b) → own = true → ∃ v g, ρ.loc j = .arr v g t.sz ∧ Rp ((ρ.lent sg own).ok true) w (.sl e t) l [v] := by
  intro j e t l b hj ho
  obtain ⟨v, g, xs, h1, h2, h3⟩ := h.blk j _ hj
  refine ⟨v, g, h1, ?_⟩
  cases g with
  | none =>
   obtain ⟨rfl, A, rfl⟩ := h3
   simp only [Rp]
   exact ⟨A, 0, rfl, Nat.zero_le _, Nat.zero_le _, fun hp => absurd hp (by simp)⟩
  | some g => exact Rp_own h3.1 h3.2 (.inr ⟨rfl, ho, j, owns_iff.2 ⟨_, hj, by simp, .inr ⟨_, _, _, _, rfl, v, t.sz, h1⟩⟩⟩) (h2.step (upt b) (fun _ _ => rfl))
 unfold lendCell at hl
 split at hl
 ·rename_i j
  split at hl
  ·rename_i e t l b hj
   cases hl
   obtain ⟨v', g, h1, h2⟩ := arr hj (hu rfl)
   obtain ⟨g', sz, h3⟩ := hr
   rw [h1] at h3; cases h3
   exact ⟨h2, fun _ => rfl⟩
  ·rename_i e t l b hj
   cases hl
   exact ⟨rc_step step (fun _ _ => trivial) ((fro_row h hj).1 v hr), fun _ => rfl⟩
  ·cases hl
 ·rename_i j o n
  split at hl
  ·rename_i e t l b hj
   cases hl
   obtain ⟨v', g, h1, h2⟩ := arr hj (hu rfl)
   obtain ⟨A, m, c, g', sz, h3, h4, h5⟩ := hr
   rw [h1] at h3; cases h3
   have h6 := h2
   simp only [Rp] at h6
   obtain ⟨A', c', h6, _⟩ := h6
   simp only [List.cons.injEq, Value.slice.injEq, and_true] at h6
   obtain ⟨rfl, rfl, rfl⟩ := h6
   exact ⟨Rp_sub h2 h4 h5, fun _ => rfl⟩
  ·rename_i e t l b hj
   cases hl
   exact ⟨rc_step step (fun _ _ => trivial) ((fro_row h hj).2 o n v hr), fun _ => rfl⟩
  ·cases hl
 ·rename_i f js
  split at hl
  ·rename_i l hl'
   cases hl
   obtain ⟨vs, h0, h1⟩ := hr
   exact ⟨⟨vs, h0, lendBoxes_sound hE h (hu rfl) h1 hl'⟩, fun _ => rfl⟩
  ·cases hl
 ·cases hl
 ·cases hl
 ·rename_i n1 n2 n4 n3 n5
  cases hl
  refine ⟨rc_step step (fun _ _ => trivial) hr, fun d => ?_⟩
  cases c <;> first | rfl | exact absurd rfl (n1 _) | exact absurd rfl (n2 _ _ _) | exact absurd rfl (n3 _ _ _) | exact absurd rfl (n4 _ _)
theorem lendCells_sound (hE : Env.Ok P E) (h : Mem B O ρ sg w) {own : Bool} : ∀ {cs cs' : List Cell} {u : Bool} {vs : List Value}, All2 (rc ρ w) cs vs → lendCells E sg cs = some (cs', u) → (u = true → own = true) → All2 (rc (ρ.lent sg own) w) cs' vs ∧ ∀ d, cs'.any (·.uses d) = false
 | [], cs', u, vs, hr, hl, hu => by
  simp only [lendCells, Option.some.injEq, Prod.mk.injEq] at hl
  obtain ⟨rfl, rfl⟩ := hl
  cases hr
  exact ⟨.nil, fun _ => rfl⟩
 | c :: cs, cs', u, vs, hr, hl, hu => by
  cases hr with
  | cons h0 h1 =>
  simp only [lendCells] at hl
  split at hl
  ·rename_i c1 u1 hc
   split at hl
   ·rename_i cs1 u2 hcs
    simp only [Option.some.injEq, Prod.mk.injEq] at hl
    obtain ⟨rfl, rfl⟩ := hl
    obtain ⟨a1, a2⟩ := lend_sound hE h (own := own) h0 hc (fun hu1 => hu (by simp [hu1]))
    obtain ⟨b1, b2⟩ := lendCells_sound hE h h1 hcs (fun hu1 => hu (by simp [hu1]))
    exact ⟨.cons a1 b1, fun d => by simp [a2 d, b2 d]⟩
   ·cases hl
  ·cases hl
theorem lendAV_sound (hE : Env.Ok P E) (h : Mem B O ρ sg w) {own : Bool} {x x' : AV} {u : Bool} {v : Value} (hr : rav ρ w x v) (hl : lend E sg x = some (x', u)) (hu : u = true → own = true) : rav (ρ.lent sg own) w x' v ∧ ∀ d, x'.uses d = false := by
 unfold lend at hl
 split at hl
 ·split at hl
  ·rename_i c1 u1 hc
   simp only [Option.some.injEq, Prod.mk.injEq] at hl
   obtain ⟨rfl, rfl⟩ := hl
   exact lend_sound hE h hr hc hu
  ·cases hl
 ·split at hl
  ·rename_i c1 u1 hc
   simp only [Option.some.injEq, Prod.mk.injEq] at hl
   obtain ⟨rfl, rfl⟩ := hl
   obtain ⟨vs, h0, h1⟩ := hr
   obtain ⟨b1, b2⟩ := lendCells_sound hE h h1 hc hu
   exact ⟨⟨vs, h0, b1⟩, b2⟩
  ·cases hl
 ·cases hl
theorem lendAll_sound (hE : Env.Ok P E) (h : Mem B O ρ sg w) {own : Bool} : ∀ {xs xs' : List AV} {u : Bool} {vs : List Value}, All2 (rav ρ w) xs vs → lendAll E sg xs = some (xs', u) → (u = true → own = true) → All2 (rav (ρ.lent sg own) w) xs' vs ∧ ∀ x ∈ xs', ∀ d, x.uses d = false
 | [], xs', u, vs, hr, hl, hu => by
  simp only [lendAll, Option.some.injEq, Prod.mk.injEq] at hl
  obtain ⟨rfl, rfl⟩ := hl
  cases hr
  exact ⟨.nil, fun x hx => by cases hx⟩
 | x :: xs, xs', u, vs, hr, hl, hu => by
  cases hr with
  | cons h0 h1 =>
  simp only [lendAll] at hl
  split at hl
  ·rename_i c1 u1 hc
   split at hl
   ·rename_i cs1 u2 hcs
    simp only [Option.some.injEq, Prod.mk.injEq] at hl
    obtain ⟨rfl, rfl⟩ := hl
    obtain ⟨a1, a2⟩ := lendAV_sound hE h (own := own) h0 hc (fun hu1 => hu (by simp [hu1]))
    obtain ⟨b1, b2⟩ := lendAll_sound hE h h1 hcs (fun hu1 => hu (by simp [hu1]))
    exact ⟨.cons a1 b1, fun y hy => by
     rcases List.mem_cons.1 hy with rfl | hy
     ·exact a2
     ·exact b2 y hy⟩
   ·cases hl
  ·cases hl
end
end Go.Proofs.Ytakmjjikiefheaa.Lib
namespace Go.Proofs.Ytakmjjikiefheaa.Lib
open Go Go.RowKit
set_option linter.unusedVariables false
set_option linter.unusedSimpArgs false
section
variable {P : Program} {E : Env} {B : Nat} {O : Ow} {w0 w w' : World} {ρ ρ' : CEnv} {a : Act} {R : Type}
theorem cells_any (t : Ty) (b : Bool) (x : t.T) (d : Nat) : (t.cells b x).any (·.uses d) = false := by
 induction t with
 | pair a c iha ihc => simp only [Ty.cells, List.any_append, iha, ihc]; rfl
 | _ => rfl
theorem Tys.sound : ∀ {ts : List Ty} {cs : List ((t : Ty) × t.T)} {k : Option R} {y : Tys.T ts R}, Tys.cap ts cs k = some y → (Tys.bld ts y).1 = cs ∧ k = some (Tys.bld ts y).2
 | [], cs, k, y, h => by
  cases cs with
  | nil => exact ⟨rfl, h⟩
  | cons c r => cases h
 | t :: ts, cs, k, y, h => by
  cases cs with
  | nil => cases h
  | cons c r =>
   obtain ⟨t', x⟩ := c
   simp only [Tys.cap] at h
   split at h
   ·rename_i ht
    subst ht
    split at h
    ·rename_i y1 h1
     cases h
     obtain ⟨h2, h3⟩ := Tys.sound h1
     exact ⟨by simp only [Tys.bld, h2], h3⟩
    ·cases h
   ·cases h
theorem CPs.sound (hm : ∀ g, ρ.ok false g → ρ.ok true g) : ∀ {ps : List CP} {cs : List Cell} {k : Option R} {y : CPs.T ps R}, CPs.cap ps cs k = some y → k = some (CPs.bld ps y).2 ∧ (∀ vs, All2 (rc ρ w) cs vs → All2 (rc ρ w) (CPs.bld ps y).1 vs)
 | [], cs, k, y, h => by
  cases cs with
  | nil => exact ⟨h, fun vs hv => hv⟩
  | cons c r => cases h
 | .dat t b :: r, cs, k, y, h => by
  simp only [CPs.cap] at h
  split at h
  ·rename_i x cs1 hp
   split at h
   ·rename_i y1 h1
    cases h
    obtain ⟨h2, h3⟩ := CPs.sound hm h1
    refine ⟨h2, fun vs hv => ?_⟩
    obtain ⟨v0, v1, rfl, h4, h5⟩ := parse_sound hm hp hv
    exact (cells_of_Rp h4).append (h3 v1 h5)
   ·cases h
  ·cases h
 | .own j :: r, cs, k, y, h => by
  cases cs with
  | nil => cases h
  | cons c cs =>
   cases c <;> simp only [CPs.cap] at h <;> try (cases h; done)
   rename_i j'
   simp only [bifs, beq_iff_eq] at h
   split at h
   ·rename_i hj
    subst hj
    obtain ⟨h2, h3⟩ := CPs.sound hm h
    refine ⟨h2, fun vs hv => ?_⟩
    cases hv with
    | cons h0 h1 => exact .cons h0 (h3 _ h1)
   ·cases h
 | .ptr j c :: r, cs, k, y, h => by
  cases cs with
  | nil => cases h
  | cons cc cs =>
   cases cc <;> simp only [CPs.cap] at h <;> try (cases h; done)
   rename_i j' i' c'
   simp only [bifs] at h
   split at h
   ·rename_i hj
    simp only [Bool.and_eq_true, beq_iff_eq] at hj
    obtain ⟨⟨rfl, rfl⟩, rfl⟩ := hj
    obtain ⟨h2, h3⟩ := CPs.sound hm h
    refine ⟨h2, fun vs hv => ?_⟩
    cases hv with
    | cons h0 h1 => exact .cons h0 (h3 _ h1)
   ·cases h
 | .und :: r, cs, k, y, h => by
  cases cs with
  | nil => cases h
  | cons c cs =>
   simp only [CPs.cap] at h
   obtain ⟨h2, h3⟩ := CPs.sound hm h
   refine ⟨h2, fun vs hv => ?_⟩
   cases hv with
   | cons h0 h1 => exact .cons trivial (h3 _ h1)
 | .fnc f ts :: r, cs, k, y, h => by
  cases cs with
  | nil => cases h
  | cons c cs =>
   cases c <;> simp only [CPs.cap] at h <;> try (cases h; done)
   rename_i f' caps
   simp only [bifs, beq_iff_eq] at h
   split at h
   ·rename_i hf
    subst hf
    obtain ⟨h4, h5⟩ := Tys.sound h
    obtain ⟨h2, h3⟩ := CPs.sound hm h5
    refine ⟨h2, fun vs hv => ?_⟩
    cases hv with
    | cons h0 h1 =>
     simp only [CPs.bld]
     rw [h4]
     exact .cons h0 (h3 _ h1)
   ·cases h
 | .ept t :: r, cs, k, y, h => by
  cases cs with
  | nil => cases h
  | cons c cs =>
   cases c <;> simp only [CPs.cap] at h <;> try (cases h; done)
   rename_i t' x c b
   split at h
   ·rename_i ht
    subst ht
    simp only [bifs, beq_iff_eq] at h
    split at h
    ·rename_i hc
     subst hc
     split at h
     ·rename_i y1 hy
      cases h
      obtain ⟨h2, h3⟩ := CPs.sound hm hy
      refine ⟨h2, fun vs hv => ?_⟩
      cases hv with
      | cons h0 h1 =>
       refine .cons ?_ (h3 _ h1)
       obtain ⟨a, ha, hv⟩ := h0
       refine ⟨a, ha.step (fun g hg => ?_) (fun _ _ => rfl), hv⟩
       cases b with
       | true => exact hg
       | false => exact hm g hg
     ·cases h
    ·cases h
   ·cases h
 | .fnp f js :: r, cs, k, y, h => by
  cases cs with
  | nil => cases h
  | cons cc cs =>
   cases cc <;> simp only [CPs.cap] at h <;> try (cases h; done)
   rename_i f' js'
   simp only [bifs] at h
   split at h
   ·rename_i hj
    simp only [Bool.and_eq_true, beq_iff_eq] at hj
    obtain ⟨rfl, rfl⟩ := hj
    obtain ⟨h2, h3⟩ := CPs.sound hm h
    refine ⟨h2, fun vs hv => ?_⟩
    cases hv with
    | cons h0 h1 => exact .cons h0 (h3 _ h1)
   ·cases h
theorem CPs.len {ρ : CEnv} {w : World} : ∀ {ps : List CP} {y : CPs.T ps R} (d : Nat), (CPs.bld ps y).1.any (·.uses d) = true → ps.any (·.uses d) = true
 | [], y, d, h => h
 | .dat t b :: r, y, d, h => by
  simp only [CPs.bld, List.any_append, cells_any, Bool.false_or] at h
  simp only [List.any_cons, CP.uses, Bool.false_or]
  exact CPs.len (ρ := ρ) (w := w) d h
 | .own j :: r, y, d, h => by
  simp only [CPs.bld, List.any_cons, Cell.uses, Bool.or_eq_true] at h
  simp only [List.any_cons, CP.uses, Bool.or_eq_true]
  exact h.imp id (CPs.len (ρ := ρ) (w := w) d)
 | .ptr j c :: r, y, d, h => by
  simp only [CPs.bld, List.any_cons, Cell.uses, Bool.or_eq_true] at h
  simp only [List.any_cons, CP.uses, Bool.or_eq_true]
  exact h.imp id (CPs.len (ρ := ρ) (w := w) d)
 | .und :: r, y, d, h => by
  simp only [CPs.bld, List.any_cons, Cell.uses, Bool.false_or] at h
  simp only [List.any_cons, CP.uses, Bool.false_or]
  exact CPs.len (ρ := ρ) (w := w) d h
 | .fnc f ts :: r, y, d, h => by
  simp only [CPs.bld, List.any_cons, Cell.uses, Bool.false_or] at h
  simp only [List.any_cons, CP.uses, Bool.false_or]
  exact CPs.len (ρ := ρ) (w := w) d h
 | .ept t :: r, y, d, h => by
  simp only [CPs.bld, List.any_cons, Cell.uses, Bool.false_or] at h
  simp only [List.any_cons, CP.uses, Bool.false_or]
  exact CPs.len (ρ := ρ) (w := w) d h
 | .fnp f js :: r, y, d, h => by
  simp only [CPs.bld, List.any_cons, Cell.uses, Bool.or_eq_true] at h
  simp only [List.any_cons, CP.uses, Bool.or_eq_true]
  exact h.imp id (CPs.len (ρ := ρ) (w := w) d)
theorem SPs.sound (hm : ∀ g, ρ.ok false g → ρ.ok true g) : ∀ {ss : List SP} {vs : List AV} {k : Option R} {y : SPs.T ss R}, SPs.cap ss vs k = some y → k = some (SPs.bld ss y).2 ∧ (SPs.bld ss y).1.length = vs.length ∧
  (∀ (i : Nat) (v' : AV), (SPs.bld ss y).1[i]? = some v' → ∃ v, vs[i]? = some v ∧ (∀ u, rav ρ w v u → rav ρ w v' u) ∧ ∀ d, v'.uses d = true → ss.any (·.uses d) = true)
 | [], vs, k, y, h => by
  cases vs with
  | nil => exact ⟨h, rfl, fun i v' hi => by simp [SPs.bld] at hi⟩
  | cons c r => cases h
 | .und :: r, vs, k, y, h => by
  cases vs with
  | nil => cases h
  | cons v vs =>
   simp only [SPs.cap] at h
   obtain ⟨h1, h2, h3⟩ := SPs.sound hm h
   refine ⟨h1, by simp [SPs.bld, h2], fun i v' hi => ?_⟩
   cases i with
   | zero => simp only [SPs.bld, List.getElem?_cons_zero, Option.some.injEq] at hi; subst hi; exact ⟨v, rfl, fun _ _ => trivial, fun d hd => by cases hd⟩
   | succ i =>
    simp only [SPs.bld, List.getElem?_cons_succ] at hi
    obtain ⟨x, h4, h5, h6⟩ := h3 i v' hi
    exact ⟨x, by simpa using h4, h5, fun d hd => by simp only [List.any_cons, h6 d hd, Bool.or_true]⟩
 | .one p :: r, vs, k, y, h => by
  cases vs with
  | nil => cases h
  | cons v vs =>
   cases v <;> simp only [SPs.cap] at h <;> try (cases h; done)
   rename_i c
   obtain ⟨h0, h0'⟩ := CPs.sound (w := w) hm h
   obtain ⟨h1, h2, h3⟩ := SPs.sound hm h0
   refine ⟨h1, by simp [SPs.bld, h2], fun i v' hi => ?_⟩
   cases i with
   | zero =>
    simp only [SPs.bld, List.getElem?_cons_zero, Option.some.injEq] at hi
    subst hi
    refine ⟨.one c, rfl, fun u hu => ?_, fun d hd => ?_⟩
    ·have := h0' [u] (.cons hu .nil)
     generalize (CPs.bld [p] y).1 = l at this
     cases this with
     | cons h4 h5 => cases h5; exact h4
    ·have hl := CPs.len (ρ := ρ) (w := w) (ps := [p]) (y := y) d
     generalize (CPs.bld [p] y).1 = l at hl hd
     have : l.any (·.uses d) = true := by
      unfold oneOf at hd
      split at hd
      ·simpa [AV.uses] using hd
      ·cases hd
     have := hl this
     simp only [List.any_cons, SP.uses, List.any_nil, Bool.or_false] at this ⊢
     rw [this]; rfl
   | succ i =>
    simp only [SPs.bld, List.getElem?_cons_succ] at hi
    obtain ⟨x, h4, h5, h6⟩ := h3 i v' hi
    exact ⟨x, by simpa using h4, h5, fun d hd => by simp only [List.any_cons, h6 d hd, Bool.or_true]⟩
 | .agg ps :: r, vs, k, y, h => by
  cases vs with
  | nil => cases h
  | cons v vs =>
   cases v <;> simp only [SPs.cap] at h <;> try (cases h; done)
   rename_i cs
   obtain ⟨h0, h0'⟩ := CPs.sound (w := w) hm h
   obtain ⟨h1, h2, h3⟩ := SPs.sound hm h0
   refine ⟨h1, by simp [SPs.bld, h2], fun i v' hi => ?_⟩
   cases i with
   | zero =>
    simp only [SPs.bld, List.getElem?_cons_zero, Option.some.injEq] at hi
    subst hi
    refine ⟨.agg cs, rfl, fun u hu => ?_, fun d hd => ?_⟩
    ·obtain ⟨us, rfl, hus⟩ := hu
     exact ⟨us, rfl, h0' us hus⟩
    ·have := CPs.len (ρ := ρ) (w := w) (ps := ps) (y := y) d hd
     simp only [List.any_cons, SP.uses, this, Bool.true_or]
   | succ i =>
    simp only [SPs.bld, List.getElem?_cons_succ] at hi
    obtain ⟨x, h4, h5, h6⟩ := h3 i v' hi
    exact ⟨x, by simpa using h4, h5, fun d hd => by simp only [List.any_cons, h6 d hd, Bool.or_true]⟩
theorem rblk_arr_mono (hm : ∀ g, ρ.ok false g → ρ.ok true g) {j : Nat} {e : TypeId} {t : Ty} {l : List t.T} {b b' : Bool} (hb : (!b' || b) = true) (h : rblk ρ w j (.arr e t l b')) : rblk ρ w j (.arr e t l b) := by
 cases b' with
 | false =>
  cases b with
  | false => exact h
  | true =>
   obtain ⟨v, g, xs, h0, h1, h2⟩ := h
   exact ⟨v, g, xs, h0, h1.step hm (fun _ _ => rfl), h2⟩
 | true => cases b with | true => exact h | false => cases hb
theorem GPs.sound (hm : ∀ g, ρ.ok false g → ρ.ok true g) {sg : Sig} : ∀ {gs : List (Nat × GP)} {y : GPs.T gs}, GPs.cap gs sg = some y →
  (∀ j b', (GPs.bld gs y).get j = some b' → ∃ b, sg.get j = some b ∧ (rblk ρ w j b → rblk ρ w j b') ∧ (∀ g, (match b' with | .box _ _ => ρ.loc j = .box g | .arr _ _ _ _ => ∃ v sz, ρ.loc j = .arr v (some g) sz | _ => False) → Owns ρ sg j g) ∧ ∀ d, b'.uses d = true → gs.any (·.2.uses d) = true) ∧
  (∀ d, gs.any (·.1 == d) = true → ((GPs.bld gs y).get d).isSome = true)
 | [], y, h => by
  constructor
  ·intro j b' hj
   cases hj
  ·intro d hd
   cases hd
 | (i, .arr e t b) :: r, y, h => by
  simp only [GPs.cap] at h
  split at h
  ·rename_i e' t' l b' hg
   split at h
   ·rename_i ht
    subst ht
    simp only [bifs] at h
    split at h
    ·rename_i hc
     simp only [Bool.and_eq_true, beq_iff_eq] at hc
     obtain ⟨rfl, hb⟩ := hc
     split at h
     ·rename_i y1 h1
      cases h
      obtain ⟨ih, ih2⟩ := GPs.sound hm h1
      refine ⟨fun j b2 hj => ?_, fun d hd => ?_⟩
      ·simp only [GPs.bld, Sig.get] at hj
       cases hij : (i == j) with
       | true =>
        rw [hij] at hj
        simp only [cond_true, Option.some.injEq] at hj
        have := eq_of_beq hij
        subst this
        subst hj
        exact ⟨_, hg, fun h => rblk_arr_mono hm hb h, fun g hh => by unfold Owns; rw [hg]; exact hh, fun d hd => by cases hd⟩
       | false =>
        rw [hij] at hj
        obtain ⟨b3, h3, h4, h5, h6⟩ := ih j b2 (by simpa using hj)
        exact ⟨b3, h3, h4, h5, fun d hd => by simp only [List.any_cons, h6 d hd, Bool.or_true]⟩
      ·simp only [GPs.bld, Sig.get]
       simp only [List.any_cons, Bool.or_eq_true] at hd
       cases hij : (i == d) with
       | true => rfl
       | false => rw [hij] at hd; simpa using ih2 d (by simpa using hd)
     ·cases h
    ·cases h
   ·cases h
  ·cases h
 | (i, .box ty ps) :: r, y, h => by
  simp only [GPs.cap] at h
  split at h
  ·rename_i ty' cs hg
   simp only [bifs, beq_iff_eq] at h
   split at h
   ·rename_i hty
    subst hty
    obtain ⟨h0, h0'⟩ := CPs.sound (w := w) hm h
    obtain ⟨ih, ih2⟩ := GPs.sound hm h0
    refine ⟨fun j b2 hj => ?_, fun d hd => ?_⟩
    ·simp only [GPs.bld, Sig.get] at hj
     cases hij : (i == j) with
     | true =>
      rw [hij] at hj
      simp only [cond_true, Option.some.injEq] at hj
      have := eq_of_beq hij
      subst this
      subst hj
      refine ⟨_, hg, fun h => ?_, fun g hh => by unfold Owns; rw [hg]; exact hh, fun d hd => ?_⟩
      ·obtain ⟨g, vs, h1, h2, h3⟩ := h
       exact ⟨g, vs, h1, h2, h0' vs h3⟩
      ·have := CPs.len (ρ := ρ) (w := w) (ps := ps) (y := y) d hd
       simp only [List.any_cons, GP.uses, this, Bool.true_or]
     | false =>
      rw [hij] at hj
      obtain ⟨b3, h3, h4, h5, h6⟩ := ih j b2 (by simpa using hj)
      exact ⟨b3, h3, h4, h5, fun d hd => by simp only [List.any_cons, h6 d hd, Bool.or_true]⟩
    ·simp only [GPs.bld, Sig.get]
     simp only [List.any_cons, Bool.or_eq_true] at hd
     cases hij : (i == d) with
     | true => rfl
     | false => rw [hij] at hd; simpa using ih2 d (by simpa using hd)
   ·cases h
  ·cases h
theorem Sim.cap {st : St} {ss : List SP} {gs : List (Nat × GP)} {v : StT ss gs} (h : Sim P B O w0 ρ st a w) (hwf : wfSt ss gs) (hc : capSt ss gs st = some v) : Sim P B O w0 ρ (bldSt ss gs v) a w := by
 unfold capSt at hc
 obtain ⟨h1, h2, h3⟩ := SPs.sound (w := w) h.mem.okm hc
 obtain ⟨h4, h5⟩ := GPs.sound (w := w) h.mem.okm h1
 have ho : ∀ j g, Owns ρ (bldSt ss gs v).sg j g → Owns ρ st.sg j g := fun j g hj => by
  unfold Owns at hj
  cases hb : (bldSt ss gs v).sg.get j with
  | none => rw [hb] at hj; exact hj.elim
  | some b' =>
   obtain ⟨b, h6, h7, h8, h9⟩ := h4 j b' hb
   rw [hb] at hj
   exact h8 g (by cases b' <;> exact hj)
 refine ⟨⟨fun j b' hj => ?_, fun i j g hi hj => h.mem.inj i j g (ho i g hi) (ho j g hj), fun j g hj => h.mem.old j g (ho j g hj), h.mem.okb, fun b g hg j hj => h.mem.oko b g hg j (ho j g hj), h.mem.okm, h.mem.okx, h.mem.oky, fun j b' d hj hd => ?_⟩, ?_, fun i v' hi => ?_, fun i v' d hi hd => ?_, h.defers, h.fr, h.base, h.pin, h.glo⟩
 ·obtain ⟨b, h6, h7, _⟩ := h4 j b' hj
  exact h7 (h.mem.blk j b h6)
 ·obtain ⟨b, h6, h7, h8, h9⟩ := h4 j b' hj
  exact h5 d (hwf d (by rw [h9 d hd, Bool.or_true]))
 ·rw [h.len]; exact h2.symm
 ·obtain ⟨x, h6, h7, _⟩ := h3 i v' hi
  obtain ⟨u, h8, h9⟩ := h.sl i x h6
  exact ⟨u, h8, h7 u h9⟩
 ·obtain ⟨x, h6, h7, h8⟩ := h3 i v' hi
  exact h5 d (hwf d (by rw [h8 d hd, Bool.true_or]))
theorem Ways.run_bind {α : Type} (o : Ways α) (k : α → Option R) : o.run k = (o.run some).bind k := by
 induction o with
 | no => rfl
 | done x => rfl
 | br c a b iha ihb => simp only [Ways.run]; cases c <;> assumption
def callP (E : Env) (call : CallFn) (g : FuncId) (args : List AV) : Option (AV × Sig) :=
 match capPrim args g E.prim with
 | some o => o.run some
 | none => call g args []
theorem callK_eq {call : CallFn} {g : FuncId} {args : List AV} (k : AV × Sig → Option R) : callK E call g args k = (callP E call g args).bind k := by
 unfold callK callP
 cases hl : capPrim args g E.prim with
 | none => rfl
 | some o => exact Ways.run_bind _ _
theorem capPrim_spec {g : FuncId} {args : List AV} {o : Ways (AV × Sig)} : ∀ {l : List (FuncId × Prim)}, capPrim args g l = some o → ∃ p v, (g, p) ∈ l ∧ SPs.cap p.ss args (some ()) = some v ∧ o = p.F v
 | [], h => by cases h
 | (f, p) :: r, h => by
  simp only [capPrim, bifs, beq_iff_eq] at h
  split at h
  ·rename_i hf
   subst hf
   split at h
   ·rename_i v hv
    cases h
    exact ⟨p, v, List.mem_cons_self, hv, rfl⟩
   ·obtain ⟨p', v, h1, h2, h3⟩ := capPrim_spec h
    exact ⟨p', v, List.mem_cons_of_mem _ h1, h2, h3⟩
  ·obtain ⟨p', v, h1, h2, h3⟩ := capPrim_spec h
   exact ⟨p', v, List.mem_cons_of_mem _ h1, h2, h3⟩
theorem bld_nouse (w : World) {ss : List SP} {vs : List AV} {y : SPs.T ss Unit} (h : SPs.cap ss vs (some ()) = some y) (hu : ∀ v ∈ vs, ∀ d, v.uses d = false) : ∀ v ∈ (SPs.bld (R := Unit) ss y).1, ∀ d, v.uses d = false := by
 have hcp : ∀ {R : Type} {ps : List CP} {cs : List Cell} {k : Option R} {y : CPs.T ps R}, CPs.cap ps cs k = some y → ∀ d, cs.any (·.uses d) = false → (CPs.bld ps y).1.any (·.uses d) = false := by
  intro R ps
  induction ps with
  | nil => intro cs k y h d hd; rfl
  | cons p r ih =>
   intro cs k y h d hd
   cases p with
   | dat t b =>
    simp only [CPs.cap] at h
    split at h
    ·rename_i x cs1 hp
     split at h
     ·rename_i y1 h1
      cases h
      simp only [CPs.bld, List.any_append, cells_any, Bool.false_or]
      refine ih h1 d ?_
      have : ∀ {t : Ty} {cs : List Cell} {p : t.T × List Cell}, t.parse b cs = some p → cs.any (·.uses d) = false → p.2.any (·.uses d) = false := by
       intro t
       induction t with
       | pair a c iha ihc =>
        intro cs p h hd
        simp only [Ty.parse, Option.bind_eq_some_iff] at h
        obtain ⟨p1, h1, p2, h2, h3⟩ := h
        cases h3
        exact ihc h2 (iha h1 hd)
       | int k =>
        intro cs p h hd
        cases cs with
        | nil => simp [Ty.parse] at h
        | cons c r =>
         cases c <;> simp only [Ty.parse] at h <;> try (cases h; done)
         split at h
         ·cases h; simpa [Cell.uses] using hd
         ·cases h
       | bool =>
        intro cs p h hd
        cases cs with
        | nil => simp [Ty.parse] at h
        | cons c r =>
         cases c <;> simp only [Ty.parse] at h <;> try (cases h; done)
         cases h; simpa [Cell.uses] using hd
       | str =>
        intro cs p h hd
        cases cs with
        | nil => simp [Ty.parse] at h
        | cons c r =>
         cases c <;> simp only [Ty.parse] at h <;> try (cases h; done)
         cases h; simpa [Cell.uses] using hd
       | nul f =>
        intro cs p h hd
        cases cs with
        | nil => simp [Ty.parse] at h
        | cons c r =>
         cases c <;> simp only [Ty.parse] at h <;> try (cases h; done)
         split at h
         ·cases h; simpa [Cell.uses] using hd
         ·cases h
       | sl e t _ =>
        intro cs p h hd
        cases cs with
        | nil => simp [Ty.parse] at h
        | cons c r =>
         simp only [List.any_cons, Bool.or_eq_false_iff] at hd
         cases c <;> simp only [Ty.parse] at h <;> try (cases h; done)
         ·cases h; exact hd.2
         ·cases h; exact hd.2
         ·split at h
          ·split at h
           ·cases h; exact hd.2
           ·cases h
          ·cases h
      exact this hp hd
     ·cases h
    ·cases h
   | own j =>
    cases cs with
    | nil => cases h
    | cons c cs =>
     cases c <;> simp only [CPs.cap] at h <;> try (cases h; done)
     simp only [bifs, beq_iff_eq] at h
     split at h
     ·rename_i hj
      subst hj
      simp only [List.any_cons, Bool.or_eq_false_iff] at hd
      simp only [CPs.bld, List.any_cons, hd.1, ih h d hd.2]; rfl
     ·cases h
   | ptr j c =>
    cases cs with
    | nil => cases h
    | cons cc cs =>
     cases cc <;> simp only [CPs.cap] at h <;> try (cases h; done)
     simp only [bifs] at h
     split at h
     ·rename_i hj
      simp only [Bool.and_eq_true, beq_iff_eq] at hj
      obtain ⟨⟨rfl, rfl⟩, rfl⟩ := hj
      simp only [List.any_cons, Bool.or_eq_false_iff] at hd
      simp only [CPs.bld, List.any_cons, hd.1, ih h d hd.2]; rfl
     ·cases h
   | und =>
    cases cs with
    | nil => cases h
    | cons c cs =>
     simp only [CPs.cap] at h
     simp only [List.any_cons, Bool.or_eq_false_iff] at hd
     simp only [CPs.bld, List.any_cons, ih h d hd.2]; rfl
   | fnc f ts =>
    cases cs with
    | nil => cases h
    | cons c cs =>
     cases c <;> simp only [CPs.cap] at h <;> try (cases h; done)
     simp only [bifs, beq_iff_eq] at h
     split at h
     ·simp only [List.any_cons, Bool.or_eq_false_iff] at hd
      obtain ⟨_, h5⟩ := Tys.sound h
      simp only [CPs.bld, List.any_cons, ih h5 d hd.2]; rfl
     ·cases h
   | ept t =>
    cases cs with
    | nil => cases h
    | cons c cs =>
     cases c <;> simp only [CPs.cap] at h <;> try (cases h; done)
     split at h
     ·simp only [bifs, beq_iff_eq] at h
      split at h
      ·split at h
       ·rename_i y1 hy
        cases h
        simp only [List.any_cons, Bool.or_eq_false_iff] at hd
        simp only [CPs.bld, List.any_cons, ih hy d hd.2]; rfl
       ·cases h
      ·cases h
     ·cases h
   | fnp f js =>
    cases cs with
    | nil => cases h
    | cons c cs =>
     cases c <;> simp only [CPs.cap] at h <;> try (cases h; done)
     simp only [bifs] at h
     split at h
     ·rename_i hj
      simp only [Bool.and_eq_true, beq_iff_eq] at hj
      obtain ⟨rfl, rfl⟩ := hj
      simp only [List.any_cons, Bool.or_eq_false_iff] at hd
      simp only [CPs.bld, List.any_cons, hd.1, ih h d hd.2]; rfl
     ·cases h
 have main : ∀ {R : Type} {ss : List SP} {vs : List AV} {k : Option R} {y : SPs.T ss R}, SPs.cap ss vs k = some y → (∀ v ∈ vs, ∀ d, v.uses d = false) → ∀ v ∈ (SPs.bld ss y).1, ∀ d, v.uses d = false := by
  intro R ss
  induction ss with
  | nil => intro vs k y h hu v hv; simp [SPs.bld] at hv
  | cons s r ih =>
   intro vs k y h hu v hv d
   cases vs with
   | nil => cases s <;> cases h
   | cons v0 vs =>
    have hu' : ∀ v ∈ vs, ∀ d, v.uses d = false := fun v hv => hu v (List.mem_cons_of_mem _ hv)
    cases s with
    | und =>
     simp only [SPs.cap] at h
     rcases List.mem_cons.1 hv with rfl | hv
     ·rfl
     ·exact ih h hu' v hv d
    | one p =>
     cases v0 <;> simp only [SPs.cap] at h <;> try (cases h; done)
     rename_i c
     have h0 := (CPs.sound (ρ := ⟨fun _ => .dead, fun _ _ => False⟩) (w := w) (fun _ h => h) h).1
     rcases List.mem_cons.1 hv with rfl | hv
     ·have := hcp h d (by simpa [AV.uses] using hu (.one c) List.mem_cons_self d)
      generalize (CPs.bld [p] y).1 = l at this
      unfold oneOf
      split
      ·simpa [AV.uses] using this
      ·rfl
     ·exact ih h0 hu' v hv d
    | agg ps =>
     cases v0 <;> simp only [SPs.cap] at h <;> try (cases h; done)
     rename_i cs
     have h0 := (CPs.sound (ρ := ⟨fun _ => .dead, fun _ _ => False⟩) (w := w) (fun _ h => h) h).1
     rcases List.mem_cons.1 hv with rfl | hv
     ·exact hcp h d (hu (.agg cs) List.mem_cons_self d)
     ·exact ih h0 hu' v hv d
 exact main h hu
theorem callP_ok (hE : Env.Ok P E) {call : CallFn} (hC : CallOk P call) {g : FuncId} {args : List AV} {res : AV} {out : Sig} (h : callP E call g args = some (res, out)) : CallOk1 P g args res out := by
 unfold callP at h
 split at h
 ·rename_i o ho
  obtain ⟨p, v, hp, hv, rfl⟩ := capPrim_spec ho
  intro ρ0 w vs h1 h2 hgl h3 h4
  have hF := h
  obtain ⟨h5, h6, h7⟩ := SPs.sound (w := w) h2 hv
  refine hE.prim _ hp v res out hF ρ0 w vs h1 h2 hgl ?_ (bld_nouse w hv h4)
  generalize (SPs.bld (R := Unit) p.ss v).1 = l at h6 h7
  clear hv h4 h ho hgl
  induction h3 generalizing l with
  | nil =>
   cases l with
   | nil => exact .nil
   | cons x l => simp at h6
  | @cons x u xs us hx hxs ih =>
   cases l with
   | nil => simp at h6
   | cons y l =>
    refine .cons ?_ (ih l (by simpa using h6) fun i v' hi => by simpa using h7 (i + 1) v' (by simpa using hi))
    obtain ⟨z, h8, h9, _⟩ := h7 0 y rfl
    have : x = z := by simpa using h8
    subst this
    exact h9 u hx
 ·exact hC g args res out h
theorem wf_of {ss : List SP} {gs : List (Nat × GP)} (h : wfB ss gs = true) : wfSt ss gs := by
 simp only [wfB, Bool.and_eq_true, List.all_eq_true] at h
 have key : ∀ (p : CP) (d : Nat), (match p with | .own j | .ptr j _ => gs.any (·.1 == j) | .fnp _ js => js.all fun j => gs.any (·.1 == j) | _ => true) = true → p.uses d = true → gs.any (·.1 == d) = true := by
  intro p d h1 h2
  cases p with
  | own j => have := eq_of_beq h2; subst this; exact h1
  | ptr j c => have := eq_of_beq h2; subst this; exact h1
  | dat t b => cases h2
  | und => cases h2
  | fnc f ts => cases h2
  | ept t => cases h2
  | fnp f js => exact List.all_eq_true.1 h1 d (List.contains_iff_mem.1 h2)
 intro d hd
 rw [Bool.or_eq_true, List.any_eq_true, List.any_eq_true] at hd
 rcases hd with ⟨s, hs, hd⟩ | ⟨g, hg, hd⟩
 ·have := h.1 s hs
  cases s with
  | und => cases hd
  | one p => exact key p d this hd
  | agg ps =>
   obtain ⟨p, hp, hd⟩ := List.any_eq_true.1 hd
   exact key p d (List.all_eq_true.1 this p hp) hd
 ·have := h.2 g hg
  obtain ⟨j, g⟩ := g
  cases g with
  | arr e t b => cases hd
  | box ty ps =>
   obtain ⟨p, hp, hd⟩ := List.any_eq_true.1 hd
   exact key p d (List.all_eq_true.1 this p hp) hd
end
end Go.Proofs.Ytakmjjikiefheaa.Lib
namespace Go.Proofs.Ytakmjjikiefheaa.Lib
open Go Go.RowKit
set_option linter.unusedVariables false
set_option linter.unusedSimpArgs false
theorem nodup_spec : ∀ {l : List Nat}, nodup l = true → ∀ (i j : Nat) (a : Nat), l[i]? = some a → l[j]? = some a → i = j
 | [], _, i, j, a, h, _ => by simp at h
 | x :: l, hn, i, j, a, hi, hj => by
  simp only [nodup, Bool.and_eq_true, Bool.not_eq_true'] at hn
  cases i with
  | zero =>
   cases j with
   | zero => rfl
   | succ j =>
    simp at hi hj
    subst hi
    have := List.mem_of_getElem? hj
    simp [this] at hn
  | succ i =>
   cases j with
   | zero =>
    simp at hi hj
    subst hj
    have := List.mem_of_getElem? hi
    simp [this] at hn
   | succ j =>
    simp at hi hj
    rw [nodup_spec hn.2 i j a hi hj]
theorem nodup_fst {js : List (Nat × Nat)} (h : leaveOk js = true) {i j k : Nat} (h1 : (i, j) ∈ js) (h2 : (i, k) ∈ js) : j = k := by
 simp only [leaveOk, Bool.and_eq_true] at h
 obtain ⟨a, ha⟩ := List.getElem?_of_mem h1
 obtain ⟨b, hb⟩ := List.getElem?_of_mem h2
 have := nodup_spec h.1 a b i (by rw [List.getElem?_map, ha]; rfl) (by rw [List.getElem?_map, hb]; rfl)
 subst this
 rw [ha] at hb
 cases hb; rfl
theorem nodup_snd {js : List (Nat × Nat)} (h : leaveOk js = true) {i j k : Nat} (h1 : (i, k) ∈ js) (h2 : (j, k) ∈ js) : i = j := by
 simp only [leaveOk, Bool.and_eq_true] at h
 obtain ⟨a, ha⟩ := List.getElem?_of_mem h1
 obtain ⟨b, hb⟩ := List.getElem?_of_mem h2
 have := nodup_spec h.2 a b k (by rw [List.getElem?_map, ha]; rfl) (by rw [List.getElem?_map, hb]; rfl)
 subst this
 rw [ha] at hb
 cases hb; rfl
section
variable {P : Program} {E : Env} {B : Nat} {O : Ow} {w0 w w' : World} {ρ ρ' : CEnv} {a : Act} {R : Type} {r : R} {sg sg' : Sig} {st : St} {call : CallFn}
def Out (sg out : Sig) (js : List (Nat × Nat)) : Prop := ∀ i b, out.get i = some b → ∃ j, (i, j) ∈ js ∧ sg.get j = some b ∧ ((∃ e t l q, b = .arr e t l q) ∨ ∃ ty cs, b = .box ty cs ∧ cs.all (·.idfree) = true)
theorem idfree_uses {c : Cell} (h : c.idfree = true) (d : Nat) : c.uses d = false := by cases c <;> first | rfl | cases h
theorem leaveCells_sound (h : Mem B O ρ sg w) : ∀ {cs : List Cell} {n : Nat} {vs : List Value} {cs' : List Cell} {out : Sig} {js : List (Nat × Nat)}, All2 (rc ρ w) cs vs → leaveCells sg cs n = some (cs', out, js) →
  (∀ L : Nat → Loc, (∀ i j, (i, j) ∈ js → L i = ρ.loc j) → All2 (rc ⟨L, ρ.ok⟩ w) cs' vs) ∧ Out sg out js ∧ (∀ d, cs'.any (·.uses d) = true → (out.get d).isSome = true)
 | [], n, vs, cs', out, js, hr, hl => by
  simp only [leaveCells, Option.some.injEq, Prod.mk.injEq] at hl
  obtain ⟨rfl, rfl, rfl⟩ := hl
  cases hr
  exact ⟨fun _ _ => .nil, (fun i b hi => by cases hi), fun d hd => by cases hd⟩
 | c :: cs, n, vs, cs', out, js, hr, hl => by
  cases hr with
  | @cons _ u0 _ us h0 h1 =>
  simp only [leaveCells] at hl
  split at hl
  ·rename_i cs1 out1 js1 hrec
   obtain ⟨i1, i2, i3⟩ := leaveCells_sound h h1 hrec
   have plain : ∀ {d : Cell}, (∀ x, d.uses x = false) → rc ρ w d u0 → (cs', out, js) = (d :: cs1, out1, js1) → (∀ L : Nat → Loc, (∀ i j, (i, j) ∈ js → L i = ρ.loc j) → All2 (rc ⟨L, ρ.ok⟩ w) cs' (u0 :: us)) ∧ Out sg out js ∧ (∀ d, cs'.any (·.uses d) = true → (out.get d).isSome = true) := by
    intro d hu hd he
    cases he
    refine ⟨fun L hL => .cons (rc_step (ρ := ρ) (ρ' := ⟨L, ρ.ok⟩) (w := w) (U := fun _ => False) ⟨fun _ h => h.elim, fun _ _ h => h, fun _ _ _ => rfl⟩ (fun x hx => by rw [hu x] at hx; cases hx) hd) (i1 L hL), i2, fun x hx => ?_⟩
    simp only [List.any_cons, hu x, Bool.false_or] at hx
    exact i3 x hx
   split at hl
   ·rename_i j
    split at hl
    ·rename_i e t l b hj
     simp only [Option.some.injEq, Prod.mk.injEq] at hl
     obtain ⟨rfl, rfl, rfl⟩ := hl
     refine ⟨fun L hL => .cons ?_ (i1 L (fun i j hij => hL i j (List.mem_cons_of_mem _ hij))), fun i b' hi => ?_, fun x hx => ?_⟩
     ·obtain ⟨g, sz, h2⟩ := h0
      exact ⟨g, sz, (hL _ j List.mem_cons_self).trans h2⟩
     ·simp only [Sig.get, bifs] at hi
      split at hi
      ·rename_i he
       cases hi
       have he := eq_of_beq he
       subst he
       exact ⟨j, List.mem_cons_self, hj, .inl ⟨_, _, _, _, rfl⟩⟩
      ·obtain ⟨j', a1, a2⟩ := i2 i b' hi
       exact ⟨j', List.mem_cons_of_mem _ a1, a2⟩
     ·simp only [List.any_cons, Bool.or_eq_true] at hx
      simp only [Sig.get, bifs]
      split
      ·rfl
      ·rename_i hne
       rcases hx with hx | hx
       ·exact absurd hx hne
       ·exact i3 x hx
    ·rename_i e t l b hj
     simp only [Option.some.injEq] at hl
     exact plain (fun _ => rfl) ((fro_row h hj).1 _ h0) hl.symm
    ·cases hl
   ·rename_i j o m
    split at hl
    ·rename_i e t l b hj
     simp only [Option.some.injEq] at hl
     exact plain (fun _ => rfl) ((fro_row h hj).2 _ _ _ h0) hl.symm
    ·cases hl
   ·rename_i j i o
    split at hl
    ·rename_i ty bs hj
     simp only [bifs] at hl
     split at hl
     ·rename_i hc
      simp only [Bool.and_eq_true, beq_iff_eq] at hc
      obtain ⟨rfl, rfl, hf⟩ := hc
      simp only [Option.some.injEq, Prod.mk.injEq] at hl
      obtain ⟨rfl, rfl, rfl⟩ := hl
      refine ⟨fun L hL => .cons ?_ (i1 L (fun i j hij => hL i j (List.mem_cons_of_mem _ hij))), fun i b' hi => ?_, fun x hx => ?_⟩
      ·obtain ⟨g, vs, h2, _⟩ := h.blk j _ hj
       rcases h0 with ⟨_, g', h3, h4⟩ | ⟨_, _, _, _, _, h3, _⟩
       ·exact .inl ⟨rfl, g', (hL _ j List.mem_cons_self).trans h3, h4⟩
       ·rw [h2] at h3; cases h3
      ·simp only [Sig.get, bifs] at hi
       split at hi
       ·rename_i he
        cases hi
        have he := eq_of_beq he
        subst he
        exact ⟨j, List.mem_cons_self, hj, .inr ⟨_, _, rfl, hf⟩⟩
       ·obtain ⟨j', a1, a2⟩ := i2 i b' hi
        exact ⟨j', List.mem_cons_of_mem _ a1, a2⟩
      ·simp only [List.any_cons, Bool.or_eq_true] at hx
       simp only [Sig.get, bifs]
       split
       ·rfl
       ·rename_i hne
        rcases hx with hx | hx
        ·exact absurd hx hne
        ·exact i3 x hx
     ·cases hl
    ·cases hl
   ·cases hl
   ·cases hl
   ·rename_i n1 n2 n3 n4 n5
    simp only [Option.some.injEq] at hl
    refine plain (fun x => ?_) h0 hl.symm
    cases c <;> first | rfl | exact absurd rfl (n1 _) | exact absurd rfl (n2 _ _ _) | exact absurd rfl (n3 _ _ _) | exact absurd rfl (n4 _ _)
  ·cases hl
theorem Out.append {out out' : Sig} {js js' : List (Nat × Nat)} (h : Out sg out js) (h' : Out sg out' js') : Out sg (out ++ out') (js ++ js') := by
 intro i b hi
 rw [Sig.get_append] at hi
 cases ho : out.get i with
 | some b0 =>
  rw [ho] at hi
  cases hi
  obtain ⟨j, a1, a2⟩ := h i _ ho
  exact ⟨j, List.mem_append_left _ a1, a2⟩
 | none =>
  rw [ho] at hi
  obtain ⟨j, a1, a2⟩ := h' i b hi
  exact ⟨j, List.mem_append_right _ a1, a2⟩
theorem pairOf_sound {v : AV} {u : Value} {g : Bool} {cs : List Cell} (hr : rav ρ w v u) (hp : pairOf v = some (g, cs)) : rp ρ w (g, cs) u := by
 unfold pairOf at hp
 split at hp
 ·cases hp; exact ⟨_, rfl, hr⟩
 ·cases hp; exact hr
 ·cases hp
theorem rp_cells {g : Bool} {cs : List Cell} {u : Value} (h : rp ρ w (g, cs) u) : ∃ vs, All2 (rc ρ w) cs vs ∧ ∀ (ρ' : CEnv) (cs' : List Cell), All2 (rc ρ' w) cs' vs → rp ρ' w (g, cs') u := by
 cases g with
 | true =>
  obtain ⟨vs, rfl, h⟩ := h
  exact ⟨vs, h, fun ρ' cs' h' => ⟨vs, rfl, h'⟩⟩
 | false =>
  obtain ⟨c, rfl, h⟩ := h
  refine ⟨[u], .cons h .nil, fun ρ' cs' h' => ?_⟩
  cases h' with
  | cons h1 h2 => cases h2; exact ⟨_, rfl, h1⟩
theorem leaveTup_sound (h : Mem B O ρ sg w) : ∀ {vs : List AV} {n : Nat} {us : List Value} {ps : List (Bool × List Cell)} {out : Sig} {js : List (Nat × Nat)}, All2 (rav ρ w) vs us → leaveTup sg vs n = some (ps, out, js) →
  (∀ L : Nat → Loc, (∀ i j, (i, j) ∈ js → L i = ρ.loc j) → All2 (rp ⟨L, ρ.ok⟩ w) ps us) ∧ Out sg out js ∧ (∀ d, ps.any (·.2.any (·.uses d)) = true → (out.get d).isSome = true)
 | [], n, us, ps, out, js, hr, hl => by
  simp only [leaveTup, Option.some.injEq, Prod.mk.injEq] at hl
  obtain ⟨rfl, rfl, rfl⟩ := hl
  cases hr
  exact ⟨fun _ _ => .nil, (fun i b hi => by cases hi), fun d hd => by cases hd⟩
 | v :: vs, n, us, ps, out, js, hr, hl => by
  cases hr with
  | @cons _ u0 _ us h0 h1 =>
  simp only [leaveTup] at hl
  split at hl
  ·rename_i g cs hp
   split at hl
   ·rename_i cs1 out1 js1 ps2 out2 js2 hc ht
    simp only [Option.some.injEq, Prod.mk.injEq] at hl
    obtain ⟨rfl, rfl, rfl⟩ := hl
    obtain ⟨vs0, a1, a2⟩ := rp_cells (pairOf_sound h0 hp)
    obtain ⟨b1, b2, b3⟩ := leaveCells_sound h a1 hc
    obtain ⟨c1, c2, c3⟩ := leaveTup_sound h h1 ht
    refine ⟨fun L hL => .cons (a2 _ _ (b1 L fun i j hij => hL i j (List.mem_append_left _ hij))) (c1 L fun i j hij => hL i j (List.mem_append_right _ hij)), b2.append c2, fun d hd => ?_⟩
    rw [Sig.get_append]
    simp only [List.any_cons, Bool.or_eq_true] at hd
    rcases hd with hd | hd
    ·have := b3 d hd
     obtain ⟨b, hb⟩ := Option.isSome_iff_exists.1 this
     rw [hb]; rfl
    ·have := c3 d hd
     cases hb : out1.get d with
     | some b => rfl
     | none => exact this
   ·cases hl
  ·cases hl
theorem leave_mem (h : Mem B O ρ sg w) {out : Sig} {js : List (Nat × Nat)} (ho : Out sg out js) (hj : leaveOk js = true) :
  ∃ L : Nat → Loc, (∀ i j, (i, j) ∈ js → L i = ρ.loc j) ∧ Mem B O ⟨L, ρ.ok⟩ out w := by
 have hex : ∀ i, ∃ l : Loc, ∀ j, (i, j) ∈ js → l = ρ.loc j := by
  intro i
  by_cases hi : ∃ j, (i, j) ∈ js
  ·obtain ⟨j, hj1⟩ := hi
   exact ⟨ρ.loc j, fun k hk => by rw [nodup_fst hj hj1 hk]⟩
  ·exact ⟨.dead, fun j hj => absurd ⟨j, hj⟩ hi⟩
 refine ⟨fun i => Classical.choose (hex i), fun i j hij => Classical.choose_spec (hex i) j hij, ?_⟩
 have hL : ∀ i j, (i, j) ∈ js → Classical.choose (hex i) = ρ.loc j := fun i j hij => Classical.choose_spec (hex i) j hij
 have hown : ∀ i g, Owns ⟨fun i => Classical.choose (hex i), ρ.ok⟩ out i g → ∃ j, (i, j) ∈ js ∧ Owns ρ sg j g := by
  intro i g hi
  obtain ⟨b, h1, h2, h3⟩ := owns_iff.1 hi
  obtain ⟨j, a1, a2, hb⟩ := ho i b h1
  refine ⟨j, a1, owns_iff.2 ⟨_, a2, h2, ?_⟩⟩
  rcases h3 with ⟨ty, cs, h3, h4⟩ | ⟨e, t, l, q, h5, h3⟩
  ·exact .inl ⟨ty, cs, h3, (hL i j a1).symm.trans h4⟩
  ·refine .inr ⟨e, t, l, q, h5, ?_⟩
   obtain ⟨v, sz, h3⟩ := h3
   exact ⟨v, sz, (hL i j a1).symm.trans h3⟩
 refine ⟨fun i b hi => ?_, fun i k g hi hk => ?_, fun i g hi => ?_, h.okb, fun q g hq i hi => ?_, h.okm, h.okx, h.oky, fun i b d hi hd => ?_⟩
 ·obtain ⟨j, a1, a2, ⟨e, t, l, q, rfl⟩ | ⟨ty, cs, rfl, hf⟩⟩ := ho i b hi
  ·obtain ⟨v, g, xs, b1, b2⟩ := h.blk j _ a2
   exact ⟨v, g, xs, (hL i j a1).trans b1, b2⟩
  ·obtain ⟨g, vs, b1, b2, b3⟩ := h.blk j _ a2
   refine ⟨g, vs, (hL i j a1).trans b1, b2, ?_⟩
   clear b1 b2 a2 hi
   induction b3 with
   | nil => exact .nil
   | cons h1 _ ih =>
    rw [List.all_cons, Bool.and_eq_true] at hf
    exact .cons (rc_step (ρ := ρ) (ρ' := ⟨fun i => Classical.choose (hex i), ρ.ok⟩) (w := w) (w' := w) (U := fun _ => False) ⟨fun _ h => h.elim, fun _ _ h => h, fun _ _ _ => rfl⟩ (fun x hx => by rw [idfree_uses hf.1 x] at hx; cases hx) h1) (ih hf.2)
 ·obtain ⟨j, a1, a2⟩ := hown i g hi
  obtain ⟨j', a3, a4⟩ := hown k g hk
  have := h.inj j j' g a2 a4
  subst this
  exact nodup_snd hj a1 a3
 ·obtain ⟨j, a1, a2⟩ := hown i g hi
  exact h.old j g a2
 ·obtain ⟨j, a1, a2⟩ := hown i g hi
  exact h.oko q g hq j a2
 ·obtain ⟨j, a1, a2, ⟨e, t, l, q, rfl⟩ | ⟨ty, cs, rfl, hf⟩⟩ := ho i b hi
  ·cases hd
  ·simp only [Blk.uses, List.any_eq_true] at hd
   obtain ⟨c, hc, hd⟩ := hd
   rw [idfree_uses (List.all_eq_true.1 hf c hc) d] at hd
   cases hd
end
end Go.Proofs.Ytakmjjikiefheaa.Lib
namespace Go.Proofs.Ytakmjjikiefheaa.Lib
open Go Go.RowKit
set_option linter.unusedVariables false
set_option linter.unusedSimpArgs false
section
variable {P : Program} {E : Env} {B : Nat} {O O' : Ow} {w0 w w' : World} {ρ ρ' : CEnv} {a : Act} {R : Type} {r : R} {sg sg' : Sig} {st : St} {call : CallFn}
theorem Mem.ow (h : Mem B O ρ sg w) (h1 : O'.o = O.o) (h2 : O'.ok0 = O.ok0) : Mem B O' ρ sg w :=
 ⟨h.blk, h.inj, fun j g hj => by rw [h1]; exact h.old j g hj, h.okb, h.oko, h.okm, fun b g hg => by rw [h1, h2]; exact h.okx b g hg, fun b g hg => h.oky b g (by rw [← h2]; exact hg), h.dom⟩
theorem plain_rc {c : Cell} {v : Value} (hp : c.plain = true) (h : rc ρ w c v) : rc ρ' w' c v := by
 cases c with
 | int k n => exact h
 | bool b => exact h
 | str s => exact h
 | _ => cases hp
theorem plain_rav {x : AV} {v : Value} (hp : x.plain = true) (h : rav ρ w x v) : rav ρ' w' x v := by
 cases x with
 | one c => exact plain_rc hp h
 | agg cs =>
  obtain ⟨vs, h0, h1⟩ := h
  exact ⟨vs, h0, h1.imp fun c v hc h => plain_rc (List.all_eq_true.1 hp c hc) h⟩
 | tup ps => cases hp
theorem plain_cell {c : Cell} (hp : c.plain = true) (d : Nat) : c.uses d = false := by
 cases c with
 | int k n => rfl
 | bool b => rfl
 | str s => rfl
 | _ => cases hp
theorem plain_uses {x : AV} (hp : x.plain = true) (d : Nat) : x.uses d = false := by
 cases x with
 | one c => exact plain_cell hp d
 | agg cs =>
  cases h : (AV.agg cs).uses d with
  | false => rfl
  | true =>
   obtain ⟨c, hc, hu⟩ := List.any_eq_true.1 h
   rw [plain_cell (List.all_eq_true.1 hp c hc) d] at hu
   cases hu
 | tup ps => cases hp
theorem backOf_mem {js : List (Nat × Nat)} {i j : Nat} (h : backOf js j = some i) : (i, j) ∈ js := by
 induction js with
 | nil => cases h
 | cons q r ih =>
  obtain ⟨i', j'⟩ := q
  simp only [backOf, bifs, beq_iff_eq] at h
  split at h
  ·rename_i he; cases h; rw [he]; exact List.mem_cons_self
  ·exact List.mem_cons_of_mem _ (ih h)
theorem backOf_some {js : List (Nat × Nat)} {i j : Nat} (h : (i, j) ∈ js) : ∃ i', backOf js j = some i' := by
 induction js with
 | nil => cases h
 | cons q r ih =>
  obtain ⟨i0, j0⟩ := q
  simp only [backOf, bifs, beq_iff_eq]
  split
  ·exact ⟨_, rfl⟩
  ·rename_i hn
   rcases List.mem_cons.1 h with h | h
   ·cases h; exact absurd rfl hn
   ·exact ih h
theorem get_over (js : List (Nat × Nat)) (upd sg : Sig) (j : Nat) : (overSg js upd sg).get j = (sg.get j).map fun b => (match overB js upd j with | some b' => b' | none => b) := by
 induction sg with
 | nil => rfl
 | cons q r ih =>
  obtain ⟨i, b⟩ := q
  simp only [overSg, Sig.get, ih, bifs, beq_iff_eq]
  split
  ·rename_i he; subst he; rfl
  ·rfl
theorem Mem.over (h : Mem B O ρ sg w) {js : List (Nat × Nat)} {upd : Sig}
  (hf : ∀ j b', overB js upd j = some b' → (sg.get j).isSome = true → (∃ e t l q, sg.get j = some (.arr e t l q)) ∧ (∃ e t l q, b' = .arr e t l q) ∧ rblk ρ w' j b')
  (hw : ∀ k, k < w.heap.size → (∀ i j, (i, j) ∈ js → ¬ Owns ρ sg j k) → w'.heap[k]? = w.heap[k]?) (hs : w.heap.size ≤ w'.heap.size)
  (hj : ∀ i j k, (i, j) ∈ js → Owns ρ sg j k → overB js upd j = none → w'.heap[k]? = w.heap[k]?) : Mem B O ρ (overSg js upd sg) w' := by
 have hown : ∀ j g, Owns ρ (overSg js upd sg) j g → Owns ρ sg j g := by
  intro j g ho
  obtain ⟨b', h1, h2, h3⟩ := owns_iff.1 ho
  rw [get_over, Option.map_eq_some_iff] at h1
  obtain ⟨b, h4, h5⟩ := h1
  cases hb : overB js upd j with
  | none =>
   rw [hb] at h5
   simp only at h5
   subst h5
   exact owns_iff.2 ⟨b, h4, h2, h3⟩
  | some b0 =>
   rw [hb] at h5
   simp only at h5
   subst h5
   obtain ⟨⟨e, t, l, q, h6⟩, ⟨e', t', l', q', rfl⟩, _⟩ := hf j b0 hb (by rw [h4]; rfl)
   refine owns_iff.2 ⟨_, h6, by simp, .inr ⟨_, _, _, _, rfl, ?_⟩⟩
   rcases h3 with ⟨_, _, h3, _⟩ | ⟨_, _, _, _, _, h3⟩
   ·cases h3
   ·exact h3
 have hok : ∀ b g, ρ.ok b g → w'.heap[g]? = w.heap[g]? := fun b g hg => hw g (h.okb b g hg) fun i j _ => h.oko b g hg j
 have hstep : Step (fun _ => True) ρ ρ w w' := ⟨fun _ _ => rfl, fun _ _ h => h, hok⟩
 refine ⟨fun j b' hb' => ?_, fun i j g hi hj => h.inj i j g (hown i g hi) (hown j g hj), fun j g hg => h.old j g (hown j g hg), fun b g hg => Nat.lt_of_lt_of_le (h.okb b g hg) hs, fun b g hg j hj => h.oko b g hg j (hown j g hj), h.okm, h.okx, h.oky, fun j b' d hb' hd => ?_⟩
 ·rw [get_over, Option.map_eq_some_iff] at hb'
  obtain ⟨b, h4, h5⟩ := hb'
  cases hb : overB js upd j with
  | some b0 =>
   rw [hb] at h5
   simp only at h5
   subst h5
   exact (hf j b0 hb (by rw [h4]; rfl)).2.2
  | none =>
   rw [hb] at h5
   simp only at h5
   subst h5
   refine rblk_step hstep trivial (fun _ _ => trivial) (fun g hg hn => ?_) (h.blk j b h4)
   have ho : Owns ρ sg j g := by
    refine owns_iff.2 ⟨b, h4, hn, ?_⟩
    have hr := h.blk j b h4
    cases b with
    | fro e t l q => exact absurd rfl (hn e t l q)
    | box ty cs =>
     refine .inl ⟨ty, cs, rfl, ?_⟩
     rcases hg with hg | ⟨v, sz, hg⟩
     ·exact hg
     ·obtain ⟨g', vs, h3, _⟩ := hr
      rw [hg] at h3; cases h3
    | arr e t l q =>
     refine .inr ⟨e, t, l, q, rfl, ?_⟩
     rcases hg with hg | hg
     ·obtain ⟨v', g', xs, h3, _⟩ := hr
      rw [hg] at h3; cases h3
     ·exact hg
   by_cases hin : ∃ i, (i, j) ∈ js
   ·obtain ⟨i, hi⟩ := hin
    exact hj i j g hi ho hb
   ·refine hw g (h.lt ho) fun i k hk hk' => hin ⟨i, ?_⟩
    have := h.inj k j g hk' ho
    subst this
    exact hk
 ·rw [get_over, Option.map_eq_some_iff] at hb'
  obtain ⟨b, h4, h5⟩ := hb'
  rw [get_over, Option.isSome_map]
  cases hb : overB js upd j with
  | some b0 =>
   rw [hb] at h5
   simp only at h5
   subst h5
   obtain ⟨_, ⟨e', t', l', q', rfl⟩, _⟩ := hf j b0 hb (by rw [h4]; rfl)
   cases hd
  | none =>
   rw [hb] at h5
   simp only at h5
   subst h5
   exact h.dom j b d h4 hd
theorem avOf_rav {p : Bool × List Cell} {v : Value} (h : rp ρ w p v) : rav ρ w (avOf p) v := by
 obtain ⟨g, cs⟩ := p
 cases g with
 | true => exact h
 | false => obtain ⟨c, rfl, h⟩ := h; exact h
theorem avOf_uses {p : Bool × List Cell} {d : Nat} (h : (avOf p).uses d = true) : p.2.any (·.uses d) = true := by
 obtain ⟨g, cs⟩ := p
 cases g with
 | true => exact h
 | false =>
  have h : (oneOf cs).uses d = true := h
  unfold oneOf at h
  split at h
  ·simpa [AV.uses] using h
  ·cases h
theorem bld_owns (w : World) (hm : ∀ g, ρ.ok false g → ρ.ok true g) {ss : List SP} {gs : List (Nat × GP)} {v : StT ss gs} (hc : capSt ss gs st = some v) {j g : Nat} (hj : Owns ρ (bldSt ss gs v).sg j g) : Owns ρ st.sg j g := by
 unfold capSt at hc
 obtain ⟨h1, _, _⟩ := SPs.sound (w := w) hm hc
 obtain ⟨h4, _⟩ := GPs.sound (w := w) hm h1
 unfold Owns at hj
 cases hb : (bldSt ss gs v).sg.get j with
 | none => rw [hb] at hj; exact hj.elim
 | some b' =>
  obtain ⟨b, h6, h7, h8, h9⟩ := h4 j b' hb
  rw [hb] at hj
  exact h8 g (by cases b' <;> exact hj)
theorem bld_arr (w : World) (hm : ∀ g, ρ.ok false g → ρ.ok true g) {ss : List SP} {gs : List (Nat × GP)} {v : StT ss gs} (hc : capSt ss gs st = some v) {j : Nat} (hj : ((bldSt ss gs v).sg.get j).isSome = true) : (st.sg.get j).isSome = true := by
 unfold capSt at hc
 obtain ⟨h1, _, _⟩ := SPs.sound (w := w) hm hc
 obtain ⟨h4, _⟩ := GPs.sound (w := w) hm h1
 obtain ⟨b', hb⟩ := Option.isSome_iff_exists.1 hj
 obtain ⟨b, h6, _⟩ := h4 j b' hb
 rw [h6]; rfl
theorem vmark_sound (h : Sim P B O w0 ρ st a w) {o : Oper} {c : Call} {g : FuncId} (ho : o.op = .call c) (hc : c.callee = .value (.func g)) {m : Mrk} (hm : MarkOk P g m) {k : St → Option R} (hk : vmarkOp st o.dst m (c.args.toList.map (evalO st.sl)) k = some r)
  {next : Act → World → Prop} {Q : Exit → Act → World → Prop} (hnext : ∀ ρ' st' a' w', k st' = some r → Sim P B O w0 ρ' st' a' w' → next a' w') : o.wp P a w next Q := by
 unfold vmarkOp at hk
 split at hk
 ·rename_i ps out js ht
  rw [bifs] at hk
  split at hk
  ·rename_i hj0
   rw [Bool.and_eq_true] at hj0
   have hj := hj0.1
   have hja := hj0.2
   split at hk
   ·rename_i v hv
    rw [Ways.run_bind, Option.bind_eq_some_iff] at hk
    obtain ⟨⟨res, upd⟩, hF, hk⟩ := hk
    simp only [bifs] at hk
    split at hk
    ·rename_i hpl
     rw [Bool.and_eq_true] at hpl
     have hav : All2 (rav ρ w) (c.args.toList.map (evalO st.sl)) (c.args.toList.map a.eval) := by
      induction c.args.toList with
      | nil => exact .nil
      | cons x xs ih => exact .cons (h.eval x).1 ih
     obtain ⟨b1, b2, b3⟩ := leaveTup_sound h.mem hav ht
     obtain ⟨L, c1, c2⟩ := leave_mem h.mem b2 hj
     have b2 : ∀ i b, out.get i = some b → ∃ j, (i, j) ∈ js ∧ st.sg.get j = some b ∧ ∃ e t l q, b = .arr e t l q := fun i b hi => by
      obtain ⟨j, a1, a2, h3 | ⟨ty, cs, rfl, _⟩⟩ := b2 i b hi
      ·exact ⟨j, a1, a2, h3⟩
      ·have := List.all_eq_true.1 hja _ (Sig.get_mem hi)
       cases this
     have hargs := b1 L c1
     obtain ⟨hwf, ⟨fn, hfn, hbody, hname⟩, hcalls⟩ := hm
     have hS : Sim P B ⟨O.o, O.ok0, L⟩ w ⟨L, ρ.ok⟩ ⟨ps.map avOf, out⟩ { tmps := (c.args.toList.map a.eval).toArray, defers := [] } w := by
      have hal : All2 (rav ⟨L, ρ.ok⟩ w) (ps.map avOf) (c.args.toList.map a.eval) := hargs.map_left _ fun p u _ h => avOf_rav h
      refine ⟨c2.ow rfl rfl, by simp [← hal.length], fun i v hi => ?_, fun i v d hi hd => ?_, rfl, Keeps.refl _ _ _, h.base, fun _ _ => rfl, h.glow⟩
      ·obtain ⟨u, h1, h2⟩ := hal.get i hi
       exact ⟨u, by simpa using h1, h2⟩
      ·simp only [List.getElem?_map, Option.map_eq_some_iff] at hi
       obtain ⟨p, hp, rfl⟩ := hi
       exact b3 d (List.any_eq_true.2 ⟨p, List.mem_of_getElem? hp, avOf_uses hd⟩)
     have hcl := hcalls v res upd hF _ _ _ _ _ (hS.cap hwf hv)
     have hrun : (execOp a.eval o).run P w = .ok (.enter g (c.args.toList.map a.eval).toArray) w := by
      have hargs : (c.args.toList.map a.eval).toArray = c.args.map a.eval := by
       apply Array.ext'
       simp
      rw [hargs]
      unfold execOp
      have hbn : ¬ (fn.body = none) := by intro hb; rw [hb] at hbody; cases hbody
      have hnn : ¬ (fn.name = "runtime.NumGoroutine") := by intro hn; rw [hn] at hname; simp at hname
      have hfe : a.eval (.func g) = .func (.func g) #[] #[] := rfl
      simp [ho, hc, resolve, hfe, Deferred.ofValue, Sem.run_bind, invoke, callFunc, hfn]
      rw [if_neg hnn, if_neg hbn]
     unfold Oper.wp
     rw [hrun, Oper.upon_enter]
     refine hcl.mono fun e w' hh => ?_
     obtain ⟨u, rfl, hr, hupd, hos, htape, hout, hsz, hfr⟩ := hh
     have hL : ∀ i j, (i, j) ∈ js → L i = ρ.loc j := c1
     have hown : ∀ i g, Owns ⟨L, ρ.ok⟩ out i g → ∃ j, (i, j) ∈ js ∧ Owns ρ st.sg j g := by
      intro i g hi
      obtain ⟨b, h1, h2, h3⟩ := owns_iff.1 hi
      obtain ⟨j, a1, a2, e, t, l, q, rfl⟩ := b2 i b h1
      refine ⟨j, a1, owns_iff.2 ⟨_, a2, h2, ?_⟩⟩
      rcases h3 with ⟨_, _, h3, _⟩ | ⟨_, _, _, _, _, h3⟩
      ·cases h3
      ·refine .inr ⟨_, _, _, _, rfl, ?_⟩
       obtain ⟨v, sz, h3⟩ := h3
       exact ⟨v, sz, (hL i j a1).symm.trans h3⟩
     have hframe : ∀ k, k < w.heap.size → (∀ i j, (i, j) ∈ js → ¬ Owns ρ st.sg j k) → w'.heap[k]? = w.heap[k]? := by
      intro k hk hn
      refine hfr k hk fun i hi => ?_
      obtain ⟨j, h1, h2⟩ := hown i k (bld_owns w (ρ := ⟨L, ρ.ok⟩) (st := ⟨ps.map avOf, out⟩) h.mem.okm hv hi)
      exact hn i j h1 h2
     have hup : ∀ j b', overB js upd j = some b' → (∃ e t l q, st.sg.get j = some (.arr e t l q)) ∧ (∃ e t l q, b' = .arr e t l q) ∧ rblk ρ w' j b' := by
      intro j b' hb
      unfold overB at hb
      split at hb
      ·rename_i i hi
       have hij := backOf_mem hi
       obtain ⟨⟨e, t, l, q, h1⟩, ⟨e', t', l', q', rfl⟩, h3⟩ := hupd i b' hb
       have h4 := bld_arr w (ρ := ⟨L, ρ.ok⟩) (st := ⟨ps.map avOf, out⟩) h.mem.okm hv (j := i) (by rw [h1]; rfl)
       obtain ⟨b0, h5⟩ := Option.isSome_iff_exists.1 h4
       obtain ⟨j', h6, h7, e2, t2, l2, q2, rfl⟩ := b2 i b0 h5
       have := nodup_fst hj h6 hij
       subst this
       refine ⟨⟨_, _, _, _, h7⟩, ⟨_, _, _, _, rfl⟩, ?_⟩
       obtain ⟨va, gg, xs, d1, d2⟩ := h3
       exact ⟨va, gg, xs, (hL i _ h6).symm.trans d1, d2⟩
      ·cases hb
     have hquiet : ∀ i j k, (i, j) ∈ js → Owns ρ st.sg j k → overB js upd j = none → w'.heap[k]? = w.heap[k]? := by
      intro i j k hij hjk hnone
      obtain ⟨i', hi'⟩ := backOf_some hij
      have h1 := List.all_eq_true.1 hpl.2 _ (backOf_mem hi')
      unfold overB at hnone
      rw [hi'] at hnone
      simp only at hnone h1
      rw [hnone] at h1
      cases h1
     have hM := h.mem.over (w' := w') (js := js) (upd := upd) (fun j b' hb _ => hup j b' hb) hframe hsz hquiet
     have hok : ∀ b g, ρ.ok b g → w'.heap[g]? = w.heap[g]? := fun b g hg => hframe g (h.mem.okb b g hg) fun i j _ => h.mem.oko b g hg j
     have hstep : Step (fun _ => True) ρ ρ w w' := ⟨fun _ _ => rfl, fun _ _ h => h, hok⟩
     have hkp : Keeps B O w w' := ⟨hos, htape, hout, hsz, fun k hk hn => hframe k (Nat.lt_of_lt_of_le hk h.base) fun i j _ hjk => by
      rcases h.mem.old j k hjk with h0 | h0
      ·omega
      ·exact hn h0⟩
     have hS' : Sim P B O w0 ρ ⟨st.sl, overSg js upd st.sg⟩ a w' := by
      refine ⟨hM, h.len, fun i v hi => ?_, fun i v d hi hd => ?_, h.defers, h.fr.trans hkp, Nat.le_trans h.base hsz, h.pin, h.glo⟩
      ·obtain ⟨u, h1, h2⟩ := h.sl i v hi
       exact ⟨u, h1, rav_step hstep (fun _ _ => trivial) h2⟩
      ·show (Sig.get d (overSg js upd st.sg)).isSome = true
       rw [get_over, Option.isSome_map]
       exact h.dom i v d hi hd
     exact hnext ρ _ _ w' hk (hS'.put o.dst (plain_rav hpl.1 hr) (fun d hd => by rw [plain_uses hpl.1 d] at hd; cases hd))
    ·cases hk
   ·cases hk
  ·cases hk
 ·cases hk
end
end Go.Proofs.Ytakmjjikiefheaa.Lib
namespace Go.Proofs.Ytakmjjikiefheaa.Lib
open Go Go.RowKit
set_option linter.unusedVariables false
set_option linter.unusedSimpArgs false
theorem look_mem {js : List (Nat × Nat)} {j i : Nat} (h : look js j = some i) : (j, i) ∈ js := by
 induction js with
 | nil => cases h
 | cons q r ih =>
  obtain ⟨a, b⟩ := q
  simp only [look, bifs, beq_iff_eq] at h
  split at h
  ·rename_i he; cases h; rw [he]; exact List.mem_cons_self
  ·exact List.mem_cons_of_mem _ (ih h)
theorem look_some {js : List (Nat × Nat)} {j i : Nat} (h : (j, i) ∈ js) : ∃ i', look js j = some i' := by
 induction js with
 | nil => cases h
 | cons q r ih =>
  obtain ⟨a, b⟩ := q
  simp only [look, bifs, beq_iff_eq]
  split
  ·exact ⟨_, rfl⟩
  ·rename_i hn
   rcases List.mem_cons.1 h with h | h
   ·cases h; exact absurd rfl hn
   ·exact ih h
theorem look_iff {js : List (Nat × Nat)} (hj : leaveOk js = true) {j i : Nat} : look js j = some i ↔ (j, i) ∈ js := by
 refine ⟨look_mem, fun h => ?_⟩
 obtain ⟨i', h'⟩ := look_some h
 rw [h', nodup_fst hj (look_mem h') h]
theorem back_iff {js : List (Nat × Nat)} (hj : leaveOk js = true) {j i : Nat} : backOf js i = some j ↔ (j, i) ∈ js := by
 refine ⟨backOf_mem, fun h => ?_⟩
 obtain ⟨j', h'⟩ := backOf_some h
 rw [h', nodup_snd hj (backOf_mem h') h]
theorem lookAll_spec {f : Nat → Option Nat} : ∀ {js l : List Nat}, lookAll f js = some l → All2 (fun j i => f j = some i) js l
 | [], l, h => by cases h; exact .nil
 | j :: r, l, h => by
  simp only [lookAll] at h
  split at h
  ·rename_i i l' h1 h2
   cases h
   exact .cons h1 (lookAll_spec h2)
  ·cases h
theorem All2.comp {α β γ : Type} {R : α → β → Prop} {S : α → γ → Prop} {T : β → γ → Prop} (hc : ∀ a b c, R a b → S a c → T b c) : ∀ {l : List α} {m : List β} {n : List γ}, All2 R l m → All2 S l n → All2 T m n
 | [], [], [], .nil, .nil => .nil
 | _ :: _, _ :: _, _ :: _, .cons h1 h2, .cons h3 h4 => .cons (hc _ _ _ h1 h3) (All2.comp hc h2 h4)
theorem ren_rc {ρ ρ' : CEnv} {w : World} {f : Nat → Option Nat} (hl : ∀ j i, f j = some i → ρ'.loc i = ρ.loc j) (ho : ρ'.ok = ρ.ok) {c : Cell} {v : Value} (h : rc ρ w c v) : rc ρ' w (c.ren f) v := by
 obtain ⟨l', o'⟩ := ρ'
 simp only at hl ho
 subst ho
 cases c with
 | int k n => exact h
 | bool b => exact h
 | str s => exact h
 | nil => exact h
 | cap0 => exact h
 | nul f => exact h
 | emb e t l b => exact h
 | eptr t x c b => exact h
 | fn f caps => exact h
 | und => exact h
 | sl j =>
  simp only [Cell.ren]
  split
  ·rename_i i hi
   obtain ⟨g, sz, h⟩ := h
   exact ⟨g, sz, (hl j i hi).trans h⟩
  ·trivial
 | sub j o n =>
  simp only [Cell.ren]
  split
  ·rename_i i hi
   obtain ⟨A, m, c, g, sz, h, h1⟩ := h
   exact ⟨A, m, c, g, sz, (hl j i hi).trans h, h1⟩
  ·trivial
 | ptr j k c =>
  simp only [Cell.ren]
  split
  ·rename_i i hi
   rcases h with ⟨h0, g, h, h1⟩ | ⟨a, m, cp, g, sz, h, h1⟩
   ·exact .inl ⟨h0, g, (hl j i hi).trans h, h1⟩
   ·exact .inr ⟨a, m, cp, g, sz, (hl j i hi).trans h, h1⟩
  ·trivial
 | fnp g js =>
  simp only [Cell.ren]
  split
  ·rename_i l hi
   obtain ⟨vs, h, h1⟩ := h
   refine ⟨vs, h, All2.comp (fun j i v h1 h2 => ?_) (lookAll_spec hi) h1⟩
   obtain ⟨g, h2, h3⟩ := h2
   exact ⟨g, (hl j i h1).trans h2, h3⟩
  ·trivial
theorem ren_cells {ρ ρ' : CEnv} {w : World} {f : Nat → Option Nat} (hl : ∀ j i, f j = some i → ρ'.loc i = ρ.loc j) (ho : ρ'.ok = ρ.ok) {cs : List Cell} {vs : List Value} (h : All2 (rc ρ w) cs vs) : All2 (rc ρ' w) (cs.map (·.ren f)) vs :=
 h.map_left _ fun c v _ h => ren_rc hl ho h
theorem ren_rav {ρ ρ' : CEnv} {w : World} {f : Nat → Option Nat} (hl : ∀ j i, f j = some i → ρ'.loc i = ρ.loc j) (ho : ρ'.ok = ρ.ok) {x : AV} {v : Value} (h : rav ρ w x v) : rav ρ' w (x.ren f) v := by
 cases x with
 | one c => exact ren_rc hl ho h
 | agg cs =>
  obtain ⟨vs, h, h1⟩ := h
  exact ⟨vs, h, ren_cells hl ho h1⟩
 | tup ps =>
  obtain ⟨vs, h, h1⟩ := h
  refine ⟨vs, h, h1.map_left _ fun p v _ h => ?_⟩
  obtain ⟨g, cs⟩ := p
  cases g with
  | true =>
   obtain ⟨vs, h, h1⟩ := h
   exact ⟨vs, h, ren_cells hl ho h1⟩
  | false =>
   obtain ⟨c, rfl, h⟩ := h
   exact ⟨_, rfl, ren_rc hl ho h⟩
theorem ren_uses {f : Nat → Option Nat} {c : Cell} {d : Nat} (h : (c.ren f).uses d = true) : ∃ j, f j = some d ∧ c.uses j = true := by
 cases c with
 | sl j =>
  simp only [Cell.ren] at h
  split at h
  ·rename_i i hi
   have := eq_of_beq h; subst this
   exact ⟨j, hi, by simp [Cell.uses]⟩
  ·cases h
 | sub j o n =>
  simp only [Cell.ren] at h
  split at h
  ·rename_i i hi
   have := eq_of_beq h; subst this
   exact ⟨j, hi, by simp [Cell.uses]⟩
  ·cases h
 | ptr j k c =>
  simp only [Cell.ren] at h
  split at h
  ·rename_i i hi
   have := eq_of_beq h; subst this
   exact ⟨j, hi, by simp [Cell.uses]⟩
  ·cases h
 | fnp g js =>
  simp only [Cell.ren] at h
  split at h
  ·rename_i l hi
   have h : l.contains d = true := h
   rw [List.contains_iff_mem] at h
   have key : ∀ {js l : List Nat}, All2 (fun j i => f j = some i) js l → d ∈ l → ∃ j ∈ js, f j = some d := by
    intro js l hl
    induction hl with
    | nil => intro h; cases h
    | cons h0 _ ih =>
     intro h
     rcases List.mem_cons.1 h with rfl | h
     ·exact ⟨_, List.mem_cons_self, h0⟩
     ·obtain ⟨j, h1, h2⟩ := ih h
      exact ⟨j, List.mem_cons_of_mem _ h1, h2⟩
   obtain ⟨j, h1, h2⟩ := key (lookAll_spec hi) h
   exact ⟨j, h2, by simp [Cell.uses, h1]⟩
  ·cases h
 | _ => cases h
theorem ren_any {f : Nat → Option Nat} {cs : List Cell} {d : Nat} (h : (cs.map (·.ren f)).any (·.uses d) = true) : ∃ j, f j = some d ∧ cs.any (·.uses j) = true := by
 obtain ⟨c', hc', hd⟩ := List.any_eq_true.1 h
 obtain ⟨c, hc, rfl⟩ := List.mem_map.1 hc'
 obtain ⟨j, h1, h2⟩ := ren_uses hd
 exact ⟨j, h1, List.any_eq_true.2 ⟨c, hc, h2⟩⟩
theorem ren_av {f : Nat → Option Nat} {x : AV} {d : Nat} (h : (x.ren f).uses d = true) : ∃ j, f j = some d ∧ x.uses j = true := by
 cases x with
 | one c => exact ren_uses h
 | agg cs => exact ren_any h
 | tup ps =>
  obtain ⟨q, hq, hd⟩ := List.any_eq_true.1 h
  obtain ⟨p, hp, rfl⟩ := List.mem_map.1 hq
  obtain ⟨j, h1, h2⟩ := ren_any hd
  exact ⟨j, h1, List.any_eq_true.2 ⟨p, hp, h2⟩⟩
theorem ren_blk {f : Nat → Option Nat} {b : Blk} {d : Nat} (h : (b.ren f).uses d = true) : ∃ j, f j = some d ∧ b.uses j = true := by
 cases b with
 | box t cs => exact ren_any h
 | _ => cases h
theorem ren_rblk {ρ ρ' : CEnv} {w : World} {f : Nat → Option Nat} (hl : ∀ j i, f j = some i → ρ'.loc i = ρ.loc j) (ho : ρ'.ok = ρ.ok) {j i : Nat} {b : Blk} (hi : ρ'.loc i = ρ.loc j) (h : rblk ρ w j b) : rblk ρ' w i (b.ren f) := by
 cases b with
 | box t cs =>
  obtain ⟨g, vs, h1, h2, h3⟩ := h
  exact ⟨g, vs, hi.trans h1, h2, ren_cells hl ho h3⟩
 | arr e t l b =>
  obtain ⟨v, g, xs, h1, h2, h3⟩ := h
  exact ⟨v, g, xs, hi.trans h1, by rw [ho]; exact h2, h3⟩
 | fro e t l b =>
  obtain ⟨v, g, h1, h2⟩ := h
  exact ⟨v, g, hi.trans h1, by rw [ho]; exact h2⟩
theorem get_sel {f : Nat → Option Nat} {sg : Sig} : ∀ {js : List (Nat × Nat)}, leaveOk js = true → ∀ {i : Nat} {b : Blk}, (sg.sel f js).get i = some b → ∃ j b0, (j, i) ∈ js ∧ sg.get j = some b0 ∧ b = b0.ren f
 | [], _, i, b, h => by cases h
 | (j, k) :: r, hj, i, b, h => by
  have hr : leaveOk r = true := by
   simp only [leaveOk, List.map_cons, nodup, Bool.and_eq_true] at hj ⊢
   exact ⟨hj.1.2, hj.2.2⟩
  simp only [Sig.sel] at h
  split at h
  ·rename_i b0 hb
   simp only [Sig.get, bifs, beq_iff_eq] at h
   split at h
   ·rename_i he
    cases h
    subst he
    exact ⟨j, b0, List.mem_cons_self, hb, rfl⟩
   ·obtain ⟨j', b', h1, h2, h3⟩ := get_sel hr h
    exact ⟨j', b', List.mem_cons_of_mem _ h1, h2, h3⟩
  ·obtain ⟨j', b', h1, h2, h3⟩ := get_sel hr h
   exact ⟨j', b', List.mem_cons_of_mem _ h1, h2, h3⟩
theorem sel_get {f : Nat → Option Nat} {sg : Sig} : ∀ {js : List (Nat × Nat)} {j i : Nat}, (j, i) ∈ js → (sg.get j).isSome = true → ((sg.sel f js).get i).isSome = true
 | [], _, _, h, _ => by cases h
 | (a, k) :: r, j, i, h, hs => by
  simp only [Sig.sel]
  rcases List.mem_cons.1 h with h | h
  ·cases h
   obtain ⟨b, hb⟩ := Option.isSome_iff_exists.1 hs
   rw [hb]
   simp [Sig.get]
  ·have ih := sel_get (f := f) h hs
   split
   ·simp only [Sig.get, bifs]
    split
    ·rfl
    ·exact ih
   ·exact ih
section
variable {P : Program} {E : Env} {B : Nat} {O O' : Ow} {w0 w w' : World} {ρ ρ' : CEnv} {a : Act} {R : Type} {r : R} {sg sg' : Sig} {st : St} {call : CallFn}
theorem owns_sel {js : List (Nat × Nat)} (hj : leaveOk js = true) {f : Nat → Option Nat} (hl : ∀ j i, (j, i) ∈ js → ρ'.loc i = ρ.loc j) {i g : Nat} (h : Owns ρ' (sg.sel f js) i g) : ∃ j, (j, i) ∈ js ∧ Owns ρ sg j g := by
 obtain ⟨b, h1, h2, h3⟩ := owns_iff.1 h
 obtain ⟨j, b0, h4, h5, rfl⟩ := get_sel hj h1
 refine ⟨j, h4, owns_iff.2 ⟨b0, h5, ?_, ?_⟩⟩
 ·rintro e t l q rfl; exact h2 _ _ _ _ rfl
 ·rw [hl j i h4] at h3
  cases b0 with
  | box ty cs =>
   rcases h3 with ⟨_, _, _, h3⟩ | ⟨_, _, _, _, h3, _⟩
   ·exact .inl ⟨_, _, rfl, h3⟩
   ·cases h3
  | arr e t l q =>
   rcases h3 with ⟨_, _, h3, _⟩ | ⟨_, _, _, _, _, h3⟩
   ·cases h3
   ·exact .inr ⟨_, _, _, _, rfl, h3⟩
  | fro e t l q => exact absurd rfl (h2 e t l q)
theorem Mem.sel (h : Mem B O ρ sg w) {js : List (Nat × Nat)} (hj : leaveOk js = true) (hs : ∀ j i, (j, i) ∈ js → (sg.get j).isSome = true) (hl : ∀ j i, (j, i) ∈ js → ρ'.loc i = ρ.loc j) (ho : ρ'.ok = ρ.ok) : Mem B O ρ' (sg.sel (look js) js) w := by
 have hl' : ∀ j i, look js j = some i → ρ'.loc i = ρ.loc j := fun j i h => hl j i (look_mem h)
 refine ⟨fun i b hi => ?_, fun i k g hi hk => ?_, fun i g hi => ?_, fun b g hg => h.okb b g (by rw [← ho]; exact hg), fun b g hg i hi => ?_, fun g hg => (by rw [ho] at hg ⊢; exact h.okm g hg), fun b g hg => h.okx b g (by rw [← ho]; exact hg), fun b g hg => (by rw [ho]; exact h.oky b g hg), fun i b d hi hd => ?_⟩
 ·obtain ⟨j, b0, h1, h2, rfl⟩ := get_sel hj hi
  exact ren_rblk hl' ho (hl j i h1) (h.blk j b0 h2)
 ·obtain ⟨j, h1, h2⟩ := owns_sel hj hl hi
  obtain ⟨j', h3, h4⟩ := owns_sel hj hl hk
  have := h.inj j j' g h2 h4
  subst this
  exact nodup_fst hj h1 h3
 ·obtain ⟨j, h1, h2⟩ := owns_sel hj hl hi
  exact h.old j g h2
 ·obtain ⟨j, h1, h2⟩ := owns_sel hj hl hi
  exact h.oko b g (by rw [← ho]; exact hg) j h2
 ·obtain ⟨j, b0, h1, h2, rfl⟩ := get_sel hj hi
  obtain ⟨k, h3, h4⟩ := ren_blk hd
  exact sel_get (look_mem h3) (hs k d (look_mem h3))
def locSel (ρ : CEnv) (js : List (Nat × Nat)) : Nat → Loc := fun i => match backOf js i with | some j => ρ.loc j | none => ρ.loc i
theorem locSel_spec {js : List (Nat × Nat)} (hj : leaveOk js = true) {j i : Nat} (h : (j, i) ∈ js) : locSel ρ js i = ρ.loc j := by
 unfold locSel
 rw [(back_iff hj).2 h]
end
end Go.Proofs.Ytakmjjikiefheaa.Lib
namespace Go.Proofs.Ytakmjjikiefheaa.Lib
open Go Go.RowKit
set_option linter.unusedVariables false
set_option linter.unusedSimpArgs false
theorem get_mapk (s : Sig) (f : Nat → Blk → Blk) (i : Nat) : Sig.get i (s.map fun p => (p.1, f p.1 p.2)) = (s.get i).map (f i) := by
 induction s with
 | nil => rfl
 | cons q r ih =>
  obtain ⟨a, c⟩ := q
  simp only [List.map_cons, Sig.get, ih, bifs, beq_iff_eq]
  split
  ·rename_i he; subst he; rfl
  ·rfl
theorem prepAdd_spec {sg : Sig} : ∀ {gs : List (Nat × GP)} {j : Nat} {b : Blk}, (prepAdd sg gs).get j = some b → sg.get j = none ∧ j < PIN ∧ ∃ e t, b = .arr e t [] false
 | [], j, b, h => by cases h
 | (i, g) :: r, j, b, h => by
  simp only [prepAdd] at h
  split at h
  ·rename_i e t q
   simp only [bifs] at h
   split at h
   ·rename_i hc
    simp only [Bool.and_eq_true, Option.isNone_iff_eq_none, Nat.blt_eq] at hc
    simp only [Sig.get, bifs, beq_iff_eq] at h
    split at h
    ·rename_i he
     subst he
     cases h
     exact ⟨hc.1, hc.2, _, _, rfl⟩
    ·exact prepAdd_spec h
   ·exact prepAdd_spec h
  ·exact prepAdd_spec h
def prepLoc (ρ : CEnv) (add : Sig) (i : Nat) : Loc := match add.get i with | some (.arr _ t _ _) => .arr (.slice none 0 0) none t.sz | _ => ρ.loc i
section
variable {P : Program} {E : Env} {B : Nat} {O O' : Ow} {w0 w w' : World} {ρ ρ' : CEnv} {a : Act} {R : Type} {r : R} {sg sg' : Sig} {st : St} {call : CallFn}
theorem nilOwn_rc {add : Sig} (hadd : ∀ j b, add.get j = some b → ∃ e t, b = .arr e t [] false) {p : CP} {c : Cell} {v : Value} (h : rc ⟨prepLoc ρ add, ρ.ok⟩ w c v) : rc ⟨prepLoc ρ add, ρ.ok⟩ w (nilOwn add p c) v := by
 unfold nilOwn
 split
 ·rename_i j
  rw [bifs]
  split
  ·rename_i hj
   obtain ⟨b, hb⟩ := Option.isSome_iff_exists.1 hj
   obtain ⟨e, t, rfl⟩ := hadd j b hb
   have h : v = .slice none 0 0 := h
   subst h
   exact ⟨none, t.sz, by simp only [prepLoc, hb]⟩
  ·exact h
 ·exact h
theorem nilOwn_uses {add : Sig} {p : CP} {c : Cell} {d : Nat} (h : (nilOwn add p c).uses d = true) : c.uses d = true ∨ (add.get d).isSome = true := by
 unfold nilOwn at h
 split at h
 ·rename_i j
  rw [bifs] at h
  split at h
  ·rename_i hj
   have := eq_of_beq h; subst this
   exact .inr hj
  ·cases h
 ·exact .inl h
theorem prepCs_rc {add : Sig} (hadd : ∀ j b, add.get j = some b → ∃ e t, b = .arr e t [] false) : ∀ {ps : List CP} {cs : List Cell} {vs : List Value}, All2 (rc ⟨prepLoc ρ add, ρ.ok⟩ w) cs vs → All2 (rc ⟨prepLoc ρ add, ρ.ok⟩ w) (prepCs add ps cs) vs
 | [], cs, vs, h => h
 | p :: r, cs, vs, h => by
  simp only [prepCs]
  split
  ·rename_i t b
   have h1 := h.take t.sz
   have h2 := prepCs_rc hadd (ps := r) (h.drop t.sz)
   have := h1.append h2
   rwa [List.take_append_drop] at this
  ·split
   ·rename_i c cs
    cases h with
    | cons h0 h1 => exact .cons (nilOwn_rc hadd h0) (prepCs_rc hadd h1)
   ·exact h
theorem prepCs_uses {add : Sig} : ∀ {ps : List CP} {cs : List Cell} {d : Nat}, (prepCs add ps cs).any (·.uses d) = true → cs.any (·.uses d) = true ∨ (add.get d).isSome = true
 | [], cs, d, h => .inl h
 | p :: r, cs, d, h => by
  simp only [prepCs] at h
  split at h
  ·rename_i t b
   rw [List.any_append, Bool.or_eq_true] at h
   rcases h with h | h
   ·left
    obtain ⟨c, hc, hd⟩ := List.any_eq_true.1 h
    exact List.any_eq_true.2 ⟨c, List.mem_of_mem_take hc, hd⟩
   ·rcases prepCs_uses h with h | h
    ·left
     obtain ⟨c, hc, hd⟩ := List.any_eq_true.1 h
     exact List.any_eq_true.2 ⟨c, List.mem_of_mem_drop hc, hd⟩
    ·exact .inr h
  ·split at h
   ·rename_i c cs
    rw [List.any_cons, Bool.or_eq_true] at h ⊢
    rcases h with h | h
    ·exact (nilOwn_uses h).imp .inl id
    ·exact (prepCs_uses h).imp .inr id
   ·exact .inl h
theorem prepAV_rav {add : Sig} (hadd : ∀ j b, add.get j = some b → ∃ e t, b = .arr e t [] false) {s : SP} {x : AV} {v : Value} (h : rav ⟨prepLoc ρ add, ρ.ok⟩ w x v) : rav ⟨prepLoc ρ add, ρ.ok⟩ w (prepAV add s x) v := by
 unfold prepAV
 split
 ·exact nilOwn_rc hadd h
 ·obtain ⟨vs, h, h1⟩ := h
  exact ⟨vs, h, prepCs_rc hadd h1⟩
 ·exact h
theorem prepAV_uses {add : Sig} {s : SP} {x : AV} {d : Nat} (h : (prepAV add s x).uses d = true) : x.uses d = true ∨ (add.get d).isSome = true := by
 unfold prepAV at h
 split at h
 ·exact nilOwn_uses h
 ·exact prepCs_uses h
 ·exact .inl h
theorem prepSl_get {add : Sig} : ∀ {ss : List SP} {vs : List AV} {i : Nat} {x : AV}, (prepSl add ss vs)[i]? = some x → ∃ v, vs[i]? = some v ∧ (x = v ∨ ∃ s, x = prepAV add s v)
 | [], vs, i, x, h => ⟨x, h, .inl rfl⟩
 | s :: ss, [], i, x, h => ⟨x, h, .inl rfl⟩
 | s :: ss, v :: vs, i, x, h => by
  cases i with
  | zero =>
   simp only [prepSl, List.getElem?_cons_zero, Option.some.injEq] at h
   exact ⟨v, rfl, .inr ⟨s, h.symm⟩⟩
  | succ i =>
   simp only [prepSl, List.getElem?_cons_succ] at h ⊢
   exact prepSl_get h
theorem prepSl_len {add : Sig} : ∀ {ss : List SP} {vs : List AV}, (prepSl add ss vs).length = vs.length
 | [], vs => by simp [prepSl]
 | s :: ss, [] => by simp [prepSl]
 | s :: ss, v :: vs => by simp [prepSl, prepSl_len]
theorem Sim.fresh (h : Sim P B O w0 ρ st a w) (ss : List SP) (gs : List (Nat × GP)) :
  ∃ ρ', Sim P B O w0 ρ' (st.fresh ss gs) a w ∧ ρ'.ok = ρ.ok ∧ (∀ i, PIN ≤ i → ρ'.loc i = ρ.loc i) ∧ ∀ j g, Owns ρ' (st.fresh ss gs).sg j g → Owns ρ st.sg j g := by
 unfold St.fresh
 split
 ·exact ⟨ρ, h, rfl, fun _ _ => rfl, fun _ _ h => h⟩
 ·rename_i q0 r0 hq
  rw [← hq]
  have hspec : ∀ j b, (prepAdd st.sg gs).get j = some b → st.sg.get j = none ∧ j < PIN ∧ ∃ e t, b = .arr e t [] false := fun j b h => prepAdd_spec h
  generalize prepAdd st.sg gs = add at hspec
  clear hq
  have hadd : ∀ j b, add.get j = some b → ∃ e t, b = .arr e t [] false := fun j b h => (hspec j b h).2.2
  have hnone : ∀ j, (st.sg.get j).isSome = true → add.get j = none := fun j hj => by
   cases hb : add.get j with
   | none => rfl
   | some b => rw [(hspec j b hb).1] at hj; cases hj
  have hloc : ∀ j, (st.sg.get j).isSome = true → prepLoc ρ add j = ρ.loc j := fun j hj => by simp only [prepLoc, hnone j hj]
  have hst : Step (fun j => (st.sg.get j).isSome = true) ρ ⟨prepLoc ρ add, ρ.ok⟩ w w := ⟨hloc, fun _ _ h => h, fun _ _ _ => rfl⟩
  have hget : ∀ j, (add ++ st.sg.map fun p => (p.1, prepBlk add gs p.1 p.2)).get j = (add.get j).or ((st.sg.get j).map (prepBlk add gs j)) := fun j => by rw [Sig.get_append, get_mapk]
  have hown : ∀ j g, Owns ⟨prepLoc ρ add, ρ.ok⟩ (add ++ st.sg.map fun p => (p.1, prepBlk add gs p.1 p.2)) j g → Owns ρ st.sg j g := by
   intro j g ho
   obtain ⟨b, h1, h2, h3⟩ := owns_iff.1 ho
   rw [hget] at h1
   cases hb : add.get j with
   | some b0 =>
    obtain ⟨e, t, rfl⟩ := hadd j b0 hb
    rw [hb] at h1
    simp only [Option.some_or, Option.some.injEq] at h1
    subst h1
    rcases h3 with ⟨_, _, h3, _⟩ | ⟨_, _, _, _, _, v, sz, h3⟩
    ·cases h3
    ·simp only [prepLoc, hb] at h3
     cases h3
   | none =>
    rw [hb, Option.none_or, Option.map_eq_some_iff] at h1
    obtain ⟨b0, h4, rfl⟩ := h1
    simp only [hloc j (by rw [h4]; rfl)] at h3
    cases b0 with
    | box ty cs =>
     refine owns_iff.2 ⟨_, h4, by simp, .inl ⟨_, _, rfl, ?_⟩⟩
     rcases h3 with ⟨_, _, _, h3⟩ | ⟨_, _, _, _, h3, _⟩
     ·exact h3
     ·simp only [prepBlk] at h3
      split at h3 <;> cases h3
    | arr e t l q =>
     refine owns_iff.2 ⟨_, h4, by simp, .inr ⟨_, _, _, _, rfl, ?_⟩⟩
     rcases h3 with ⟨_, _, h3, _⟩ | ⟨_, _, _, _, _, h3⟩
     ·cases h3
     ·exact h3
    | fro e t l q => exact absurd rfl (h2 e t l q)
  have hsome : ∀ d, (st.sg.get d).isSome = true ∨ (add.get d).isSome = true → ((add ++ st.sg.map fun p => (p.1, prepBlk add gs p.1 p.2)).get d).isSome = true := by
   intro d hd
   rw [hget]
   cases hb : add.get d with
   | some b => rfl
   | none =>
    rw [hb] at hd
    rw [Option.none_or, Option.isSome_map]
    rcases hd with hd | hd
    ·exact hd
    ·cases hd
  refine ⟨⟨prepLoc ρ add, ρ.ok⟩, ⟨⟨fun j b hj => ?_, fun i j g hi hj => h.mem.inj i j g (hown i g hi) (hown j g hj), fun j g hj => h.mem.old j g (hown j g hj), h.mem.okb, fun b g hg j hj => h.mem.oko b g hg j (hown j g hj), h.mem.okm, h.mem.okx, h.mem.oky, fun j b d hj hd => ?_⟩, by rw [h.len]; exact prepSl_len.symm, fun i v hi => ?_, fun i v d hi hd => ?_, h.defers, h.fr, h.base, fun j hj => ?_, h.glo⟩, rfl, fun i hi => ?_, hown⟩
  ·rw [hget] at hj
   cases hb : add.get j with
   | some b0 =>
    obtain ⟨e, t, rfl⟩ := hadd j b0 hb
    rw [hb] at hj
    simp only [Option.some_or, Option.some.injEq] at hj
    subst hj
    exact ⟨.slice none 0 0, none, [], by simp only [prepLoc, hb], ⟨by simp, fun j p hp => by simp at hp⟩, rfl, none, rfl⟩
   | none =>
    rw [hb, Option.none_or, Option.map_eq_some_iff] at hj
    obtain ⟨b0, h4, rfl⟩ := hj
    have hr := rblk_step hst (by rw [h4]; rfl) (fun x hx => h.mem.dom j b0 x h4 hx) (fun _ _ _ => rfl) (h.mem.blk j b0 h4)
    cases b0 with
    | arr e t l q => exact hr
    | fro e t l q => exact hr
    | box ty cs =>
     simp only [prepBlk]
     split
     ·obtain ⟨g, vs, a1, a2, a3⟩ := hr
      exact ⟨g, vs, a1, a2, prepCs_rc hadd a3⟩
     ·exact hr
  ·rw [hget] at hj
   cases hb : add.get j with
   | some b0 =>
    obtain ⟨e, t, rfl⟩ := hadd j b0 hb
    rw [hb] at hj
    simp only [Option.some_or, Option.some.injEq] at hj
    subst hj
    cases hd
   | none =>
    rw [hb, Option.none_or, Option.map_eq_some_iff] at hj
    obtain ⟨b0, h4, rfl⟩ := hj
    cases b0 with
    | arr e t l q => cases hd
    | fro e t l q => cases hd
    | box ty cs =>
     simp only [prepBlk] at hd
     split at hd
     ·exact hsome d ((prepCs_uses hd).imp (fun hd => h.mem.dom j _ d h4 hd) id)
     ·exact hsome d (.inl (h.mem.dom j _ d h4 hd))
  ·obtain ⟨x, h1, h2⟩ := prepSl_get hi
   obtain ⟨u, h3, h4⟩ := h.sl i x h1
   have h5 := rav_step hst (fun d hd => h.dom i x d h1 hd) h4
   rcases h2 with rfl | ⟨s, rfl⟩
   ·exact ⟨u, h3, h5⟩
   ·exact ⟨u, h3, prepAV_rav hadd h5⟩
  ·obtain ⟨x, h1, h2⟩ := prepSl_get hi
   rcases h2 with rfl | ⟨s, rfl⟩
   ·exact hsome d (.inl (h.dom i _ d h1 hd))
   ·exact hsome d ((prepAV_uses hd).imp (fun hd => h.dom i x d h1 hd) id)
  ·refine Eq.trans ?_ (h.pin j hj)
   simp only [prepLoc]
   split
   ·rename_i hb
    have := (hspec j _ hb).2.1
    omega
   ·rfl
  ·simp only [prepLoc]
   split
   ·rename_i hb
    have := (hspec i _ hb).2.1
    omega
   ·rfl
theorem thaw_rc (h : Mem B O ρ sg w) {c : Cell} {v : Value} (hr : rc ρ w c v) : rc ρ w (c.thaw sg) v := by
 unfold Cell.thaw
 split
 ·rename_i j
  split
  ·rename_i e t l b hj
   obtain ⟨g, sz, hl⟩ := hr
   obtain ⟨v', g', hl', hp⟩ := h.blk j _ hj
   rw [hl] at hl'; cases hl'
   exact hp
  ·exact hr
 ·rename_i j o n
  split
  ·rename_i e t l b hj
   obtain ⟨A, N, c, g, sz, hl, hle, hsub⟩ := hr
   obtain ⟨v', g', hl', hp⟩ := h.blk j _ hj
   rw [hl] at hl'; cases hl'
   have hp0 := hp
   simp only [Rp] at hp0
   obtain ⟨A', c', h1, _⟩ := hp0
   simp only [List.cons.injEq, Value.slice.injEq, and_true] at h1
   obtain ⟨rfl, rfl, rfl⟩ := h1
   exact Rp_sub hp hle hsub
  ·exact hr
 ·exact hr
theorem thaw_uses {c : Cell} {d : Nat} (h : (c.thaw sg).uses d = true) : c.uses d = true := by
 unfold Cell.thaw at h
 split at h
 ·split at h
  ·cases h
  ·exact h
 ·split at h
  ·cases h
  ·exact h
 ·exact h
theorem thaw_any {cs : List Cell} {d : Nat} (h : (cs.map (·.thaw sg)).any (·.uses d) = true) : cs.any (·.uses d) = true := by
 obtain ⟨c', hc', hd⟩ := List.any_eq_true.1 h
 obtain ⟨c, hc, rfl⟩ := List.mem_map.1 hc'
 exact List.any_eq_true.2 ⟨c, hc, thaw_uses hd⟩
theorem Sim.thaw (h : Sim P B O w0 ρ st a w) : Sim P B O w0 ρ st.thaw a w := by
 unfold St.thaw
 rw [bifs]
 split
 ·have hget : ∀ j, Sig.get j (st.sg.map fun q => (q.1, q.2.thaw st.sg)) = (st.sg.get j).map (·.thaw st.sg) := fun j => Sig.get_map _ _ _
  have hown : ∀ j g, Owns ρ (st.sg.map fun q => (q.1, q.2.thaw st.sg)) j g → Owns ρ st.sg j g := by
   intro j g ho
   obtain ⟨b, h1, h2, h3⟩ := owns_iff.1 ho
   rw [hget, Option.map_eq_some_iff] at h1
   obtain ⟨b0, h4, rfl⟩ := h1
   refine owns_iff.2 ⟨b0, h4, ?_, ?_⟩
   ·rintro e t l q rfl; exact h2 _ _ _ _ rfl
   ·cases b0 with
    | box ty cs =>
     rcases h3 with ⟨_, _, _, h3⟩ | ⟨_, _, _, _, h3, _⟩
     ·exact .inl ⟨_, _, rfl, h3⟩
     ·cases h3
    | arr e t l q =>
     rcases h3 with ⟨_, _, h3, _⟩ | ⟨_, _, _, _, _, h3⟩
     ·cases h3
     ·exact .inr ⟨_, _, _, _, rfl, h3⟩
    | fro e t l q => exact absurd rfl (h2 e t l q)
  refine ⟨⟨fun j b hj => ?_, fun i j g hi hj => h.mem.inj i j g (hown i g hi) (hown j g hj), fun j g hj => h.mem.old j g (hown j g hj), h.mem.okb, fun b g hg j hj => h.mem.oko b g hg j (hown j g hj), h.mem.okm, h.mem.okx, h.mem.oky, fun j b d hj hd => ?_⟩, by simpa using h.len, fun i v hi => ?_, fun i v d hi hd => ?_, h.defers, h.fr, h.base, h.pin, h.glo⟩
  ·rw [hget, Option.map_eq_some_iff] at hj
   obtain ⟨b0, h4, rfl⟩ := hj
   have hr := h.mem.blk j b0 h4
   cases b0 with
   | box ty cs =>
    obtain ⟨g, vs, h1, h2, h3⟩ := hr
    exact ⟨g, vs, h1, h2, h3.map_left _ fun c v _ hc => thaw_rc h.mem hc⟩
   | arr e t l q => exact hr
   | fro e t l q => exact hr
  ·rw [hget, Option.map_eq_some_iff] at hj
   obtain ⟨b0, h4, rfl⟩ := hj
   rw [hget, Option.isSome_map]
   cases b0 with
   | box ty cs => exact h.mem.dom j _ d h4 (thaw_any hd)
   | arr e t l q => cases hd
   | fro e t l q => cases hd
  ·rw [List.getElem?_map, Option.map_eq_some_iff] at hi
   obtain ⟨v0, h1, rfl⟩ := hi
   obtain ⟨u, h2, h3⟩ := h.sl i v0 h1
   refine ⟨u, h2, ?_⟩
   cases v0 with
   | one c => exact thaw_rc h.mem h3
   | agg cs =>
    obtain ⟨vs, h3, h4⟩ := h3
    exact ⟨vs, h3, h4.map_left _ fun c v _ hc => thaw_rc h.mem hc⟩
   | tup ps => exact h3
  ·rw [List.getElem?_map, Option.map_eq_some_iff] at hi
   obtain ⟨v0, h1, rfl⟩ := hi
   show (Sig.get d (st.sg.map fun q => (q.1, q.2.thaw st.sg))).isSome = true
   rw [hget, Option.isSome_map]
   refine h.dom i v0 d h1 ?_
   cases v0 with
   | one c => exact thaw_uses hd
   | agg cs => exact thaw_any hd
   | tup ps => exact hd
 ·exact h
theorem thaw_len (s : St) : s.thaw.sl.length = s.sl.length := by
 unfold St.thaw
 rw [bifs]
 split
 ·simp
 ·rfl
theorem coolAV_sound (h : Mem B O ρ sg w) {p : SP} {v v' : AV} {u : Value} (hr : rav ρ w v u) (hs : coolAV p sg v = (sg', v')) :
  ∃ ρ', More ρ ρ' ∧ Mem B O ρ' sg' w ∧ Froze sg sg' ∧ rav ρ' w v' u ∧ ∀ d, v'.uses d = true → v.uses d = true := by
 have same : ∀ {sg' : Sig} {v' : AV}, (sg, v) = (sg', v') → ∃ ρ', More ρ ρ' ∧ Mem B O ρ' sg' w ∧ Froze sg sg' ∧ rav ρ' w v' u ∧ ∀ d, v'.uses d = true → v.uses d = true := by
  intro sg' v' he
  cases he
  exact ⟨ρ, More.refl _, h, Froze.refl _, hr, fun _ h => h⟩
 have set : ∀ {sg' : Sig} {v' : AV}, (settleAV sg v).getD (sg, v) = (sg', v') → ∃ ρ', More ρ ρ' ∧ Mem B O ρ' sg' w ∧ Froze sg sg' ∧ rav ρ' w v' u ∧ ∀ d, v'.uses d = true → v.uses d = true := by
  intro sg' v' he
  cases hx : settleAV sg v with
  | none => rw [hx] at he; exact same he
  | some q =>
   rw [hx] at he
   obtain ⟨sg1, v1⟩ := q
   cases he
   exact settleAV_sound h hr hx
 unfold coolAV at hs
 split at hs
 ·exact set hs
 ·exact set hs
 ·rw [bifs] at hs
  split at hs
  ·exact set hs
  ·exact same hs
 ·exact same hs
theorem coolSl_sound : ∀ (ps : List SP) (sg : Sig) (ρ : CEnv) (vs : List AV) (us : List Value) (sg' : Sig) (vs' : List AV), Mem B O ρ sg w → (∀ (i : Nat) (v : AV), vs[i]? = some v → ∃ u : Value, us[i]? = some u ∧ rav ρ w v u) → coolSl ps sg vs = (sg', vs') →
  ∃ ρ', More ρ ρ' ∧ Mem B O ρ' sg' w ∧ Froze sg sg' ∧ vs'.length = vs.length ∧ (∀ (i : Nat) (v : AV), vs'[i]? = some v → ∃ u : Value, us[i]? = some u ∧ rav ρ' w v u) ∧ ∀ (i : Nat) (v' : AV) (d : Nat), vs'[i]? = some v' → v'.uses d = true → ∃ v, vs[i]? = some v ∧ v.uses d = true
 | [], sg, ρ, vs, us, sg', vs', h, hr, hs => by
  simp only [coolSl, Prod.mk.injEq] at hs
  obtain ⟨rfl, rfl⟩ := hs
  exact ⟨ρ, More.refl _, h, Froze.refl _, rfl, hr, fun i v d hi hd => ⟨v, hi, hd⟩⟩
 | p :: ps, sg, ρ, [], us, sg', vs', h, hr, hs => by
  simp only [coolSl, Prod.mk.injEq] at hs
  obtain ⟨rfl, rfl⟩ := hs
  exact ⟨ρ, More.refl _, h, Froze.refl _, rfl, hr, fun i v d hi hd => ⟨v, hi, hd⟩⟩
 | p :: ps, sg, ρ, v :: vs, us, sg', vs', h, hr, hs => by
  simp only [coolSl] at hs
  obtain ⟨u0, hu0, hr0⟩ := hr 0 v rfl
  obtain ⟨us, rfl⟩ : ∃ t, us = u0 :: t := by
   cases us with
   | nil => simp at hu0
   | cons x t => simp only [List.getElem?_cons_zero, Option.some.injEq] at hu0; subst hu0; exact ⟨t, rfl⟩
  generalize hx : coolAV p sg v = q1 at hs
  obtain ⟨sg1, v1⟩ := q1
  simp only at hs
  generalize hy : coolSl ps sg1 vs = q2 at hs
  obtain ⟨sg2, vs2⟩ := q2
  simp only [Prod.mk.injEq] at hs
  obtain ⟨rfl, rfl⟩ := hs
  obtain ⟨ρ1, a1, a2, a3, a4, a5⟩ := coolAV_sound h hr0 hx
  obtain ⟨ρ2, b1, b2, b3, b4, b5, b6⟩ := coolSl_sound ps sg1 ρ1 vs us _ _ a2 (fun i x hi => by
   obtain ⟨u, h1, h2⟩ := hr (i + 1) x (by simpa using hi)
   exact ⟨u, by simpa using h1, rav_step (a1.step w) (fun _ _ => trivial) h2⟩) hy
  refine ⟨ρ2, a1.trans b1, b2, a3.trans b3, by simp [b4], fun i x hi => ?_, fun i x d hi hd => ?_⟩
  ·cases i with
   | zero => simp only [List.getElem?_cons_zero, Option.some.injEq] at hi; subst hi; exact ⟨u0, rfl, rav_step (b1.step w) (fun _ _ => trivial) a4⟩
   | succ i => simpa using b5 i x (by simpa using hi)
  ·cases i with
   | zero => simp only [List.getElem?_cons_zero, Option.some.injEq] at hi; subst hi; exact ⟨v, rfl, a5 d hd⟩
   | succ i =>
    obtain ⟨y, h1, h2⟩ := b6 i x d (by simpa using hi) hd
    exact ⟨y, by simpa using h1, h2⟩
theorem Froze.owns (hf : Froze sg sg') (hl : ρ'.loc = ρ.loc) {j g : Nat} (h : Owns ρ' sg' j g) : Owns ρ sg j g := by
 obtain ⟨b, h1, h2, h3⟩ := owns_iff.1 h
 rw [hl] at h3
 exact owns_iff.2 ⟨b, hf.same j b h1 h2, h2, h3⟩
theorem Sim.cool (h : Sim P B O w0 ρ st a w) (ss : List SP) : ∃ ρ', Sim P B O w0 ρ' (st.cool ss) a w ∧ More ρ ρ' ∧ ∀ j g, Owns ρ' (st.cool ss).sg j g → Owns ρ st.sg j g := by
 unfold St.cool
 generalize hx : coolSl ss st.sg st.sl = q
 obtain ⟨sg1, sl1⟩ := q
 obtain ⟨ρ1, a1, a2, a3, a4, a5, a6⟩ := coolSl_sound ss st.sg ρ st.sl a.tmps.toList sg1 sl1 h.mem (fun i v hi => by
  obtain ⟨u, h1, h2⟩ := h.sl i v hi
  exact ⟨u, by simpa using h1, h2⟩) hx
 refine ⟨ρ1, ⟨a2, by simp [a4, h.len], fun i v hi => ?_, fun i v d hi hd => ?_, h.defers, h.fr, h.base, fun j hj => (congrFun a1.loc j).trans (h.pin j hj), h.glo⟩, a1, fun j g hj => a3.owns a1.loc hj⟩
 ·obtain ⟨u, h1, h2⟩ := a5 i v hi
  exact ⟨u, by simpa using h1, h2⟩
 ·obtain ⟨x, h1, h2⟩ := a6 i v d hi hd
  show (sg1.get d).isSome = true
  rw [a3.some]
  exact h.dom i x d h1 h2
theorem owns_thaw {j g : Nat} (h : Owns ρ st.thaw.sg j g) : Owns ρ st.sg j g := by
 unfold St.thaw at h
 rw [bifs] at h
 split at h
 ·obtain ⟨b, h1, h2, h3⟩ := owns_iff.1 h
  rw [show Sig.get j (st.sg.map fun q => (q.1, q.2.thaw st.sg)) = _ from Sig.get_map _ _ _, Option.map_eq_some_iff] at h1
  obtain ⟨b0, h4, rfl⟩ := h1
  refine owns_iff.2 ⟨b0, h4, ?_, ?_⟩
  ·rintro e t l q rfl; exact h2 _ _ _ _ rfl
  ·cases b0 with
   | box ty cs =>
    rcases h3 with ⟨_, _, _, h3⟩ | ⟨_, _, _, _, h3, _⟩
    ·exact .inl ⟨_, _, rfl, h3⟩
    ·cases h3
   | arr e t l q =>
    rcases h3 with ⟨_, _, h3, _⟩ | ⟨_, _, _, _, _, h3⟩
    ·cases h3
    ·exact .inr ⟨_, _, _, _, rfl, h3⟩
   | fro e t l q => exact absurd rfl (h2 e t l q)
 ·exact h
theorem Mem.fresh (h : Mem B O ρ sg w) {add : Sig} (hspec : ∀ j b, add.get j = some b → sg.get j = none ∧ j < PIN ∧ ∃ e t, b = .arr e t [] false) :
  Mem B O ⟨prepLoc ρ add, ρ.ok⟩ (add ++ sg) w ∧ Step (fun j => (sg.get j).isSome = true) ρ ⟨prepLoc ρ add, ρ.ok⟩ w w ∧ ∀ i, PIN ≤ i → prepLoc ρ add i = ρ.loc i := by
 have hnone : ∀ j, (sg.get j).isSome = true → add.get j = none := fun j hj => by
  cases hb : add.get j with
  | none => rfl
  | some b => rw [(hspec j b hb).1] at hj; cases hj
 have hloc : ∀ j, (sg.get j).isSome = true → prepLoc ρ add j = ρ.loc j := fun j hj => by simp only [prepLoc, hnone j hj]
 have hst : Step (fun j => (sg.get j).isSome = true) ρ ⟨prepLoc ρ add, ρ.ok⟩ w w := ⟨hloc, fun _ _ h => h, fun _ _ _ => rfl⟩
 have hown : ∀ j g, Owns ⟨prepLoc ρ add, ρ.ok⟩ (add ++ sg) j g → Owns ρ sg j g := by
  intro j g ho
  obtain ⟨b, h1, h2, h3⟩ := owns_iff.1 ho
  rw [Sig.get_append] at h1
  cases hb : add.get j with
  | some b0 =>
   obtain ⟨_, _, e, t, rfl⟩ := hspec j b0 hb
   rw [hb] at h1
   simp only [Option.some_or, Option.some.injEq] at h1
   subst h1
   rcases h3 with ⟨_, _, h3, _⟩ | ⟨_, _, _, _, _, v, sz, h3⟩
   ·cases h3
   ·simp only [prepLoc, hb] at h3
    cases h3
  | none =>
   rw [hb, Option.none_or] at h1
   simp only [hloc j (by rw [h1]; rfl)] at h3
   exact owns_iff.2 ⟨b, h1, h2, h3⟩
 refine ⟨⟨fun j b hj => ?_, fun i j g hi hj => h.inj i j g (hown i g hi) (hown j g hj), fun j g hj => h.old j g (hown j g hj), h.okb, fun b g hg j hj => h.oko b g hg j (hown j g hj), h.okm, h.okx, h.oky, fun j b d hj hd => ?_⟩, hst, fun i hi => ?_⟩
 ·rw [Sig.get_append] at hj
  cases hb : add.get j with
  | some b0 =>
   obtain ⟨_, _, e, t, rfl⟩ := hspec j b0 hb
   rw [hb] at hj
   simp only [Option.some_or, Option.some.injEq] at hj
   subst hj
   exact ⟨.slice none 0 0, none, [], by simp only [prepLoc, hb], ⟨by simp, fun j p hp => by simp at hp⟩, rfl, none, rfl⟩
  | none =>
   rw [hb, Option.none_or] at hj
   exact rblk_step hst (by show _ = _; rw [hj]; rfl) (fun x hx => h.dom j b x hj hx) (fun _ _ _ => rfl) (h.blk j b hj)
 ·rw [Sig.get_append] at hj ⊢
  cases hb : add.get j with
  | some b0 =>
   obtain ⟨_, _, e, t, rfl⟩ := hspec j b0 hb
   rw [hb] at hj
   simp only [Option.some_or, Option.some.injEq] at hj
   subst hj
   cases hd
  | none =>
   rw [hb, Option.none_or] at hj
   have := h.dom j b d hj hd
   obtain ⟨b1, hb1⟩ := Option.isSome_iff_exists.1 this
   cases add.get d with
   | some b2 => rfl
   | none => rw [Option.none_or, hb1]; rfl
 ·simp only [prepLoc]
  split
  ·rename_i hb
   have := (hspec i _ hb).2.1
   omega
  ·rfl
theorem nilCells_sound {add0 : Sig} (hl : ∀ q ∈ add0, ρ'.loc q.1 = .arr (.slice none 0 0) none (match q.2 with | .arr _ t _ _ => t.sz | _ => 0)) : ∀ {ks : List (Option (TypeId × Ty))} {p : Nat} {cs cs' : List Cell} {add : Sig} {vs : List Value}, nilCells ks p cs = (cs', add) → (∀ q ∈ add, q ∈ add0) → All2 (rc ρ' w) cs vs → All2 (rc ρ' w) cs' vs
 | [], p, cs, cs', add, vs, h, hs, hr => by
  simp only [nilCells, Prod.mk.injEq] at h
  obtain ⟨rfl, rfl⟩ := h
  exact hr
 | q :: ks, p, [], cs', add, vs, h, hs, hr => by
  simp only [nilCells, Prod.mk.injEq] at h
  obtain ⟨rfl, rfl⟩ := h
  exact hr
 | q :: ks, p, c :: cs, cs', add, vs, h, hs, hr => by
  simp only [nilCells] at h
  generalize hn : nilCells ks (p + 1) cs = r at h
  obtain ⟨cs1, add1⟩ := r
  simp only at h
  cases hr with
  | @cons _ v _ vs hr0 hr1 =>
  split at h
  ·rename_i e t
   simp only [Prod.mk.injEq] at h
   obtain ⟨rfl, rfl⟩ := h
   have hv : v = .slice none 0 0 := hr0
   subst hv
   exact .cons ⟨none, t.sz, hl _ (hs _ List.mem_cons_self)⟩ (nilCells_sound hl hn (fun x hx => hs x (List.mem_cons_of_mem _ hx)) hr1)
  ·simp only [Prod.mk.injEq] at h
   obtain ⟨rfl, rfl⟩ := h
   exact .cons hr0 (nilCells_sound hl hn hs hr1)
theorem nilCells_arr : ∀ {ks : List (Option (TypeId × Ty))} {p : Nat} {cs cs' : List Cell} {add : Sig}, nilCells ks p cs = (cs', add) → ∀ q ∈ add, ∃ e t, q.2 = .arr e t [] false
 | [], p, cs, cs', add, h => by
  simp only [nilCells, Prod.mk.injEq] at h
  obtain ⟨rfl, rfl⟩ := h
  intro q hq; cases hq
 | q :: ks, p, [], cs', add, h => by
  simp only [nilCells, Prod.mk.injEq] at h
  obtain ⟨rfl, rfl⟩ := h
  intro q hq; cases hq
 | q :: ks, p, c :: cs, cs', add, h => by
  simp only [nilCells] at h
  generalize hn : nilCells ks (p + 1) cs = r at h
  obtain ⟨cs1, add1⟩ := r
  simp only at h
  split at h
  ·simp only [Prod.mk.injEq] at h
   obtain ⟨rfl, rfl⟩ := h
   intro x hx
   rcases List.mem_cons.1 hx with rfl | hx
   ·exact ⟨_, _, rfl⟩
   ·exact nilCells_arr hn x hx
  ·simp only [Prod.mk.injEq] at h
   obtain ⟨rfl, rfl⟩ := h
   exact nilCells_arr hn
theorem nilAV_sound {add0 : Sig} (hl : ∀ q ∈ add0, ρ'.loc q.1 = .arr (.slice none 0 0) none (match q.2 with | .arr _ t _ _ => t.sz | _ => 0)) {ks : List (Option (TypeId × Ty))} {p : Nat} {v v' : AV} {add : Sig} {u : Value} (h : nilAV ks p v = (v', add)) (hs : ∀ q ∈ add, q ∈ add0) (hr : rav ρ' w v u) : rav ρ' w v' u := by
 unfold nilAV at h
 split at h
 ·split at h
  ·rename_i c add1 hn
   simp only [Prod.mk.injEq] at h
   obtain ⟨rfl, rfl⟩ := h
   obtain ⟨u', h1, h2⟩ := (nilCells_sound hl hn hs (.cons hr .nil)).single
   cases h1
   exact h2
  ·simp only [Prod.mk.injEq] at h
   obtain ⟨rfl, rfl⟩ := h
   exact hr
 ·rename_i cs
  generalize hn : nilCells ks p cs = r at h
  obtain ⟨cs1, add1⟩ := r
  simp only [Prod.mk.injEq] at h
  obtain ⟨rfl, rfl⟩ := h
  obtain ⟨vs, h1, h2⟩ := hr
  exact ⟨vs, h1, nilCells_sound hl hn hs h2⟩
 ·simp only [Prod.mk.injEq] at h
  obtain ⟨rfl, rfl⟩ := h
  exact hr
theorem nilAV_arr {ks : List (Option (TypeId × Ty))} {p : Nat} {v v' : AV} {add : Sig} (h : nilAV ks p v = (v', add)) : ∀ q ∈ add, ∃ e t, q.2 = .arr e t [] false := by
 unfold nilAV at h
 split at h
 ·split at h
  ·rename_i c add1 hn
   simp only [Prod.mk.injEq] at h
   obtain ⟨rfl, rfl⟩ := h
   exact nilCells_arr hn
  ·simp only [Prod.mk.injEq] at h
   obtain ⟨rfl, rfl⟩ := h
   intro q hq; cases hq
 ·rename_i cs
  generalize hn : nilCells ks p cs = r at h
  obtain ⟨cs1, add1⟩ := r
  simp only [Prod.mk.injEq] at h
  obtain ⟨rfl, rfl⟩ := h
  exact nilCells_arr hn
 ·simp only [Prod.mk.injEq] at h
  obtain ⟨rfl, rfl⟩ := h
  intro q hq; cases hq
theorem nilAVs_arr : ∀ {ts : List TypeId} {p : Nat} {vs vs' : List AV} {add : Sig}, nilAVs E ts p vs = (vs', add) → ∀ q ∈ add, ∃ e t, q.2 = .arr e t [] false
 | [], p, vs, vs', add, h => by
  simp only [nilAVs, Prod.mk.injEq] at h
  obtain ⟨rfl, rfl⟩ := h
  intro q hq; cases hq
 | t :: ts, p, [], vs', add, h => by
  simp only [nilAVs, Prod.mk.injEq] at h
  obtain ⟨rfl, rfl⟩ := h
  intro q hq; cases hq
 | t :: ts, p, v :: vs, vs', add, h => by
  simp only [nilAVs] at h
  generalize h1 : nilAV (kindsOf E t) p v = r1 at h
  generalize h2 : nilAVs E ts (p + 64) vs = r2 at h
  obtain ⟨v1, add1⟩ := r1
  obtain ⟨vs1, add2⟩ := r2
  simp only [Prod.mk.injEq] at h
  obtain ⟨rfl, rfl⟩ := h
  intro q hq
  rcases List.mem_append.1 hq with hq | hq
  ·exact nilAV_arr h1 q hq
  ·exact nilAVs_arr h2 q hq
theorem nilAVs_sound {add0 : Sig} (hl : ∀ q ∈ add0, ρ'.loc q.1 = .arr (.slice none 0 0) none (match q.2 with | .arr _ t _ _ => t.sz | _ => 0)) : ∀ {ts : List TypeId} {p : Nat} {vs vs' : List AV} {add : Sig} {us : List Value}, nilAVs E ts p vs = (vs', add) → (∀ q ∈ add, q ∈ add0) → All2 (rav ρ' w) vs us → All2 (rav ρ' w) vs' us
 | [], p, vs, vs', add, us, h, hs, hr => by
  simp only [nilAVs, Prod.mk.injEq] at h
  obtain ⟨rfl, rfl⟩ := h
  exact hr
 | t :: ts, p, [], vs', add, us, h, hs, hr => by
  simp only [nilAVs, Prod.mk.injEq] at h
  obtain ⟨rfl, rfl⟩ := h
  exact hr
 | t :: ts, p, v :: vs, vs', add, us, h, hs, hr => by
  simp only [nilAVs] at h
  generalize h1 : nilAV (kindsOf E t) p v = r1 at h
  generalize h2 : nilAVs E ts (p + 64) vs = r2 at h
  obtain ⟨v1, add1⟩ := r1
  obtain ⟨vs1, add2⟩ := r2
  simp only [Prod.mk.injEq] at h
  obtain ⟨rfl, rfl⟩ := h
  cases hr with
  | cons hr0 hr1 => exact .cons (nilAV_sound hl h1 (fun q hq => hs q (List.mem_append_left _ hq)) hr0) (nilAVs_sound hl h2 (fun q hq => hs q (List.mem_append_right _ hq)) hr1)
theorem get_of_nodup : ∀ {s : Sig}, nodup (s.map (·.1)) = true → ∀ {x : Nat × Blk}, x ∈ s → s.get x.1 = some x.2
 | [], _, x, hx => by cases hx
 | (j, b) :: r, h, x, hx => by
  simp only [List.map_cons, nodup, Bool.and_eq_true, Bool.not_eq_true'] at h
  simp only [Sig.get, bifs, beq_iff_eq]
  rcases List.mem_cons.1 hx with rfl | hx
  ·rw [if_pos rfl]
  ·rw [if_neg, get_of_nodup h.2 hx]
   intro he
   have : (List.map (fun x => x.1) r).contains j = true := List.contains_iff_mem.2 (List.mem_map.2 ⟨x, hx, he.symm⟩)
   rw [this] at h
   cases h.1
theorem ownNils_sound (h : Mem B O ρ sg w) {ts : List TypeId} {vs vs' : List AV} {us : List Value} (hr : All2 (rav ρ w) vs us) (hu : ∀ v ∈ vs, ∀ d, v.uses d = true → (sg.get d).isSome = true) (hn : ownNils E ts sg vs = (sg', vs')) :
  ∃ ρ', Mem B O ρ' sg' w ∧ All2 (rav ρ' w) vs' us ∧ ∀ i, PIN ≤ i → ρ'.loc i = ρ.loc i := by
 unfold ownNils at hn
 generalize hx : nilAVs E ts 0 vs = r at hn
 obtain ⟨vs1, add⟩ := r
 cases add with
 | nil =>
  simp only [Prod.mk.injEq] at hn
  obtain ⟨rfl, rfl⟩ := hn
  exact ⟨ρ, h, hr, fun _ _ => rfl⟩
 | cons q r =>
  simp only [bifs] at hn
  split at hn
  ·rename_i hall
   rw [Bool.and_eq_true] at hall
   simp only [Prod.mk.injEq] at hn
   obtain ⟨rfl, rfl⟩ := hn
   have hspec : ∀ j b, Sig.get j (q :: r) = some b → sg.get j = none ∧ j < PIN ∧ ∃ e t, b = .arr e t [] false := fun j b hj => by
    have hm := Sig.get_mem hj
    have h1 := Sig.free_iff.1 (List.all_eq_true.1 hall.2 _ hm)
    exact ⟨h1.1, h1.2, nilAVs_arr hx _ hm⟩
   obtain ⟨a1, a2, a3⟩ := h.fresh hspec
   refine ⟨_, a1, nilAVs_sound (add0 := q :: r) (fun x hx => ?_) hx (fun x hx => hx) (hr.imp fun v u hv hq => rav_step a2 (fun d hd => hu v hv d hd) hq), a3⟩
   have hg := get_of_nodup hall.1 hx
   obtain ⟨e, t, he⟩ := nilAVs_arr (by assumption) x hx
   simp only [prepLoc, hg, he]
  ·simp only [Prod.mk.injEq] at hn
   obtain ⟨rfl, rfl⟩ := hn
   exact ⟨ρ, h, hr, fun _ _ => rfl⟩
theorem Sim.sel (h : Sim P B O w0 ρ st a w) {js : List (Nat × Nat)} (hok : selOk st.sg js = true) : Sim P B O w0 ⟨locSel ρ js, ρ.ok⟩ (st.sel js) a w := by
 simp only [selOk, Bool.and_eq_true, List.all_eq_true, Bool.or_eq_true, Nat.blt_eq, beq_iff_eq] at hok
 obtain ⟨hj, hall⟩ := hok
 have hjs : ∀ j i, (j, i) ∈ js → (st.sg.get j).isSome = true := fun j i hji => (hall (j, i) hji).1
 have hl : ∀ j i, look js j = some i → (⟨locSel ρ js, ρ.ok⟩ : CEnv).loc i = ρ.loc j := fun j i hi => locSel_spec hj (look_mem hi)
 have hM := h.mem.sel hj hjs (ρ' := ⟨locSel ρ js, ρ.ok⟩) (fun j i hji => locSel_spec hj hji) rfl
 refine ⟨hM, by simpa [St.sel] using h.len, fun i v hi => ?_, fun i v d hi hd => ?_, h.defers, h.fr, h.base, fun n hn => ?_, h.glo⟩
 ·simp only [St.sel, List.getElem?_map, Option.map_eq_some_iff] at hi
  obtain ⟨x, hx, rfl⟩ := hi
  obtain ⟨u, h1, h2⟩ := h.sl i x hx
  exact ⟨u, h1, ren_rav hl rfl h2⟩
 ·simp only [St.sel, List.getElem?_map, Option.map_eq_some_iff] at hi
  obtain ⟨x, hx, rfl⟩ := hi
  obtain ⟨j, h3, h4⟩ := ren_av hd
  exact sel_get (look_mem h3) (hjs j d (look_mem h3))
 ·refine Eq.trans ?_ (h.pin n hn)
  show locSel ρ js n = ρ.loc n
  unfold locSel
  cases hb : backOf js n with
  | none => rfl
  | some i =>
   have hin := (back_iff hj).1 hb
   rcases (hall (i, n) hin).2 with h0 | h0
   ·simp only at h0; omega
   ·simp only at h0; subst h0; rfl
theorem Sim.named (h : Sim P B O w0 ρ st a w) (ss : List SP) (gs : List (Nat × GP)) : ∃ ρ', Sim P B O w0 ρ' (st.named ss gs) a w := by
 unfold St.named
 rw [bifs]
 split
 ·rename_i hok
  exact ⟨_, h.sel hok⟩
 ·exact ⟨ρ, h⟩
theorem giveArgs_sound : ∀ (vs : List AV) (hs : List Bool) (sg : Sig) (ρ : CEnv) (us : List Value) (sg' : Sig) (vs' : List AV), Mem B O ρ sg w → All2 (rav ρ w) vs us → giveArgs sg hs vs = some (sg', vs') →
  ∃ ρ', More ρ ρ' ∧ Mem B O ρ' sg' w ∧ Froze sg sg' ∧ All2 (rav ρ' w) vs' us ∧ ∀ v' ∈ vs', ∀ d, v'.uses d = true → ∃ v ∈ vs, v.uses d = true
 | [], hs, sg, ρ, us, sg', vs', h, hr, hg => by
  have hg : some (sg, ([] : List AV)) = some (sg', vs') := by cases hs <;> exact hg
  cases hg
  exact ⟨ρ, More.refl _, h, Froze.refl _, hr, fun v hv => by cases hv⟩
 | v :: vs, hs, sg, ρ, us, sg', vs', h, hr, hg => by
  cases hr with
  | @cons _ u0 _ us h0 h1 =>
  have step : ∀ sg1 v1, (match hs with | true :: _ => some (sg, v) | _ => settleAV sg v) = some (sg1, v1) → ∃ ρ', More ρ ρ' ∧ Mem B O ρ' sg1 w ∧ Froze sg sg1 ∧ rav ρ' w v1 u0 ∧ ∀ d, v1.uses d = true → v.uses d = true := by
   intro sg1 v1 hx
   split at hx
   ·cases hx
    exact ⟨ρ, More.refl _, h, Froze.refl _, h0, fun _ h => h⟩
   ·exact settleAV_sound h h0 hx
  simp only [giveArgs] at hg
  split at hg
  ·rename_i sg1 v1 hx
   split at hg
   ·rename_i sg2 vs2 hy
    cases hg
    obtain ⟨ρ1, a1, a2, a3, a4, a5⟩ := step _ _ hx
    obtain ⟨ρ2, b1, b2, b3, b4, b5⟩ := giveArgs_sound vs hs.tail sg1 ρ1 us _ _ a2 (h1.imp fun x u _ hq => rav_step (a1.step w) (fun _ _ => trivial) hq) hy
    refine ⟨ρ2, a1.trans b1, b2, a3.trans b3, .cons (rav_step (b1.step w) (fun _ _ => trivial) a4) b4, fun v' hv' d hd => ?_⟩
    rcases List.mem_cons.1 hv' with rfl | hv'
    ·exact ⟨v, List.mem_cons_self, a5 d hd⟩
    ·obtain ⟨x, hx, hd⟩ := b5 v' hv' d hd
     exact ⟨x, List.mem_cons_of_mem _ hx, hd⟩
   ·cases hg
  ·cases hg
theorem get_keep {js : List (Nat × Nat)} {n : Nat} : (keepSg js sg).get n = if (look js n).isSome = true then none else (sg.get n).map (·.strike (gone js)) := by
 induction sg with
 | nil => simp [keepSg, Sig.get]
 | cons q r ih =>
  obtain ⟨j, b⟩ := q
  simp only [keepSg, bifs]
  split
  ·rename_i hj
   rw [ih]
   simp only [Sig.get, bifs, beq_iff_eq]
   by_cases he : j = n
   ·subst he; simp [hj]
   ·rw [if_neg he]
  ·rename_i hj
   simp only [Sig.get, bifs, beq_iff_eq, ih]
   by_cases he : j = n
   ·subst he; rw [if_pos rfl, if_pos rfl, if_neg hj]; rfl
   ·rw [if_neg he, if_neg he]
theorem gen_back {sl : List AV} (h : Sim P B O w0 ρ ⟨sl, sg⟩ a w) {js : List (Nat × Nat)} (hj : leaveOk js = true) (hjs : ∀ j i, (j, i) ∈ js → (sg.get j).isSome = true)
  {ρr : CEnv} {fin : Sig} {G : Nat → Prop} {L : Nat → Loc} (hM : Mem w.heap.size ⟨G, ρ.ok, L⟩ ρr fin w') (hG : ∀ g, G g → ∃ j i, (j, i) ∈ js ∧ Owns ρ sg j g)
  (hpin : ∀ i j, (j, i) ∈ js → PIN ≤ i → (fin.get i).isSome = true → ρr.loc i = ρ.loc j) (hos : w'.os = w.os) (htape : w'.tape = w.tape) (hout : w'.output = w.output) (hsz : w.heap.size ≤ w'.heap.size) (hfr : ∀ g, g < w.heap.size → (∀ j i, (j, i) ∈ js → ¬ Owns ρ sg j g) → w'.heap[g]? = w.heap[g]?)
  {res : AV} {u : Value} (hr : rav ρr w' res u) (hu : ∀ d, res.uses d = true → (fin.get d).isSome = true) {dst : Option Nat} {k : St → Option R} (hk : genOut sl sg js dst res fin k = some r) :
  ∃ ρ2 st2, k st2 = some r ∧ Sim P B O w0 ρ2 st2 (a.put dst u) w' := by
 unfold genOut at hk
 simp only [bifs] at hk
 split at hk
 ·rename_i hc
  simp only [Bool.and_eq_true, List.all_eq_true, Bool.or_eq_true, Nat.blt_eq, Option.isNone_iff_eq_none] at hc
  obtain ⟨hks, hc1, hc2⟩ := hc
  have ksmem : ∀ i n, (i, n) ∈ backJs js (dst.getD 0) fin → (fin.get i).isSome = true ∧ n = (match backOf js i with | some j => j | none => i + dst.getD 0) := by
   intro i n hin
   obtain ⟨q, hq, he⟩ := List.mem_map.1 hin
   obtain ⟨i', b⟩ := q
   simp only [Prod.mk.injEq] at he
   obtain ⟨rfl, rfl⟩ := he
   refine ⟨?_, rfl⟩
   have key : ∀ {s : Sig}, (i', b) ∈ s → (s.get i').isSome = true := by
    intro s hs
    induction s with
    | nil => cases hs
    | cons q r ih =>
     obtain ⟨a0, c0⟩ := q
     simp only [Sig.get, bifs, beq_iff_eq]
     split
     ·rfl
     ·rename_i hne
      rcases List.mem_cons.1 hs with hs | hs
      ·cases hs; exact absurd rfl hne
      ·exact ih hs
   exact key hq
  have ksin : ∀ i, (fin.get i).isSome = true → (i, (match backOf js i with | some j => j | none => i + dst.getD 0)) ∈ backJs js (dst.getD 0) fin := by
   intro i hi
   obtain ⟨b, hb⟩ := Option.isSome_iff_exists.1 hi
   exact List.mem_map.2 ⟨(i, b), Sig.get_mem hb, rfl⟩
  generalize hksd : backJs js (dst.getD 0) fin = ks at hks hc1 ksmem ksin hk
  let ρ2 : CEnv := ⟨fun n => match backOf ks n with | some i => ρr.loc i | none => ρ.loc n, ρr.ok⟩
  have F1 : ∀ i n, (i, n) ∈ ks → ρ2.loc n = ρr.loc i := fun i n hin => by
   show (match backOf ks n with | some i => ρr.loc i | none => ρ.loc n) = _
   rw [(back_iff hks).2 hin]
  have F2 : ∀ n, (sg.get n).isSome = true → look js n = none → ρ2.loc n = ρ.loc n ∧ ∀ i, (i, n) ∉ ks := by
   intro n hn hl
   have hno : ∀ i, (i, n) ∉ ks := fun i hin => by
    have := (hc1 (i, n) hin).1
    rw [get_keep, if_neg (by rw [hl]; simp), Option.map_eq_none_iff] at this
    rw [this] at hn; cases hn
   refine ⟨?_, hno⟩
   show (match backOf ks n with | some i => ρr.loc i | none => ρ.loc n) = _
   cases hb : backOf ks n with
   | none => rfl
   | some i => exact absurd ((back_iff hks).1 hb) (hno i)
  have F3 : ∀ j i, (j, i) ∈ js → PIN ≤ i → ρ2.loc j = ρ.loc j ∧ (i, j) ∈ ks := by
   intro j i hji hi
   have h1 : (fin.get i).isSome = true := by
    rcases hc2 (j, i) hji with h0 | h0
    ·simp only at h0; omega
    ·exact h0
   have h2 := ksin i h1
   rw [(back_iff hj).2 hji] at h2
   exact ⟨(F1 i j h2).trans (hpin i j hji hi h1), h2⟩
  have F4 : ∀ n, PIN ≤ n → ρ2.loc n = ρ.loc n := by
   intro n hn
   show (match backOf ks n with | some i => ρr.loc i | none => ρ.loc n) = _
   cases hb : backOf ks n with
   | none => rfl
   | some i =>
    have hin := (back_iff hks).1 hb
    obtain ⟨h1, h2⟩ := ksmem i n hin
    have h3 := (hc1 (i, n) hin).2
    simp only at h3
    split at h3
    ·rename_i hpi
     rw [Nat.ble_eq] at hpi
     obtain ⟨j, hbj⟩ := Option.isSome_iff_exists.1 h3
     rw [hbj] at h2
     simp only at h2
     subst h2
     exact hpin i n ((back_iff hj).1 hbj) hpi h1
    ·rw [Nat.blt_eq] at h3; omega
  have hMs : Mem w.heap.size ⟨G, ρ.ok, L⟩ ρ2 (fin.sel (look ks) ks) w' := hM.sel hks (fun i n hin => (ksmem i n hin).1) F1 rfl
  have hU : ∀ d, (sg.get d).isSome = true → gone js d = false → ρ2.loc d = ρ.loc d ∧ ((fin.sel (look ks) ks ++ keepSg js sg).get d).isSome = true := by
   intro d hd hg
   cases hl : look js d with
   | none =>
    refine ⟨(F2 d hd hl).1, ?_⟩
    rw [Sig.get_append]
    cases (fin.sel (look ks) ks).get d with
    | some b => rfl
    | none =>
     rw [Option.none_or, get_keep, if_neg (by rw [hl]; simp), Option.isSome_map]
     exact hd
   | some i =>
    have hpi : PIN ≤ i := by
     unfold gone at hg
     rw [hl] at hg
     simp only at hg
     rcases Nat.lt_or_ge i PIN with hlt | hge
     ·rw [show Nat.blt i PIN = true from by rw [Nat.blt_eq]; exact hlt] at hg; cases hg
     ·exact hge
    obtain ⟨h1, h2⟩ := F3 d i (look_mem hl) hpi
    refine ⟨h1, ?_⟩
    rw [Sig.get_append]
    obtain ⟨b, hb⟩ := Option.isSome_iff_exists.1 (sel_get (f := look ks) h2 (ksmem i d h2).1)
    rw [hb]; rfl
  have hsame : ∀ g, (∀ j i, (j, i) ∈ js → ¬ Owns ρ sg j g) → g < w.heap.size → w'.heap[g]? = w.heap[g]? := fun g hn hg => hfr g hg hn
  have hst : Step (fun d => (sg.get d).isSome = true ∧ gone js d = false) ρ ρ2 w w' := ⟨fun d hd => (hU d hd.1 hd.2).1, fun b g hg => hM.oky b g hg, fun b g hg => hsame g (fun j i _ hj => h.mem.oko b g hg j hj) (h.mem.okb b g hg)⟩
  have hold : ∀ g, G g → ∃ j, Owns ρ sg j g ∧ (look js j).isSome = true := fun g hg => by
   obtain ⟨j, i, h1, h2⟩ := hG g hg
   exact ⟨j, h2, by rw [(look_iff hj).2 h1]; rfl⟩
  have hown : ∀ n g, Owns ρ2 (fin.sel (look ks) ks ++ keepSg js sg) n g → Owns ρ2 (fin.sel (look ks) ks) n g ∨ (Owns ρ sg n g ∧ look js n = none) := by
   intro n g ho
   obtain ⟨b, h1, h2, h3⟩ := owns_iff.1 ho
   rw [Sig.get_append] at h1
   cases hb : (fin.sel (look ks) ks).get n with
   | some b0 =>
    rw [hb] at h1
    simp only [Option.some_or, Option.some.injEq] at h1
    subst h1
    exact .inl (owns_iff.2 ⟨b0, hb, h2, h3⟩)
   | none =>
    rw [hb, Option.none_or, get_keep] at h1
    split at h1
    ·cases h1
    ·rename_i hl
     rw [Option.map_eq_some_iff] at h1
     obtain ⟨b0, h4, rfl⟩ := h1
     have hl' : look js n = none := by cases hx : look js n with | none => rfl | some x => rw [hx] at hl; exact absurd rfl hl
     rw [(F2 n (by rw [h4]; rfl) hl').1] at h3
     refine .inr ⟨owns_iff.2 ⟨b0, h4, ?_, ?_⟩, hl'⟩
     ·rintro e t l q rfl; exact h2 _ _ _ _ rfl
     ·cases b0 with
      | box ty cs =>
       rcases h3 with ⟨_, _, _, h3⟩ | ⟨_, _, _, _, h3, _⟩
       ·exact .inl ⟨_, _, rfl, h3⟩
       ·cases h3
      | arr e t l q =>
       rcases h3 with ⟨_, _, h3, _⟩ | ⟨_, _, _, _, _, h3⟩
       ·cases h3
       ·exact .inr ⟨_, _, _, _, rfl, h3⟩
      | fro e t l q => exact absurd rfl (h2 e t l q)
  have hmix : ∀ n m g, Owns ρ2 (fin.sel (look ks) ks) n g → Owns ρ sg m g → look js m = none → False := by
   intro n m g h1 h2 h3
   rcases hMs.old n g h1 with h4 | h4
   ·exact absurd (h.mem.lt h2) (by omega)
   ·obtain ⟨j, h5, h6⟩ := hold g h4
    have := h.mem.inj j m g h5 h2
    subst this
    rw [h3] at h6; cases h6
  have hS : Sim P B O w0 ρ2 ⟨sl.map (·.strike (gone js)), fin.sel (look ks) ks ++ keepSg js sg⟩ a w' := by
   refine ⟨⟨fun n b hn => ?_, fun n m g h1 h2 => ?_, fun n g h1 => ?_, hM.okb, fun q g hq n hn => ?_, hM.okm, fun q g hq => ?_, fun q g hq => hM.oky q g (h.mem.oky q g hq), fun n b d hn hd => ?_⟩, by simpa using h.len, fun i v hi => ?_, fun i v d hi hd => ?_, h.defers, ?_, Nat.le_trans h.base hsz, fun n hn => (F4 n hn).trans (h.pin n hn), h.glo⟩
   ·rw [Sig.get_append] at hn
    cases hb : (fin.sel (look ks) ks).get n with
    | some b0 =>
     rw [hb] at hn
     simp only [Option.some_or, Option.some.injEq] at hn
     subst hn
     exact hMs.blk n b0 hb
    | none =>
     rw [hb, Option.none_or, get_keep] at hn
     split at hn
     ·cases hn
     ·rename_i hl
      rw [Option.map_eq_some_iff] at hn
      obtain ⟨b0, h4, rfl⟩ := hn
      have hl' : look js n = none := by cases hx : look js n with | none => rfl | some x => rw [hx] at hl; exact absurd rfl hl
      refine rblk_step hst ⟨by rw [h4]; rfl, by unfold gone; rw [hl']⟩ (fun x hx => ?_) (fun g hg hnf => ?_) (strike_rblk (h.mem.blk n b0 h4))
      ·obtain ⟨h5, h6⟩ := strike_blk hx
       exact ⟨h.mem.dom n b0 x h4 h5, h6⟩
      ·have ho : Owns ρ sg n g := by
        have hr := h.mem.blk n b0 h4
        refine owns_iff.2 ⟨b0, h4, fun e t l q he => hnf e t l q (by rw [he]; rfl), ?_⟩
        cases b0 with
        | fro e t l q => exact absurd rfl (hnf e t l q)
        | box ty cs =>
         refine .inl ⟨ty, cs, rfl, ?_⟩
         rcases hg with hg | ⟨v, sz, hg⟩
         ·exact hg
         ·obtain ⟨g', vs, h3, _⟩ := hr
          rw [hg] at h3; cases h3
        | arr e t l q =>
         refine .inr ⟨e, t, l, q, rfl, ?_⟩
         rcases hg with hg | hg
         ·obtain ⟨v', g', xs, h3, _⟩ := hr
          rw [hg] at h3; cases h3
         ·exact hg
       refine hsame g (fun j i hji hjo => ?_) (h.mem.lt ho)
       have := h.mem.inj j n g hjo ho
       subst this
       rw [(look_iff hj).2 hji] at hl'
       cases hl'
   ·rcases hown n g h1 with h3 | ⟨h3, h4⟩ <;> rcases hown m g h2 with h5 | ⟨h5, h6⟩
    ·exact hMs.inj n m g h3 h5
    ·exact (hmix n m g h3 h5 h6).elim
    ·exact (hmix m n g h5 h3 h4).elim
    ·exact h.mem.inj n m g h3 h5
   ·rcases hown n g h1 with h3 | ⟨h3, h4⟩
    ·rcases hMs.old n g h3 with h5 | h5
     ·exact .inl (Nat.le_trans h.base h5)
     ·obtain ⟨j, h6, _⟩ := hold g h5
      exact h.mem.old j g h6
    ·exact h.mem.old n g h3
   ·rcases hown n g hn with h3 | ⟨h3, h4⟩
    ·exact hMs.oko q g hq n h3
    ·rcases hM.okx q g hq with h5 | h5 | h5
     ·exact h.mem.oko q g h5 n h3
     ·exact absurd (h.mem.lt h3) (by omega)
     ·obtain ⟨j, h6, h7⟩ := hold g h5
      have := h.mem.inj j n g h6 h3
      subst this
      rw [h4] at h7; cases h7
   ·rcases hM.okx q g hq with h5 | h5 | h5
    ·exact h.mem.okx q g h5
    ·exact .inr (.inl (Nat.le_trans h.base h5))
    ·obtain ⟨j, h6, _⟩ := hold g h5
     exact .inr (h.mem.old j g h6)
   ·rw [Sig.get_append] at hn
    cases hb : (fin.sel (look ks) ks).get n with
    | some b0 =>
     rw [hb] at hn
     simp only [Option.some_or, Option.some.injEq] at hn
     subst hn
     have := hMs.dom n b0 d hb hd
     obtain ⟨b1, hb1⟩ := Option.isSome_iff_exists.1 this
     show ((fin.sel (look ks) ks ++ keepSg js sg).get d).isSome = true
     rw [Sig.get_append, hb1]; rfl
    | none =>
     rw [hb, Option.none_or, get_keep] at hn
     split at hn
     ·cases hn
     ·rw [Option.map_eq_some_iff] at hn
      obtain ⟨b0, h4, rfl⟩ := hn
      obtain ⟨h5, h6⟩ := strike_blk hd
      exact (hU d (h.mem.dom n b0 d h4 h5) h6).2
   ·rw [List.getElem?_map, Option.map_eq_some_iff] at hi
    obtain ⟨x, hx, rfl⟩ := hi
    obtain ⟨u, h1, h2⟩ := h.sl i x hx
    refine ⟨u, h1, rav_step hst (fun d hd => ?_) (strike_rav h2)⟩
    obtain ⟨h5, h6⟩ := strike_av hd
    exact ⟨h.dom i x d hx h5, h6⟩
   ·rw [List.getElem?_map, Option.map_eq_some_iff] at hi
    obtain ⟨x, hx, rfl⟩ := hi
    obtain ⟨h5, h6⟩ := strike_av hd
    exact (hU d (h.dom i x d hx h5) h6).2
   ·refine h.fr.trans ⟨hos, htape, hout, hsz, fun g hg hn => hsame g (fun j i _ hjo => ?_) (Nat.lt_of_lt_of_le hg h.base)⟩
    rcases h.mem.old j g hjo with h1 | h1
    ·omega
    ·exact hn h1
  have hfin := hS.put dst (v := res.ren (look ks)) (u := u) (ren_rav (fun i n hin => F1 i n (look_mem hin)) rfl hr) (fun d hd => by
   obtain ⟨i, h1, h2⟩ := ren_av hd
   have h3 := look_mem h1
   obtain ⟨b, hb⟩ := Option.isSome_iff_exists.1 (sel_get (f := look ks) h3 (ksmem i d h3).1)
   show ((fin.sel (look ks) ks ++ keepSg js sg).get d).isSome = true
   rw [Sig.get_append, hb]; rfl)
  exact ⟨_, _, hk, hfin⟩
 ·cases hk
end
end Go.Proofs.Ytakmjjikiefheaa.Lib
namespace Go.Proofs.Ytakmjjikiefheaa.Lib
open Go Go.RowKit
set_option linter.unusedVariables false
set_option linter.unusedSimpArgs false
section
variable {P : Program} {E : Env} {B : Nat} {O O' : Ow} {w0 w w' : World} {ρ ρ' : CEnv} {a : Act} {R : Type} {r : R} {sg sg' : Sig} {st : St} {call : CallFn}
theorem gen_call (h : Sim P B O w0 ρ st a w) {g : FuncId} {m : Gen} {avs : List AV} {us : List Value} (hm : GenOk P g m) (hav : All2 (rav ρ w) avs us) (huse : ∀ v ∈ avs, ∀ d, v.uses d = true → (st.sg.get d).isSome = true)
  {sg1 : Sig} {js : List (Nat × Nat)} {v : StT m.ss m.gs} (hin : genIn st.sg m avs = some (sg1, js, v)) {res : AV} {fin : Sig} (hF : (m.F v).run some = some (res, fin)) {dst : Option Nat} {k : St → Option R} (hk : genOut st.sl sg1 js dst res fin k = some r) :
  Calls P g us.toArray w fun e w' => ∃ u ρ2 st2, e = .returned u ∧ k st2 = some r ∧ Sim P B O w0 ρ2 st2 (a.put dst u) w' := by
 unfold genIn at hin
 split at hin
 ·rename_i sg1' args1 hgive
  simp only [bifs] at hin
  split at hin
  ·rename_i hok
   split at hin
   ·rename_i v' hcap
    simp only [Option.some.injEq, Prod.mk.injEq] at hin
    obtain ⟨rfl, rfl, rfl⟩ := hin
    obtain ⟨ρ1, b1, b2, b3, b4, b5⟩ := giveArgs_sound avs m.hand st.sg ρ us _ _ h.mem hav hgive
    have h1 : Sim P B O w0 ρ1 ⟨st.sl, sg1'⟩ a w := h.more b1 b2 b3
    generalize enterJs sg1' args1 = js at hok hcap hk ⊢
    simp only [jsOk, Bool.and_eq_true, List.all_eq_true] at hok
    obtain ⟨hj, hjs0⟩ := hok
    have hjs : ∀ j i, (j, i) ∈ js → (sg1'.get j).isSome = true := fun j i hji => hjs0 (j, i) hji
    obtain ⟨hwf, hfn, hcalls⟩ := hm
    have hl : ∀ j i, look js j = some i → (⟨locSel ρ1 js, ρ1.ok⟩ : CEnv).loc i = ρ1.loc j := fun j i hi => locSel_spec hj (look_mem hi)
    have hS : Sim P B ⟨O.o, O.ok0, locSel ρ1 js⟩ w ⟨locSel ρ1 js, ρ1.ok⟩ ⟨args1.map (·.ren (look js)), sg1'.sel (look js) js⟩ { tmps := us.toArray, defers := [] } w := by
     have hM := h1.mem.sel hj hjs (ρ' := ⟨locSel ρ1 js, ρ1.ok⟩) (fun j i hji => locSel_spec hj hji) rfl
     have hal : All2 (rav ⟨locSel ρ1 js, ρ1.ok⟩ w) (args1.map (·.ren (look js))) us := b4.map_left _ fun x u _ hx => ren_rav hl rfl hx
     refine ⟨hM.ow rfl rfl, by simp [← hal.length], fun i x hi => ?_, fun i x d hi hd => ?_, rfl, Keeps.refl _ _ _, h.base, fun _ _ => rfl, h.glow⟩
     ·obtain ⟨u, h3, h4⟩ := hal.get i hi
      exact ⟨u, by simpa using h3, h4⟩
     ·rw [List.getElem?_map, Option.map_eq_some_iff] at hi
      obtain ⟨y, hy, rfl⟩ := hi
      obtain ⟨j, h3, h4⟩ := ren_av hd
      exact sel_get (look_mem h3) (hjs j d (look_mem h3))
    obtain ⟨ρP, hP, c1, c2, c3⟩ := hS.thaw.fresh m.ss m.gs
    have hcl := hcalls _ res fin hF _ _ _ _ _ (hP.cap hwf hcap)
    refine hcl.mono fun e w' hh => ?_
    obtain ⟨u, ρr, rfl, hr, hM, hpin, hu, hos, htape, hout, hsz, hfr⟩ := hh
    have hH : ∀ g, (∃ j, Owns ρP (bldSt m.ss m.gs v').sg j g) → ∃ j i, (j, i) ∈ js ∧ Owns ρ1 sg1' j g := by
     rintro g ⟨i, hi⟩
     obtain ⟨j, h3, h4⟩ := owns_sel hj (fun j i hji => locSel_spec hj hji) (owns_thaw (c3 i g (bld_owns w hP.mem.okm hcap hi)))
     exact ⟨j, i, h3, h4⟩
    rw [show ρP.ok = ρ1.ok from c1] at hM
    obtain ⟨ρ2, st2, d1, d2⟩ := gen_back h1 hj hjs hM hH (fun i j hji hi hs => by
      rw [hpin i hi hs, c2 i hi]; exact locSel_spec hj hji) hos htape hout hsz (fun g hg hn => hfr g hg fun i hi => by
      obtain ⟨j, i', h3, h4⟩ := hH g ⟨i, hi⟩
      exact hn j i' h3 h4) hr hu hk
    exact ⟨u, ρ2, st2, rfl, d1, d2⟩
   ·cases hin
  ·cases hin
 ·cases hin
theorem genTry_spec {args : List AV} {g : FuncId} {q : (m : Gen) × (Sig × List (Nat × Nat) × StT m.ss m.gs)} : ∀ {l : List (FuncId × Gen)}, genTry sg args g l = some q → (g, q.1) ∈ l ∧ genIn sg q.1 args = some q.2
 | [], h => by cases h
 | (f, m) :: l, h => by
  simp only [genTry, bifs, beq_iff_eq] at h
  split at h
  ·rename_i hf
   subst hf
   split at h
   ·rename_i q' hq
    cases h
    exact ⟨List.mem_cons_self, hq⟩
   ·obtain ⟨h1, h2⟩ := genTry_spec h
    exact ⟨List.mem_cons_of_mem _ h1, h2⟩
  ·obtain ⟨h1, h2⟩ := genTry_spec h
   exact ⟨List.mem_cons_of_mem _ h1, h2⟩
theorem vgen_sound (hE : Env.Ok P E) (h : Sim P B O w0 ρ st a w) {o : Oper} {c : Call} {f : Operand} (ho : o.op = .call c) (hc : c.callee = .value f) {k : St → Option R} {other : Option R} (hk : vgenOp E st o.dst (evalO st.sl f) (c.args.toList.map (evalO st.sl)) k other = some r)
  {next : Act → World → Prop} {Q : Exit → Act → World → Prop} (hother : other = some r → o.wp P a w next Q) (hnext : ∀ ρ' st' a' w', k st' = some r → Sim P B O w0 ρ' st' a' w' → next a' w') : o.wp P a w next Q := by
 have hav : All2 (rav ρ w) (c.args.toList.map (evalO st.sl)) (c.args.toList.map a.eval) := by
  induction c.args.toList with
  | nil => exact .nil
  | cons x xs ih => exact .cons (h.eval x).1 ih
 have huse : ∀ v ∈ c.args.toList.map (evalO st.sl), ∀ d, v.uses d = true → (st.sg.get d).isSome = true := fun v hv d hd => by
  obtain ⟨x, _, rfl⟩ := List.mem_map.1 hv
  exact (h.eval x).2 d hd
 have go : ∀ (g : FuncId) (avs : List AV) (cvs : List Value) (q : (m : Gen) × (Sig × List (Nat × Nat) × StT m.ss m.gs)), a.eval f = .func (.func g) #[] cvs.toArray → All2 (rav ρ w) avs (c.args.toList.map a.eval ++ cvs) → (∀ v ∈ avs, ∀ d, v.uses d = true → (st.sg.get d).isSome = true) → genTry st.sg avs g E.gen = some q →
   (q.1.F q.2.2.2).run (fun x => genOut st.sl q.2.1 q.2.2.1 o.dst x.1 x.2 k) = some r → o.wp P a w next Q := by
  intro g avs cvs q hfe hall huse hq hrunk
  obtain ⟨hmem, hin⟩ := genTry_spec hq
  have hm := hE.gen _ hmem
  rw [Ways.run_bind, Option.bind_eq_some_iff] at hrunk
  obtain ⟨⟨res, fin⟩, hF, hk⟩ := hrunk
  obtain ⟨m, sg1, js, v⟩ := q
  have hcl := gen_call h hm hall huse hin hF hk
  obtain ⟨fn, hfn, hbody, hname⟩ := hm.2.1
  have hrun : (execOp a.eval o).run P w = .ok (.enter g (c.args.toList.map a.eval ++ cvs).toArray) w := by
   have hargs : (c.args.toList.map a.eval ++ cvs).toArray = c.args.map a.eval ++ cvs.toArray := by
    apply Array.ext'
    simp
   rw [hargs]
   unfold execOp
   have hbn : ¬ (fn.body = none) := by intro hb; rw [hb] at hbody; cases hbody
   have hnn : ¬ (fn.name = "runtime.NumGoroutine") := by intro hn; rw [hn] at hname; simp at hname
   simp only [] at hfn
   simp [ho, hc, resolve, hfe, Deferred.ofValue, Sem.run_bind, invoke, callFunc, hfn]
   rw [if_neg hnn, if_neg hbn]
  unfold Oper.wp
  rw [hrun, Oper.upon_enter]
  refine hcl.mono fun e w' hh => ?_
  obtain ⟨u, ρ2, st2, rfl, h1, h2⟩ := hh
  exact hnext ρ2 st2 _ w' h1 h2
 unfold vgenOp at hk
 split at hk
 ·rename_i g hf
  split at hk
  ·rename_i q hq
   have hfv := (h.eval f).1
   rw [hf] at hfv
   obtain ⟨cvs, hfe, hcaps⟩ := hfv
   cases hcaps
   exact go g _ [] q hfe (by rw [List.append_nil]; exact hav) huse hq hk
  ·exact hother hk
 ·rename_i g js hf
  split at hk
  ·rename_i q hq
   have hfv := (h.eval f).1
   rw [hf] at hfv
   obtain ⟨cvs, hfe, hcaps⟩ := hfv
   refine go g _ cvs q hfe (hav.append (hcaps.map_left (fun j => AV.one (.ptr j 0 0)) fun j u _ ⟨g, h1, h2⟩ => (show rc ρ w (.ptr j 0 0) u from Or.inl ⟨rfl, g, h1, h2⟩))) (fun v hv d hd => ?_) hq hk
   rcases List.mem_append.1 hv with hv | hv
   ·exact huse v hv d hd
   ·obtain ⟨j, hj, rfl⟩ := List.mem_map.1 hv
    refine (h.eval f).2 d ?_
    rw [hf]
    have := eq_of_beq hd
    subst this
    exact List.contains_iff_mem.2 hj
  ·exact hother hk
 ·exact hother hk
end
end Go.Proofs.Ytakmjjikiefheaa.Lib
namespace Go.Proofs.Ytakmjjikiefheaa.Lib
open Go Go.RowKit
set_option linter.unusedVariables false
set_option linter.unusedSimpArgs false
section
variable {P : Program} {E : Env} {B : Nat} {O : Ow} {w0 w w' : World} {ρ ρ' : CEnv} {a : Act} {R : Type} {r : R} {sg sg' : Sig} {st : St} {call : CallFn}
theorem get_shift_or (out : Sig) (d i : Nat) : (out.shift d).get i = if d ≤ i then (out.get (i - d)).map (·.shift d) else none := by
 split
 ·rename_i h
  have := Sig.get_shift out d (i - d)
  rwa [Nat.sub_add_cancel h] at this
 ·exact Sig.get_shift_none out d i (by omega)
theorem Sim.below (h : Sim P B O w0 ρ st a w) (hb : Below w.heap.size w w') : Sim P B O w0 ρ st a w' := by
 have hst : Step (fun _ => True) ρ ρ w w' := ⟨fun _ _ => rfl, fun _ _ h => h, fun b g hg => hb.block g (h.mem.okb b g hg)⟩
 refine ⟨⟨fun j b hj => ?_, h.mem.inj, h.mem.old, fun b g hg => Nat.lt_of_lt_of_le (h.mem.okb b g hg) hb.size, h.mem.oko, h.mem.okm, h.mem.okx, h.mem.oky, h.mem.dom⟩, h.len, fun i v hi => ?_, h.dom, h.defers,
  h.fr.trans ⟨hb.os, hb.tape, hb.output, hb.size, fun g h1 _ => hb.block g (Nat.lt_of_lt_of_le h1 h.base)⟩, Nat.le_trans h.base hb.size, h.pin, h.glo⟩
 ·refine rblk_step hst trivial (fun _ _ => trivial) (fun g hg hf => ?_) (h.mem.blk j b hj)
  have ho : Owns ρ st.sg j g := by
   refine owns_iff.2 ⟨b, hj, hf, ?_⟩
   have hr := h.mem.blk j b hj
   cases b with
   | fro e t l q => exact absurd rfl (hf e t l q)
   | box ty cs =>
    refine .inl ⟨ty, cs, rfl, ?_⟩
    rcases hg with hg | ⟨v, sz, hg⟩
    ·exact hg
    ·obtain ⟨g', vs, h3, _⟩ := hr
     rw [hg] at h3; cases h3
   | arr e t l q =>
    refine .inr ⟨e, t, l, q, rfl, ?_⟩
    rcases hg with hg | hg
    ·obtain ⟨v', g', xs, h3, _⟩ := hr
     rw [hg] at h3; cases h3
    ·exact hg
  exact hb.block g (h.mem.lt ho)
 ·obtain ⟨u, hu, hr⟩ := h.sl i v hi
  exact ⟨u, hu, rav_step hst (fun _ _ => trivial) hr⟩
theorem Sim.import (h : Sim P B O w0 ρ st a w) (hb : Below w.heap.size w w') {ρr : CEnv} {out : Sig} {res : AV} {v : Value} {d : Nat} (hM : Mem w.heap.size ⟨fun _ => False, ρ.ok, ρ.loc⟩ ρr out w') (hr : rav ρr w' res v) (hu : ∀ x, res.uses x = true → (out.get x).isSome = true)
  (hfr : ∀ q ∈ out, st.sg.free (q.1 + d) = true) :
  ∃ ρ', Sim P B O w0 ρ' ⟨st.sl.set d (res.shift d), out.shift d ++ st.sg⟩ (a.put (some d) v) w' := by
 have hok := hM.oky
 have hold : ∀ b g, ρr.ok b g → ρ.ok b g ∨ w.heap.size ≤ g := fun b g hg => by
  rcases hM.okx b g hg with h1 | h1 | h1
  ·exact .inl h1
  ·exact .inr h1
  ·exact h1.elim
 let ρ2 : CEnv := ⟨fun i => if d ≤ i ∧ (out.get (i - d)).isSome = true then ρr.loc (i - d) else ρ.loc i, ρr.ok⟩
 have hin : ∀ j, (out.get j).isSome = true → ρ2.loc (j + d) = ρr.loc j := by
  intro j hj
  show (if _ then _ else _) = _
  rw [if_pos ⟨by omega, by rw [Nat.add_sub_cancel]; exact hj⟩, Nat.add_sub_cancel]
 have hdis : ∀ i, (st.sg.get i).isSome = true → ¬ (d ≤ i ∧ (out.get (i - d)).isSome = true) := by
  rintro i hi ⟨h1, h2⟩
  obtain ⟨b, hb⟩ := Option.isSome_iff_exists.1 h2
  have := hfr _ (Sig.get_mem hb)
  rw [Nat.sub_add_cancel h1] at this
  have hpp := (Sig.free_iff.1 this).2
  have this := (Sig.free_iff.1 this).1
  rw [this] at hi
  cases hi
 have hout : ∀ i, (st.sg.get i).isSome = true → ρ2.loc i = ρ.loc i := fun i hi => by
  show (if _ then _ else _) = _
  rw [if_neg (hdis i hi)]
 have hget : ∀ i, (out.shift d ++ st.sg).get i = if d ≤ i ∧ (out.get (i - d)).isSome = true then (out.get (i - d)).map (·.shift d) else st.sg.get i := by
  intro i
  rw [Sig.get_append, get_shift_or]
  by_cases h1 : d ≤ i
  ·rw [if_pos h1]
   cases h2 : out.get (i - d) with
   | none => simp
   | some b => simp [h1]
  ·rw [if_neg h1, if_neg (fun h => h1 h.1)]; rfl
 have hb' := h.below hb
 have hst : Step (fun i => (st.sg.get i).isSome = true) ρ ρ2 w' w' := ⟨hout, hok, fun _ _ _ => rfl⟩
 have hown : ∀ i g, Owns ρ2 (out.shift d ++ st.sg) i g → (∃ j, i = j + d ∧ Owns ρr out j g) ∨ Owns ρ st.sg i g := by
  intro i g ho
  obtain ⟨b, h1, h2, h3⟩ := owns_iff.1 ho
  rw [hget] at h1
  split at h1
  ·rename_i hc
   rw [Option.map_eq_some_iff] at h1
   obtain ⟨b0, h4, rfl⟩ := h1
   have hl := hin (i - d) hc.2
   rw [Nat.sub_add_cancel hc.1] at hl
   rw [hl] at h3
   refine .inl ⟨i - d, by omega, owns_iff.2 ⟨b0, h4, ?_, ?_⟩⟩
   ·rintro e t l q rfl; exact h2 e t l q rfl
   ·cases b0 with
    | box ty cs =>
     rcases h3 with ⟨_, _, _, h3⟩ | ⟨_, _, _, _, h3, _⟩
     ·exact .inl ⟨_, _, rfl, h3⟩
     ·cases h3
    | arr e t l q =>
     rcases h3 with ⟨_, _, h3, _⟩ | ⟨_, _, _, _, _, h3⟩
     ·cases h3
     ·exact .inr ⟨_, _, _, _, rfl, h3⟩
    | fro e t l q => exact absurd rfl (h2 e t l q)
  ·rw [hout i (by rw [h1]; rfl)] at h3
   exact .inr (owns_iff.2 ⟨b, h1, h2, h3⟩)
 have hsome : ∀ i, (st.sg.get i).isSome = true → ((out.shift d ++ st.sg).get i).isSome = true := fun i hi => by rw [hget, if_neg (hdis i hi)]; exact hi
 have hsome' : ∀ j, (out.get j).isSome = true → ((out.shift d ++ st.sg).get (j + d)).isSome = true := fun j hj => by
  rw [hget, if_pos ⟨by omega, by rw [Nat.add_sub_cancel]; exact hj⟩, Nat.add_sub_cancel, Option.isSome_map]; exact hj
 have hpn : ∀ i, PIN ≤ i → ρ2.loc i = ρ.loc i := fun i hi => by
  show (if _ then _ else _) = _
  rw [if_neg]
  rintro ⟨h1, h2⟩
  obtain ⟨b, hb⟩ := Option.isSome_iff_exists.1 h2
  have := (Sig.free_iff.1 (hfr _ (Sig.get_mem hb))).2
  simp only at this
  omega
 have hS : Sim P B O w0 ρ2 ⟨st.sl, out.shift d ++ st.sg⟩ a w' := by
  refine ⟨⟨fun i b hi => ?_, fun i j g hi hj => ?_, fun i g hi => ?_, hM.okb, fun q g hq i hi => ?_, hM.okm, fun q g hq => ?_, fun q g hq => hok q g (h.mem.oky q g hq), fun i b x hi hx => ?_⟩, h.len, fun i v hi => ?_, fun i v x hi hx => ?_, h.defers, hb'.fr, hb'.base, fun i hi => (hpn i hi).trans (h.pin i hi), h.glo⟩
  ·rw [hget] at hi
   split at hi
   ·rename_i hc
    rw [Option.map_eq_some_iff] at hi
    obtain ⟨b0, h4, rfl⟩ := hi
    have := shift_rblk (ρ' := ρ2) (d := d) (hin (i - d) hc.2) (fun x hx => hin x (hM.dom (i - d) b0 x h4 hx)) rfl (hM.blk (i - d) b0 h4)
    rwa [Nat.sub_add_cancel hc.1] at this
   ·exact rblk_step hst (by show _ = _; rw [hi]; rfl) (fun x hx => h.mem.dom i b x hi hx) (fun _ _ _ => rfl) (hb'.mem.blk i b hi)
  ·rcases hown i g hi with ⟨i', rfl, h1⟩ | h1 <;> rcases hown j g hj with ⟨j', rfl, h2⟩ | h2
   ·rw [hM.inj i' j' g h1 h2]
   ·rcases hM.old i' g h1 with h3 | h3
    ·exact absurd (h.mem.lt h2) (by omega)
    ·exact h3.elim
   ·rcases hM.old j' g h2 with h3 | h3
    ·exact absurd (h.mem.lt h1) (by omega)
    ·exact h3.elim
   ·exact h.mem.inj i j g h1 h2
  ·rcases hown i g hi with ⟨i', rfl, h1⟩ | h1
   ·rcases hM.old i' g h1 with h3 | h3
    ·exact .inl (Nat.le_trans h.base h3)
    ·exact h3.elim
   ·exact h.mem.old i g h1
  ·rcases hown i g hi with ⟨i', rfl, h1⟩ | h1
   ·exact hM.oko q g hq i' h1
   ·rcases hold q g hq with h3 | h3
    ·exact h.mem.oko q g h3 i h1
    ·exact absurd (h.mem.lt h1) (by omega)
  ·rcases hold q g hq with h3 | h3
   ·exact h.mem.okx q g h3
   ·exact .inr (.inl (Nat.le_trans h.base h3))
  ·rw [hget] at hi
   split at hi
   ·rename_i hc
    rw [Option.map_eq_some_iff] at hi
    obtain ⟨b0, h4, rfl⟩ := hi
    have hx' : ∃ j, x = j + d ∧ b0.uses j = true := by
     cases b0 with
     | box t cs => exact shift_any hx
     | _ => cases hx
    obtain ⟨j, rfl, hj⟩ := hx'
    exact hsome' j (hM.dom (i - d) b0 j h4 hj)
   ·exact hsome x (h.mem.dom i b x hi hx)
  ·obtain ⟨u, h1, h2⟩ := hb'.sl i v hi
   exact ⟨u, h1, rav_step hst (fun x hx => h.dom i v x hi hx) h2⟩
  ·exact hsome x (h.dom i v x hi hx)
 exact ⟨ρ2, hS.put (some d) (shift_rav (fun x hx => hin x (hu x hx)) rfl hr) (fun x hx => by
  obtain ⟨j, rfl, hj⟩ := shift_av hx
  exact hsome' j (hu j hj))⟩
theorem vcallOp_sound (hE : Env.Ok P E) (hC : CallOk P call) (h : Sim P B O w0 ρ st a w) {o : Oper} {c : Call} {f : Operand} (ho : o.op = .call c) (hc : c.callee = .value f) {k : St → Option R} (hk : vcallOp E call st o.dst (evalO st.sl f) (c.args.toList.map (evalO st.sl)) k = some r)
  {next : Act → World → Prop} {Q : Exit → Act → World → Prop} (hnext : ∀ ρ' st' a' w', k st' = some r → Sim P B O w0 ρ' st' a' w' → next a' w') : o.wp P a w next Q := by
 unfold vcallOp at hk
 split at hk
 ·rename_i g caps hf
  split at hk
  ·rename_i args own hargs
   rw [callK_eq] at hk
   obtain ⟨⟨res, out⟩, hcall, hk⟩ := Option.bind_eq_some_iff.1 hk
   simp only [bifs] at hk
   split at hk
   ·rename_i hnb
    have hfv := (h.eval f).1
    rw [hf] at hfv
    obtain ⟨cvs, hfe, hcaps⟩ := hfv
    have hav : All2 (rav ρ w) (c.args.toList.map (evalO st.sl)) (c.args.toList.map a.eval) := by
     induction c.args.toList with
     | nil => exact .nil
     | cons x xs ih => exact .cons (h.eval x).1 ih
    obtain ⟨hl1, hl2⟩ := lendAll_sound hE h.mem (own := own) hav hargs (fun h => h)
    have hcap2 : All2 (rav (ρ.lent st.sg own) w) (caps.map fun c => AV.one (.eptr c.1 c.2 0 true)) cvs := hcaps.map_left _ fun p u _ ⟨ad, h1, h2⟩ => ⟨ad, h1.step (fun g hg => .inl hg) (fun _ _ => rfl), by rw [h2]; simp [Addr.add]⟩
    have hall := hl1.append hcap2
    obtain ⟨⟨fn, hfn, hbody, hname⟩, hcalls⟩ := callP_ok hE hC hcall (ρ.lent st.sg own) w _ (fun b k hk => by
      rcases hk with hk | ⟨_, _, j, hj⟩
      ·exact h.mem.okb b k hk
      ·exact h.mem.lt hj) (fun k hk => by
      rcases hk with hk | ⟨hk, _⟩
      ·exact .inl (h.mem.okm k hk)
      ·cases hk) (fun G hG => ⟨.inl (h.gh G hG).1, (h.gh G hG).2⟩) hall (fun v hv d => by
      rcases List.mem_append.1 hv with hv | hv
      ·exact hl2 v hv d
      ·obtain ⟨p, _, rfl⟩ := List.mem_map.1 hv; rfl)
    have hrun : (execOp a.eval o).run P w = .ok (.enter g (c.args.toList.map a.eval ++ cvs).toArray) w := by
     have hargs : (c.args.toList.map a.eval ++ cvs).toArray = c.args.map a.eval ++ cvs.toArray := by
      apply Array.ext'
      simp
     rw [hargs]
     unfold execOp
     have hbn : ¬ (fn.body = none) := by intro hb; rw [hb] at hbody; cases hbody
     have hnn : ¬ (fn.name = "runtime.NumGoroutine") := by intro hn; rw [hn] at hname; simp at hname
     simp [ho, hc, resolve, hfe, Deferred.ofValue, Sem.run_bind, invoke, callFunc, hfn]
     rw [if_neg hnn, if_neg hbn]
    unfold Oper.wp
    rw [hrun, Oper.upon_enter]
    refine hcalls.mono fun e w' hh => ?_
    obtain ⟨v, ρr, rfl, hr, hM, hu, hb⟩ := hh
    have hok := hM.oky
    have hold : ∀ b g, ρr.ok b g → (ρ.lent st.sg own).ok b g ∨ w.heap.size ≤ g := fun b g hg => by
     rcases hM.okx b g hg with h1 | h1 | h1
     ·exact .inl h1
     ·exact .inr h1
     ·exact h1.elim
    have fin : ∃ ρf : CEnv, rav ρf w' res v ∧ Mem w.heap.size ⟨fun _ => False, ρ.ok, ρ.loc⟩ ρf out w' := by
     cases own with
     | false =>
      refine ⟨ρr, hr, ⟨hM.blk, hM.inj, hM.old, hM.okb, hM.oko, hM.okm, fun b g hg => ?_, fun b g hg => hok b g (.inl hg), hM.dom⟩⟩
      rcases hold b g hg with (h1 | ⟨_, h1, _⟩) | h1
      ·exact .inl h1
      ·cases h1
      ·exact .inr (.inl h1)
     | true =>
      simp only [Bool.not_true, Bool.false_or, Bool.and_eq_true] at hnb
      let ρk : CEnv := ⟨ρr.loc, fun q g => ρr.ok false g ∨ ρ.ok q g⟩
      have hsk : Step (fun _ => True) ρr.strict ρk w' w' := ⟨fun _ _ => rfl, fun _ _ h => Or.inl h, fun _ _ _ => rfl⟩
      refine ⟨ρk, rav_step hsk (fun _ _ => trivial) (nobor_rav hnb.1 hr), ⟨fun j b hj => ?_, fun i j g hi hj => hM.inj i j g hi hj, fun j g hj => hM.old j g hj, fun b g hg => ?_, fun b g hg j hj => ?_, fun g hg => ?_, fun b g hg => ?_, fun b g hg => .inr hg, hM.dom⟩⟩
      ·have hb0 := nobor_blk (List.all_eq_true.1 hnb.2 _ (Sig.get_mem hj)) (hM.blk j b hj)
       exact rblk_step hsk trivial (fun _ _ => trivial) (fun _ _ _ => rfl) hb0
      ·rcases hg with hg | hg
       ·exact hM.okb false g hg
       ·exact Nat.lt_of_lt_of_le (h.mem.okb b g hg) hb.size
      ·rcases hg with hg | hg
       ·exact hM.oko false g hg j hj
       ·rcases hM.old j g hj with h1 | h1
        ·exact absurd (h.mem.okb b g hg) (by omega)
        ·exact h1.elim
      ·rcases hg with hg | hg
       ·exact .inl hg
       ·exact .inr (h.mem.okm g hg)
      ·rcases hg with hg | hg
       ·rcases hold false g hg with (h1 | ⟨h1, _⟩) | h1
        ·cases b with
         | false => exact .inl h1
         | true => exact .inl (h.mem.okm g h1)
        ·cases h1
        ·exact .inr (.inl h1)
       ·exact .inl hg
    obtain ⟨ρf, f1, f2⟩ := fin
    cases hd : o.dst with
    | none =>
     simp only [hd] at hk
     exact hnext ρ st a w' hk (h.below hb)
    | some d =>
     simp only [hd] at hk
     split at hk
     ·rename_i hfr
      obtain ⟨ρ2, hS⟩ := h.import hb f2 f1 hu (d := d) (fun q hq => List.all_eq_true.1 hfr q hq)
      exact hnext ρ2 _ _ w' hk hS
     ·cases hk
   ·cases hk
  ·cases hk
 ·cases hk
theorem exec_sound (hE : Env.Ok P E) (hC : CallOk P call) (h : Sim P B O w0 ρ st a w) (o : Oper) {k : St → Option R} (hk : exec E call o st k = some r)
  {next : Act → World → Prop} {Q : Exit → Act → World → Prop} (hnext : ∀ ρ' st' a' w', k st' = some r → Sim P B O w0 ρ' st' a' w' → next a' w') : o.wp P a w next Q := by
 have quiet : qop E st.sg (evalO st.sl) o.dst o.op (fun v add => k (St.put o.dst v ⟨st.sl, add ++ st.sg⟩)) = some r → o.wp P a w next Q := by
  intro hk
  obtain ⟨v, add, u, w', h1, h2, h3⟩ := qop_sound hE h o hk
  obtain ⟨ρ2, hS⟩ := h.adds h3
  unfold Oper.wp
  rw [h2, Oper.upon_value]
  exact hnext ρ2 _ _ w' h1 hS
 unfold exec at hk
 split at hk
 ·rename_i t p v ho
  obtain ⟨ρ2, st2, w', h1, h2, h3⟩ := vstore_sound hE h ho hk
  unfold Oper.wp
  rw [h2, Oper.upon_skip]
  exact hnext ρ2 _ _ w' h1 (h3.put o.dst trivial (fun d hd => by cases hd))
 ·rename_i c ho
  split at hk
  ·rename_i s x t t' hc ha hat
   simp only [bifs] at hk
   split at hk
   ·rename_i ht
    have ht : t' = t := by simpa using ht
    subst ht
    obtain ⟨ρ2, st2, w', v, h1, h2, h3⟩ := vappend_sound hE h ho hc ha hat hk
    unfold Oper.wp
    rw [h2, Oper.upon_value]
    exact hnext ρ2 _ _ w' h1 h3
   ·cases hk
  ·rename_i x t hc ha hat
   obtain ⟨ρ2, st2, w', h1, h2, h3⟩ := vclear_sound hE h ho hc ha hat hk
   unfold Oper.wp
   rw [h2, Oper.upon_value]
   exact hnext ρ2 _ _ w' h1 (h3.put o.dst (v := .tup []) (u := .tuple #[]) ⟨[], rfl, .nil⟩ (fun d hd => by cases hd))
  ·rename_i f hc
   split at hk
   ·rename_i m hm
    unfold markOf at hm
    split at hm
    ·exact vmark_sound h ho hc (hE.mark _ _ hm) hk hnext
    ·cases hm
   ·split at hk
    ·exact vcallOp_sound hE hC h ho hc hk hnext
    ·exact vgen_sound hE h ho hc hk (fun hk => vcallOp_sound hE hC h ho hc hk hnext) hnext
  ·exact quiet hk
 ·rename_i t n ps ho
  split at hk
  ·rename_i sg ps' hset
   split at hk
   ·rename_i d e sz by_ ty hd ht
    split at hk
    ·rename_i td sz' by' τ he
     simp only [bifs] at hk
     split at hk
     ·rename_i hcond
      simp only [Bool.and_eq_true, Sig.free_iff, beq_iff_eq, Nat.ble_eq] at hcond
      split at hk
      ·rename_i l hl
       obtain ⟨ρ2, w', v, h1, h2⟩ := vbuild_sound hE h ho hd hset ht he hcond.1.1 hcond.1.2 hcond.2 hl
       unfold Oper.wp
       rw [h1, Oper.upon_value]
       exact hnext ρ2 _ _ w' hk h2
      ·split at hk
       ·rename_i l hl
        obtain ⟨ρ2, w', v, h1, h2⟩ := vbuild_sound hE h ho hd hset ht he hcond.1.1 hcond.1.2 hcond.2 hl
        unfold Oper.wp
        rw [h1, Oper.upon_value]
        exact hnext ρ2 _ _ w' hk h2
       ·cases hk
     ·cases hk
    ·cases hk
   ·cases hk
  ·cases hk
 ·exact quiet hk
end
end Go.Proofs.Ytakmjjikiefheaa.Lib
namespace Go.Proofs.Ytakmjjikiefheaa.Lib
open Go Go.RowKit
set_option linter.unusedVariables false
set_option linter.unusedSimpArgs false
section
variable {P : Program} {E : Env} {B : Nat} {O : Ow} {w0 w w' : World} {ρ ρ' : CEnv} {a : Act} {R : Type} {r : R} {sg sg' : Sig} {st : St} {call : CallFn}
theorem put_same {t : Nat} {v : AV} (h : st.sl[t]? = some v) : st.put (some t) v = st := by
 obtain ⟨sl, sg⟩ := st
 simp only [St.put, St.mk.injEq, and_true]
 apply List.ext_getElem?
 intro i
 rw [List.getElem?_set]
 split
 ·rename_i hi
  subst hi
  split
  ·exact h.symm
  ·rename_i hn
   have := (List.getElem?_eq_some_iff.1 h).1
   exact absurd this hn
 ·rfl
theorem vguard_sound (hE : Env.Ok P E) (hC : CallOk P call) {ops : Array Oper} {k : St → Option R} {Q : Exit → Act → World → Prop}
  (hnext : ∀ ρ' st' a' w', k st' = some r → Sim P B O w0 ρ' st' a' w' → Q .normal a' w') : ∀ (l : List Oper) (st : St) (ρ : CEnv) (a : Act) (w : World), Sim P B O w0 ρ st a w → vguard E call ops.toList l st k = some r → wpList P ops Q l a w
 | [], st, ρ, a, w, h, hk => hnext ρ st a w hk h
 | o :: l, st, ρ, a, w, h, hk => by
  have run : ∀ (st : St), Sim P B O w0 ρ st a w → exec E call o st (fun st => vguard E call ops.toList l st k) = some r → Region.wanted o (yielded ops a.tmps) = true → wpList P ops Q (o :: l) a w := by
   intro st h hk hw
   unfold wpList
   rw [if_pos hw]
   exact .inl (exec_sound hE hC h o hk fun ρ' st' a' w' hk' h' => vguard_sound hE hC hnext l st' ρ' a' w' h' hk')
  have skip : ∀ (st : St), Sim P B O w0 ρ st a w → vguard E call ops.toList l (st.put o.dst (.tup [])) k = some r → Region.wanted o (yielded ops a.tmps) = false → wpList P ops Q (o :: l) a w := by
   intro st h hk hw
   unfold wpList
   rw [if_neg (by rw [hw]; simp)]
   exact vguard_sound hE hC hnext l _ ρ _ w (h.put o.dst (v := .tup []) (u := undef) ⟨[], rfl, .nil⟩ (fun d hd => by cases hd)) hk
  simp only [vguard] at hk
  split at hk
  ·rename_i hg
   exact run st h hk (by simp [Region.wanted, hg])
  ·rename_i j want hg
   split at hk
   ·rename_i t ht
    split at hk
    ·rename_i v hv
     obtain ⟨u, hu, hr⟩ := h.sl t _ hv
     have hr : u = .bool v := hr
     subst hr
     have ht' : (ops[j]?).bind (·.dst) = some t := by rw [← Array.getElem?_toList]; exact ht
     have hy : yielded ops a.tmps j = some v := by
      unfold yielded
      rw [ht']
      simp [hu]
     have hw : Region.wanted o (yielded ops a.tmps) = (v == want) := by
      unfold Region.wanted
      rw [hg]
      simp only [hy]
      cases v <;> cases want <;> rfl
     cases v with
     | true =>
      simp only [put_same hv, bifs] at hk
      split at hk
      ·rename_i h1; subst h1; exact run st h hk (by rw [hw]; rfl)
      ·rename_i h1; have : want = false := by simpa using h1
       subst this; exact skip st h hk (by rw [hw]; rfl)
     | false =>
      simp only [put_same hv, bifs] at hk
      split at hk
      ·rename_i h1; subst h1; exact skip st h hk (by rw [hw]; rfl)
      ·rename_i h1; have : want = false := by simpa using h1
       subst this; exact run st h hk (by rw [hw]; rfl)
    ·rename_i hv
     obtain ⟨u, hu, hr⟩ := h.sl t _ hv
     obtain ⟨us, rfl, hus⟩ := hr
     have ht' : (ops[j]?).bind (·.dst) = some t := by rw [← Array.getElem?_toList]; exact ht
     have hy : yielded ops a.tmps j = none := by
      unfold yielded
      rw [ht']
      simp [hu]
     have hw : Region.wanted o (yielded ops a.tmps) = false := by
      unfold Region.wanted
      rw [hg]
      simp only [hy]
      rfl
     exact skip st h hk hw
    ·cases hk
   ·cases hk
theorem Sig.get_only (p : Nat → Bool) (sg : Sig) (keep : List Nat) (i : Nat) : (sg.only p keep).get i = if (!keep.contains i) = true then none else (sg.get i).map (·.strike p) := by
 induction keep with
 | nil => rfl
 | cons j r ih =>
  simp only [Sig.only]
  by_cases he : j = i
  ·subst he
   have hc : (!(j :: r).contains j) = false := by simp
   rw [hc]
   cases hb : sg.get j with
   | some b => simp [Sig.get]
   | none =>
    rw [ih, hb]
    simp
  ·have hc : (!(j :: r).contains i) = !r.contains i := by
    rw [List.contains_cons]
    have : (i == j) = false := beq_eq_false_iff_ne.2 (Ne.symm he)
    rw [this, Bool.false_or]
   rw [hc]
   cases hb : sg.get j with
   | some b => simp only [Sig.get, beq_eq_false_iff_ne.2 he, cond_false]; exact ih
   | none => exact ih
theorem Sim.mask0 (h : Sim P B O w0 ρ st a w) {m : List Bool} (hm : m.length = st.sl.length) (keep : List Nat) : Sim P B O w0 ρ (st.mask0 m keep) a w := by
 have hget : ∀ i, (st.mask0 m keep).sg.get i = if (!keep.contains i) = true then none else (st.sg.get i).map (·.strike fun j => !keep.contains j) := fun i => Sig.get_only _ _ _ _
 have hsl : ∀ (i : Nat) (v : AV), (st.mask0 m keep).sl[i]? = some v → ∃ v0, st.sl[i]? = some v0 ∧ (v = .one .und ∨ v = v0.strike fun j => !keep.contains j) := by
  intro i v hi
  simp only [St.mask0, List.getElem?_zipWith] at hi
  split at hi
  ·rename_i b v0 hb hv0
   cases hi
   exact ⟨v0, hv0, by cases b <;> simp⟩
  ·cases hi
 refine ⟨h.mem.strike (p := fun j => !keep.contains j) (fun i b' hi => ?_) (fun d hd hp => ?_), by simp [St.mask0, h.len, hm], fun i v hi => ?_, fun i v d hi hd => ?_, h.defers, h.fr, h.base, h.pin, h.glo⟩
 ·rw [hget] at hi
  split at hi
  ·cases hi
  ·rw [Option.map_eq_some_iff] at hi
   obtain ⟨b, h1, h2⟩ := hi
   exact ⟨b, h1, h2.symm⟩
 ·rw [hget, if_neg (by simpa using hp), Option.isSome_map]; exact hd
 ·obtain ⟨v0, h1, h2⟩ := hsl i v hi
  obtain ⟨u, h3, h4⟩ := h.sl i v0 h1
  rcases h2 with rfl | rfl
  ·exact ⟨u, h3, trivial⟩
  ·exact ⟨u, h3, strike_rav h4⟩
 ·obtain ⟨v0, h1, h2⟩ := hsl i v hi
  rcases h2 with rfl | rfl
  ·cases hd
  ·obtain ⟨h3, h4⟩ := strike_av hd
   rw [hget, if_neg (by simpa using h4), Option.isSome_map]
   exact h.dom i v0 d h1 h3
theorem Sim.dead (h : Sim P B O w0 ρ st a w) {m : List Bool} (hm : m.length = st.sl.length) : Sim P B O w0 ρ (st.dead m) a w := by
 have hsl : ∀ (i : Nat) (v : AV), (st.dead m).sl[i]? = some v → ∃ v0, st.sl[i]? = some v0 ∧ (v = .one .und ∨ v = v0) := by
  intro i v hi
  simp only [St.dead, List.getElem?_zipWith] at hi
  split at hi
  ·rename_i b v0 hb hv0
   cases hi
   exact ⟨v0, hv0, by cases b <;> simp⟩
  ·cases hi
 refine ⟨h.mem, by simp [St.dead, h.len, hm], fun i v hi => ?_, fun i v d hi hd => ?_, h.defers, h.fr, h.base, h.pin, h.glo⟩
 ·obtain ⟨v0, h1, h2⟩ := hsl i v hi
  obtain ⟨u, h3, h4⟩ := h.sl i v0 h1
  rcases h2 with rfl | rfl
  ·exact ⟨u, h3, trivial⟩
  ·exact ⟨u, h3, h4⟩
 ·obtain ⟨v0, h1, h2⟩ := hsl i v hi
  rcases h2 with rfl | rfl
  ·cases hd
  ·exact h.dom i _ d h1 hd
theorem Sim.truncOne (h : Sim P B O w0 ρ st a w) (i : Nat) : ∃ ρ', Sim P B O w0 ρ' (truncOne st i) a w := by
 unfold Lib.truncOne
 split
 ·rename_i j o n hi
  split
  ·rename_i e t l b hj
   rw [bifs]
   split
   ·rename_i hpin
    rw [Nat.blt_eq] at hpin
    obtain ⟨u, hu, hr⟩ := h.sl i _ hi
    obtain ⟨A, N, c, g, sz, hloc, hle, hsub⟩ := hr
    have hv : u = .slice A n c := by
     rcases hsub with ⟨_, hv⟩ | ⟨_, _, ad, rfl, hv⟩ | ⟨_, h0, _⟩
     ·exact hv
     ·rw [hv, Nat.zero_mul, addr_add0]; rfl
     ·exact absurd rfl h0
    have hL := h.loosen j
    have hgL : Sig.get j (st.loosen j).sg = some (.arr e t l b) := by
     rw [show Sig.get j (st.loosen j).sg = _ from Sig.get_map _ _ _, hj]; rfl
    obtain ⟨v, g', xs, hl', hel, hrow⟩ := hL.mem.blk j _ hgL
    rw [hloc] at hl'
    cases hl'
    have hno : ∀ d b', (st.loosen j).sg.get d = some b' → b'.uses j = true → False := by
     intro d b' hd hb'
     rw [show Sig.get d (st.loosen j).sg = _ from Sig.get_map _ _ _, Option.map_eq_some_iff] at hd
     obtain ⟨b0, _, rfl⟩ := hd
     have := (strike_blk hb').2
     simp at this
    have hnos : ∀ (k : Nat) (v : AV), (st.loosen j).sl[k]? = some v → v.uses j = true → False := by
     intro k v hk hv
     simp only [St.loosen, List.getElem?_map, Option.map_eq_some_iff] at hk
     obtain ⟨v0, _, rfl⟩ := hk
     have := (strike_av hv).2
     simp at this
    let ρ' : CEnv := ρ.upd j (.arr (.slice A n c) g t.sz)
    have hst : Step (fun d => d ≠ j) ρ ρ' w w := ⟨fun d hd => CEnv.upd_ne ρ _ hd, fun _ _ h => h, fun _ _ _ => rfl⟩
    have hown : ∀ d k, Owns ρ' ((st.loosen j).sg.put j (.arr e t (l.take n) b)) d k → Owns ρ (st.loosen j).sg d k := by
     intro d k ho
     obtain ⟨b0, h1, h2, h3⟩ := owns_iff.1 ho
     rw [Sig.get_put] at h1
     split at h1
     ·rename_i hjd
      subst hjd
      cases h1
      refine owns_iff.2 ⟨_, hgL, by simp, .inr ⟨_, _, _, _, rfl, ?_⟩⟩
      rcases h3 with ⟨_, _, h3, _⟩ | ⟨_, _, _, _, _, v0, sz0, h3⟩
      ·cases h3
      ·rw [CEnv.upd_same] at h3
       cases h3
       exact ⟨_, _, hloc⟩
     ·rename_i hjd
      rw [show ρ'.loc d = ρ.loc d from CEnv.upd_ne ρ _ (Ne.symm hjd)] at h3
      exact owns_iff.2 ⟨b0, h1, h2, h3⟩
    have hsome : ∀ d, ((st.loosen j).sg.get d).isSome = true → (((st.loosen j).sg.put j (.arr e t (l.take n) b)).get d).isSome = true := by
     intro d hd
     rw [Sig.get_put]
     split
     ·rfl
     ·exact hd
    have hNl : N = l.length := by
     cases g with
     | none =>
      obtain ⟨rfl, A', h0⟩ := hrow
      cases h0
      rfl
     | some g =>
      rcases hrow.1.2 with ⟨h0, hn0⟩ | ⟨_, cap, cur, h0, _⟩
      ·rw [h0] at hrow; cases hrow.2
      ·cases h0; rfl
    have hn : n ≤ l.length := by omega
    refine ⟨ρ', ⟨⟨fun d b' hd => ?_, fun d d' k h1 h2 => hL.mem.inj d d' k (hown d k h1) (hown d' k h2), fun d k h1 => hL.mem.old d k (hown d k h1), h.mem.okb, fun q k hq d h1 => hL.mem.oko q k hq d (hown d k h1), h.mem.okm, h.mem.okx, h.mem.oky, fun d b' x hd hx => ?_⟩, by simp [hL.len], fun k v hk => ?_, fun k v x hk hx => ?_, h.defers, h.fr, h.base, fun d hd => ?_, h.glo⟩⟩
    ·rw [Sig.get_put] at hd
     split at hd
     ·rename_i hjd
      subst hjd
      cases hd
      refine ⟨.slice A n c, g, xs.take (n * t.sz), CEnv.upd_same _ _ _, ⟨?_, fun q p hp => ?_⟩, ?_⟩
      ·rw [List.length_take, hel.1, List.length_take, Nat.min_eq_left hn, Nat.min_eq_left (Nat.mul_le_mul_right _ hn)]
      ·rw [List.getElem?_take] at hp
       split at hp
       ·rename_i hq
        have := hel.2 q p hp
        have hq' : q * t.sz + t.sz ≤ n * t.sz := by rw [← Nat.succ_mul]; exact Nat.mul_le_mul_right _ hq
        rwa [List.drop_take, List.take_take, Nat.min_eq_left (by omega)]
       ·cases hp
      ·cases g with
       | none =>
        obtain ⟨rfl, A', h0⟩ := hrow
        cases h0
        have : n = 0 := by simpa using hn
        subst this
        exact ⟨rfl, A, rfl⟩
       | some g =>
        refine ⟨⟨?_, ?_⟩, ?_⟩
        ·rw [List.length_take, hel.1, List.length_take, Nat.min_eq_left hn, Nat.min_eq_left (Nat.mul_le_mul_right _ hn)]
        ·rcases hrow.1.2 with ⟨h0, hn0⟩ | ⟨g1, cap, cur, h0, h1, h2, h3, h4, h5, h6⟩
         ·rw [h0] at hrow; cases hrow.2
         ·cases h0
          refine .inr ⟨g1, c, cur, ?_, h1, h2, ?_, h4, h5, ?_⟩
          ·rw [List.length_take, Nat.min_eq_left hn]
          ·rw [List.length_take, Nat.min_eq_left hn]; omega
          ·rw [← h6, List.take_take, List.length_take, Nat.min_eq_left hn, Nat.min_eq_left (Nat.mul_le_mul_right _ hn)]
        ·have := hrow.2
         cases A with
         | none => cases this
         | some ad => exact this
     ·rename_i hjd
      exact rblk_step hst (Ne.symm hjd) (fun x hx he => hno d b' hd (by rw [← he]; exact hx)) (fun _ _ _ => rfl) (hL.mem.blk d b' hd)
    ·rw [Sig.get_put] at hd
     split at hd
     ·cases hd; cases hx
     ·exact hsome x (hL.mem.dom d b' x hd hx)
    ·rw [List.getElem?_set] at hk
     split at hk
     ·rename_i hik
      subst hik
      split at hk
      ·cases hk
       exact ⟨u, hu, g, t.sz, by rw [hv]; exact CEnv.upd_same _ _ _⟩
      ·cases hk
     ·obtain ⟨u', h1, h2⟩ := hL.sl k v hk
      exact ⟨u', h1, rav_step hst (fun x hx he => hnos k v hk (by rw [← he]; exact hx)) h2⟩
    ·rw [List.getElem?_set] at hk
     split at hk
     ·split at hk
      ·cases hk
       simp only [AV.uses, Cell.uses, beq_iff_eq] at hx
       subst hx
       show (((st.loosen j).sg.put j (.arr e t (l.take n) b)).get j).isSome = true
       rw [Sig.get_put, if_pos rfl]; rfl
      ·cases hk
     ·exact hsome x (hL.dom k v x hk hx)
    ·exact (CEnv.upd_ne ρ _ (by omega)).trans (h.pin d hd)
   ·exact ⟨ρ, h⟩
  ·exact ⟨ρ, h⟩
 ·exact ⟨ρ, h⟩
theorem truncOne_len (s : St) (i : Nat) : (truncOne s i).sl.length = s.sl.length := by
 unfold Lib.truncOne
 split
 ·split
  ·rw [bifs]; split
   ·simp [St.loosen]
   ·rfl
  ·rfl
 ·rfl
theorem Sim.truncs : ∀ (l : List Nat) {ρ : CEnv} {st : St}, Sim P B O w0 ρ st a w → ∃ ρ', Sim P B O w0 ρ' (truncs l st) a w
 | [], ρ, st, h => ⟨ρ, h⟩
 | i :: r, ρ, st, h => by
  obtain ⟨ρ1, h1⟩ := h.truncOne i
  exact Sim.truncs r h1
theorem truncs_len : ∀ (l : List Nat) (s : St), (truncs l s).sl.length = s.sl.length
 | [], s => rfl
 | i :: r, s => by rw [truncs, truncs_len r, truncOne_len]
theorem Sim.mask (h : Sim P B O w0 ρ st a w) {m : List Bool} (hm : m.length = st.sl.length) (keep : List Nat) : ∃ ρ', Sim P B O w0 ρ' (st.mask m keep) a w := by
 have h1 := h.dead hm
 obtain ⟨ρ', h2⟩ := Sim.truncs (subs (st.dead m).sl 0) h1
 refine ⟨ρ', (h2.thaw).mask0 ?_ keep⟩
 rw [thaw_len]
 have : (Lib.truncs (subs (st.dead m).sl 0) (st.dead m)).sl.length = (st.dead m).sl.length := truncs_len _ _
 rw [this]
 simp [St.dead, hm]
theorem Sim.capN (h : Sim P B O w0 ρ st a w) {ss : List SP} {gs : List (Nat × GP)} {v : StT ss gs} (hwf : wfSt ss gs) (hc : Lib.capN ss gs st = some v) : ∃ ρ', Sim P B O w0 ρ' (bldSt ss gs v) a w := by
 unfold Lib.capN at hc
 split at hc
 ·rename_i v' hv
  cases hc
  exact ⟨ρ, h.cap hwf hv⟩
 ·rw [bifs] at hc
  split at hc
  ·rename_i hl
   have hl : (ss.map (·.isDef)).length = st.sl.length := by simpa using hl
   have h1 := h.dead hl
   obtain ⟨ρ2, h2⟩ := Sim.truncs (subs (st.dead (ss.map (·.isDef))).sl 0) h1
   obtain ⟨ρ3, h3, _⟩ := h2.thaw.cool ss
   obtain ⟨ρ4, h4⟩ := h3.named ss gs
   obtain ⟨ρ5, h5, _⟩ := h4.fresh ss gs
   exact ⟨ρ5, h5.cap hwf hc⟩
  ·cases hc
theorem Sim.norm (h : Sim P B O w0 ρ st a w) (ss : List SP) (gs : List (Nat × GP)) : ∃ ρ', Sim P B O w0 ρ' (st.norm ss gs) a w := by
 unfold St.norm
 rw [bifs]
 split
 ·rename_i hc
  split
  ·rename_i v hv
   exact h.capN (wf_of hc) hv
  ·exact ⟨ρ, h⟩
 ·exact ⟨ρ, h⟩
theorem Sim.nz (h : Sim P B O w0 ρ st a w) {z : Nz} (hz : z.len = st.sl.length) : ∃ ρ', Sim P B O w0 ρ' (z.run st) a w := by
 cases z with
 | mask m keep => exact h.mask hz keep
 | norm ss gs => exact h.norm ss gs
theorem Sim.ends (h : Sim P B O w0 ρ st a w) (fn : Func) : ∃ ρ', Sim P B O w0 ρ' (st.ends fn) a w := Sim.truncs _ h
theorem wp_loop_fuel {c : Code} {Q : Exit → Act → World → Prop} (I : Nat → Act → World → Prop)
  (round : ∀ n a w, I n a w → c.wp P (Exit.then (fun a' w' => ∃ m, m < n ∧ I m a' w') Q) a w) : ∀ n a w, I n a w → (Code.loop c).wp P Q a w := by
 intro n a w hI b k cs
 have key : ∀ n a w, I n a w → ∃ e a' w', Q e a' w' ∧ Arrives P (lone (b.at a (.code c :: .inLoop c :: k)) cs w) b k cs e a' w' := by
  intro n
  induction n using Nat.strongRecOn with
  | _ n ih =>
   intro a w hI
   obtain ⟨e, a₁, w₁, hq, harr⟩ := round n a w hI b (.inLoop c :: k) cs
   cases e with
   | normal =>
    obtain ⟨m, hlt, hI₁⟩ := hq
    obtain ⟨e₂, a₂, w₂, hq₂, harr₂⟩ := ih m hlt a₁ w₁ hI₁
    exact ⟨e₂, a₂, w₂, hq₂, .of_steps (Steps.trans harr (.one step_inLoop)) harr₂⟩
   | exit id => exact ⟨_, a₁, w₁, hq, .pass (x := .inLoop c) rfl (fun _ _ => .inl (by simp)) harr⟩
   | goto l => exact ⟨_, a₁, w₁, hq, .pass (x := .inLoop c) rfl (fun _ _ => .inl (by simp)) harr⟩
   | ret => exact ⟨_, a₁, w₁, hq, .pass (x := .inLoop c) rfl (fun _ _ => .inl (by simp)) harr⟩
   | panic ch => exact ⟨_, a₁, w₁, hq, .pass (x := .inLoop c) rfl (fun _ _ => .inl (by simp)) harr⟩
   | outgrown => exact ⟨_, a₁, w₁, hq, .pass (x := .inLoop c) rfl (fun _ _ => .inl (by simp)) harr⟩
 obtain ⟨e, a', w', hq, harr⟩ := key n a w hI
 exact ⟨e, a', w', hq, .of_steps (.one step_loop) harr⟩
def DrawOk (P : Program) (E : Env) (call : CallFn) (draw : Env → CallFn → List Oper → St → Bool) : Prop :=
 ∀ (R : Type) (r : R) (B : Nat) (O : Ow) (w0 w : World) (ρ : CEnv) (st : St) (a : Act) (id : Nat) (ops : Array Oper) (k : St → Option R) (Q : Exit → Act → World → Prop), draw E call ops.toList st = true → Sim P B O w0 ρ st a w → vguard E call ops.toList ops.toList st k = some r →
  (∀ ρ' st' a' w', k st' = some r → Sim P B O w0 ρ' st' a' w' → Q .normal a' w') → (Code.region id ops true).wp P Q a w
theorem vcode_sound (hE : Env.Ok P E) (hC : CallOk P call) {draw : Env → CallFn → List Oper → St → Bool} (hD : DrawOk P E call draw) (fuel : Nat) : ∀ (c : Code) (lt : LT) (st : St) (ρ : CEnv) (a : Act) (w : World) (k : Ex → St → Option R) (Q : Exit → Act → World → Prop), LtOk P c lt → Sim P B O w0 ρ st a w → vcode E call draw fuel c lt st k = some r →
  (∀ e ρ' st' a' w', k e st' = some r → Sim P B O w0 ρ' st' a' w' → Q e.to a' w') → c.wp P Q a w
 | .skip, lt, st, ρ, a, w, k, Q, hl, h, hk, hn => wp_skip (hn .normal ρ st a w hk h)
 | .label l, lt, st, ρ, a, w, k, Q, hl, h, hk, hn => wp_label (hn .normal ρ st a w hk h)
 | .exit id, lt, st, ρ, a, w, k, Q, hl, h, hk, hn => wp_exit (hn (.exit id) ρ st a w hk h)
 | .ret, lt, st, ρ, a, w, k, Q, hl, h, hk, hn => wp_ret (hn .ret ρ st a w hk h)
 | .goto _, lt, st, ρ, a, w, k, Q, hl, h, hk, hn => by simp only [vcode] at hk; cases hk
 | .scope _, lt, st, ρ, a, w, k, Q, hl, h, hk, hn => by simp only [vcode] at hk; cases hk
 | .refuse _, lt, st, ρ, a, w, k, Q, hl, h, hk, hn => by simp only [vcode] at hk; cases hk
 | .rangeFunc _ _ _ _, lt, st, ρ, a, w, k, Q, hl, h, hk, hn => by simp only [vcode] at hk; cases hk
 | .region id ops d, lt, st, ρ, a, w, k, Q, hl, h, hk, hn => by
  simp only [vcode] at hk
  have go : (bif !d || draw E call ops.toList st then vguard E call ops.toList ops.toList st (k .normal) else none) = some r → (Code.region id ops d).wp P Q a w := by
   clear hk
   intro hk
   simp only [bifs] at hk
   split at hk
   ·rename_i hd
    cases d with
    | false => exact wp_region_list (vguard_sound hE hC (fun ρ' st' a' w' hk' h' => hn .normal ρ' st' a' w' hk' h') _ st ρ a w h hk)
    | true => exact hD R r B O w0 w ρ st a id ops (k .normal) Q (by simpa using hd) h hk (fun ρ' st' a' w' hk' h' => hn .normal ρ' st' a' w' hk' h')
   ·cases hk
  cases lt with
  | sum ss gs F =>
   simp only at hk
   split at hk
   ·rename_i v hv
    rw [Ways.run_bind, Option.bind_eq_some_iff] at hk
    obtain ⟨q, hq, hk⟩ := hk
    simp only [LtOk] at hl
    obtain ⟨ρP, hP⟩ := h.capN hl.1 hv
    exact hl.2 B O w0 w ρP a v q.1 q.2 Q hq hP fun ρ' a' w' h' => hn _ ρ' _ a' w' hk h'
   ·cases hk
  | none => exact go hk
  | node p q => exact go hk
 | .seq x y, lt, st, ρ, a, w, k, Q, hl, h, hk, hn => by
  simp only [vcode] at hk
  refine wp_seq (vcode_sound hE hC hD fuel x lt.l st ρ a w _ _ hl.1 h hk fun e ρ' st' a' w' hk' h' => ?_)
  cases e with
  | normal => exact vcode_sound hE hC hD fuel y lt.r st' ρ' a' w' k Q hl.2 h' hk' hn
  | exit i => exact hn (.exit i) ρ' st' a' w' hk' h'
  | ret => exact hn .ret ρ' st' a' w' hk' h'
 | .cond c x y, lt, st, ρ, a, w, k, Q, hl, h, hk, hn => by
  simp only [vcode] at hk
  have go : LtOk P x lt.l → LtOk P y lt.r → (match evalO st.sl c with
    | .one (.bool v) => (match v with
     | true => vcode E call draw fuel x lt.l st k
     | false => vcode E call draw fuel y lt.r st k)
    | _ => none) = some r → (Code.cond c x y).wp P Q a w := by
   intro hl1 hl2 hk
   split at hk
   ·rename_i v hv
    have hc := (h.eval c).1
    rw [hv] at hc
    have hc : a.eval c = .bool v := hc
    cases v with
    | true => exact wp_cond_true hc (vcode_sound hE hC hD fuel x lt.l st ρ a w k Q hl1 h hk hn)
    | false => exact wp_cond_false hc (vcode_sound hE hC hD fuel y lt.r st ρ a w k Q hl2 h hk hn)
   ·cases hk
  cases lt with
  | sum ss gs F =>
   simp only at hk
   split at hk
   ·rename_i v hv
    rw [Ways.run_bind, Option.bind_eq_some_iff] at hk
    obtain ⟨q, hq, hk⟩ := hk
    simp only [LtOk] at hl
    obtain ⟨ρP, hP⟩ := h.capN hl.1 hv
    exact hl.2 B O w0 w ρP a v q.1 q.2 Q hq hP fun ρ' a' w' h' => hn _ ρ' _ a' w' hk h'
   ·cases hk
  | none => exact go hl.1 hl.2 hk
  | node p q => exact go hl.1 hl.2 hk
 | .block id b, lt, st, ρ, a, w, k, Q, hl, h, hk, hn => by
  simp only [vcode] at hk
  refine wp_block (vcode_sound hE hC hD fuel b lt.l st ρ a w _ _ hl h hk fun e ρ' st' a' w' hk' h' => ?_)
  cases e with
  | normal => exact hn .normal ρ' st' a' w' hk' h'
  | exit i =>
   simp only [bifs, beq_iff_eq] at hk'
   show (if i = id then Q .normal a' w' else Q (.exit i) a' w')
   split at hk'
   ·rename_i hi; rw [if_pos hi]; exact hn .normal ρ' st' a' w' hk' h'
   ·rename_i hi; rw [if_neg hi]; exact hn (.exit i) ρ' st' a' w' hk' h'
  | ret => exact hn .ret ρ' st' a' w' hk' h'
 | .loop b, lt, st, ρ, a, w, k, Q, hl, h, hk, hn => by
  simp only [vcode] at hk
  have go : LtOk P b lt.l → vloop (vcode E call draw fuel b lt.l) (.mask (st.sl.map (·.isDef)) (st.sg.map (·.1))) fuel st k = some r → (Code.loop b).wp P Q a w := by
   intro hl0 hk
   refine wp_loop_fuel (fun n a w => ∃ ρ st', Sim P B O w0 ρ st' a w ∧ vloop (vcode E call draw fuel b lt.l) (.mask (st.sl.map (·.isDef)) (st.sg.map (·.1))) n st' k = some r) (fun n a w hI => ?_) fuel a w ⟨ρ, st, h, hk⟩
   obtain ⟨ρ1, st1, h1, hk1⟩ := hI
   cases n with
   | zero => simp only [vloop] at hk1; cases hk1
   | succ n =>
    simp only [vloop] at hk1
    refine vcode_sound hE hC hD fuel b lt.l _ ρ1 a w _ _ hl0 h1 hk1 fun e ρ' st' a' w' hk' h' => ?_
    simp only [bifs] at hk'
    split at hk'
    ·rename_i hl'
     simp only [beq_iff_eq] at hl'
     obtain ⟨ρm, hm⟩ := h'.nz (z := .mask (st.sl.map (·.isDef)) (st.sg.map (·.1))) hl'.symm
     cases e with
     | normal => exact ⟨n, Nat.lt_succ_self n, ρm, _, hm, hk'⟩
     | exit i => exact hn (.exit i) ρm _ a' w' hk' hm
     | ret => exact hn .ret ρm _ a' w' hk' hm
    ·cases hk'
  cases lt with
  | sum ss gs F =>
   simp only at hk
   split at hk
   ·rename_i v hv
    rw [Ways.run_bind, Option.bind_eq_some_iff] at hk
    obtain ⟨q, hq, hk⟩ := hk
    simp only [LtOk] at hl
    obtain ⟨ρP, hP⟩ := h.capN hl.1 hv
    exact hl.2 B O w0 w ρP a v q.1 q.2 Q hq hP fun ρ' a' w' h' => hn _ ρ' _ a' w' hk h'
   ·cases hk
  | none => exact go hl hk
  | node x y => exact go hl hk
theorem vloop_sound (hE : Env.Ok P E) (hC : CallOk P call) {draw : Env → CallFn → List Oper → St → Bool} (hD : DrawOk P E call draw) (fuel : Nat) {b : Code} {lt : LT} (hl0 : LtOk P b lt) {z : Nz} (N : Nat) (st : St) (ρ : CEnv) (a : Act) (w : World) (k : Ex → St → Option R) (Q : Exit → Act → World → Prop) (h : Sim P B O w0 ρ st a w)
  (hk : vloop (vcode E call draw fuel b lt) z N st k = some r) (hn : ∀ e ρ' st' a' w', k e st' = some r → Sim P B O w0 ρ' st' a' w' → Q e.to a' w') : (Code.loop b).wp P Q a w := by
 refine wp_loop_fuel (fun n a w => ∃ ρ st', Sim P B O w0 ρ st' a w ∧ vloop (vcode E call draw fuel b lt) z n st' k = some r) (fun n a w hI => ?_) N a w ⟨ρ, st, h, hk⟩
 obtain ⟨ρ1, st1, h1, hk1⟩ := hI
 cases n with
 | zero => simp only [vloop] at hk1; cases hk1
 | succ n =>
  simp only [vloop] at hk1
  refine vcode_sound hE hC hD fuel b lt _ ρ1 a w _ _ hl0 h1 hk1 fun e ρ' st' a' w' hk' h' => ?_
  simp only [bifs] at hk'
  split at hk'
  ·rename_i hl'
   simp only [beq_iff_eq] at hl'
   obtain ⟨ρm, hm⟩ := h'.nz hl'.symm
   cases e with
   | normal => exact ⟨n, Nat.lt_succ_self n, ρm, _, hm, hk'⟩
   | exit i => exact hn (.exit i) ρm _ a' w' hk' hm
   | ret => exact hn .ret ρm _ a' w' hk' hm
  ·cases hk'
end
end Go.Proofs.Ytakmjjikiefheaa.Lib
namespace Go.Proofs.Ytakmjjikiefheaa.Lib
open Go Go.RowKit
set_option linter.unusedVariables false
set_option linter.unusedSimpArgs false
def resF (tmps : Array Value) : ResultVar → Sem Value
 | .tmp t => pure (tmps.getD t undef)
 | .cell p t => do loadVar t (← asAddr (tmps.getD p undef))
def pack : List Value → Value
 | [u] => u | us => .tuple us.toArray
section
variable {P : Program} {E : Env} {B : Nat} {O : Ow} {w0 w w' : World} {ρ ρ' : CEnv} {a : Act} {R : Type} {r : R} {sg sg' : Sig} {st : St} {call : CallFn}
theorem vleave_sound (h : Mem B O ρ sg w) {vs : List AV} {us : List Value} {res : AV} {out : Sig} (hr : All2 (rav ρ w) vs us) (hl : vleave sg vs = some (res, out)) :
  ∃ ρ', rav ρ' w res (pack us) ∧ Mem B O ρ' out w ∧ (∀ d, res.uses d = true → (out.get d).isSome = true) := by
 unfold vleave at hl
 split at hl
 ·rename_i v
  obtain ⟨u, rfl, hr1⟩ := hr.single
  split at hl
  ·rename_i g cs hp
   split at hl
   ·rename_i cs1 out1 js hc
    simp only [bifs] at hl
    split at hl
    ·rename_i hj
     split at hl
     ·rename_i v1 hv
      simp only [Option.some.injEq, Prod.mk.injEq] at hl
      obtain ⟨rfl, rfl⟩ := hl
      obtain ⟨vs0, a1, a2⟩ := rp_cells (pairOf_sound hr1 hp)
      obtain ⟨b1, b2, b3⟩ := leaveCells_sound h a1 hc
      obtain ⟨L, c1, c2⟩ := leave_mem h b2 hj
      have hrp := a2 _ _ (b1 L c1)
      rcases ofElem_spec hv with ⟨rfl, rfl⟩ | ⟨rfl, c, rfl, rfl⟩
      ·exact ⟨_, hrp, c2, b3⟩
      ·obtain ⟨c', hc', hrp⟩ := hrp
       cases hc'
       exact ⟨_, hrp, c2, fun d hd => b3 d (by simpa [AV.uses] using hd)⟩
     ·cases hl
    ·cases hl
   ·cases hl
  ·cases hl
 ·rename_i hne
  split at hl
  ·rename_i ps out1 js ht
   simp only [bifs] at hl
   split at hl
   ·rename_i hj
    simp only [Option.some.injEq, Prod.mk.injEq] at hl
    obtain ⟨rfl, rfl⟩ := hl
    obtain ⟨b1, b2, b3⟩ := leaveTup_sound h hr ht
    obtain ⟨L, c1, c2⟩ := leave_mem h b2 hj
    refine ⟨⟨L, ρ.ok⟩, ?_, c2, b3⟩
    have hus : pack us = .tuple us.toArray := by
     unfold pack
     split
     ·rename_i u
      obtain ⟨v, rest, rfl⟩ : ∃ v rest, vs = v :: rest := by cases hr; exact ⟨_, _, rfl⟩
      cases hr with
      | cons _ h2 => cases h2; exact absurd rfl (hne _)
     ·rfl
    rw [hus]
    exact ⟨us, rfl, b1 L c1⟩
   ·cases hl
  ·cases hl
theorem results_sound (hE : Env.Ok P E) (h : Sim P B O w0 ρ st a w) : ∀ {rs : List ResultVar} {vs : List AV}, resAll E st rs = some vs →
  ∃ us : List Value, All2 (rav ρ w) vs us ∧ (rs.mapM (resF a.tmps)).run P w = .ok us w ∧ ∀ v ∈ vs, ∀ d, v.uses d = true → (st.sg.get d).isSome = true
 | [], vs, hr => by
  simp only [resAll, Option.some.injEq] at hr
  subst hr
  exact ⟨[], .nil, rfl, fun v hv => by cases hv⟩
 | x :: rs, vs, hr => by
  simp only [resAll] at hr
  split at hr
  ·rename_i v vs1 hv hvs
   simp only [Option.some.injEq] at hr
   subst hr
   obtain ⟨us, h1, h2, h2u⟩ := results_sound hE h hvs
   have one : ∃ u : Value, rav ρ w v u ∧ (resF a.tmps x).run P w = .ok u w ∧ ∀ d, v.uses d = true → (st.sg.get d).isSome = true := by
    unfold resOf at hv
    split at hv
    ·rename_i t
     simp only [Option.some.injEq] at hv
     subst hv
     exact ⟨a.eval (.tmp t), (h.eval (.tmp t)).1, rfl, (h.eval (.tmp t)).2⟩
    ·rename_i p t
     split at hv
     ·rename_i j i c ti hp ht
      simp only [bifs] at hv
      split at hv
      ·rename_i hz
       have hx := (h.eval (.tmp p)).1
       simp only [evalO] at hx
       rw [hp] at hx
       have hn : 0 < ti.sz := by simpa [Nat.pos_iff_ne_zero] using hz
       obtain ⟨cs, ad, us0, hk, hu, hl, hr, hc, hd⟩ := loadCells_sound (kk := fun cs => Cell.ofElem ti.agg cs) h.mem hv hx hn
       have hu : a.tmps.getD p undef = .pointer (some ad) := hu
       rcases ofElem_spec hk with ⟨hg, rfl⟩ | ⟨hg, c, rfl, rfl⟩
       ·refine ⟨.agg us0.toArray, ⟨us0, rfl, hr⟩, ?_, fun d hd' => hd d hd'⟩
        have := load_run (hE.ti _ _ ht) hl hc (v := .agg us0.toArray) (.inl ⟨hg, rfl⟩)
        show (do loadVar t (← asAddr (a.tmps.getD p undef)) : Sem Value).run P w = _
        rw [hu]
        simp only [asAddr, Sem.run_bind, Sem.run_pure, Result.andThen_ok, this]
       ·obtain ⟨u, rfl, hr1⟩ := hr.single
        refine ⟨u, hr1, ?_, fun d hd' => hd d (by simpa [AV.uses] using hd')⟩
        have := load_run (hE.ti _ _ ht) hl hc (v := u) (.inr ⟨hg, rfl⟩)
        show (do loadVar t (← asAddr (a.tmps.getD p undef)) : Sem Value).run P w = _
        rw [hu]
        simp only [asAddr, Sem.run_bind, Sem.run_pure, Result.andThen_ok, this]
      ·cases hv
     ·cases hv
   obtain ⟨u, h3, h4, h4u⟩ := one
   refine ⟨u :: us, .cons h3 h1, ?_, fun x hx => ?_⟩
   ·rw [List.mapM_cons, Sem.run_bind, h4, Result.andThen_ok, Sem.run_bind, h2]
    rfl
   ·rcases List.mem_cons.1 hx with rfl | hx
    ·exact h4u
    ·exact h2u x hx
  ·cases hr
theorem results_run {fn : Func} {tmps : Array Value} {us : List Value} {w : World} (h : (fn.results.toList.mapM (resF tmps)).run P w = .ok us w) :
  (results fn tmps).run P w = .ok (pack us) w := by
 show (do let vs ← fn.results.mapM (resF tmps); pure (if h : vs.size = 1 then vs[0] else .tuple vs) : Sem Value).run P w = _
 rw [Sem.run_bind, Array.mapM_eq_mapM_toList, Sem.run_map, h]
 simp only [Result.andThen_ok, Sem.run_pure]
 congr 1
 match us with
 | [] => rfl
 | [u] => rfl
 | u :: v :: us =>
  rw [dif_neg (by simp)]
  rfl
theorem vbody_sound (hE : Env.Ok P E) (hC : CallOk P call) {draw : Env → CallFn → List Oper → St → Bool} (hD : DrawOk P E call draw) {fuel : Nat} {f : FuncId} {fn : Func} {c : Code} {lt : LT} {args : List AV} {res : AV} {out : Sig} (hf : P.funcs[f]? = some fn) (hb : fn.body = some c) (hlt : LtOk P c lt)
  (hk : vbody E call draw fuel fn c lt args [] = some (res, out)) {ρ0 : CEnv} {vs : List Value} (hokb : ∀ b g, ρ0.ok b g → g < w.heap.size) (hokm : ∀ g, ρ0.ok false g → ρ0.ok true g) (hgl : GH P ρ0 w) (hr : All2 (rav ρ0 w) args vs) (hu : ∀ v ∈ args, ∀ d, v.uses d = false) :
  Calls P f vs.toArray w fun e w' => ∃ v ρ', e = .returned v ∧ rav ρ' w' res v ∧ Mem w.heap.size ⟨fun _ => False, ρ0.ok, ρ0.loc⟩ ρ' out w' ∧ (∀ d, res.uses d = true → (out.get d).isSome = true) ∧ Below w.heap.size w w' := by
 unfold vbody at hk
 refine calls_of_wp hf hb ?_
 have hlen := hr.length
 have h0 : Sim P w.heap.size ⟨fun _ => False, ρ0.ok, ρ0.loc⟩ w ρ0 ⟨args ++ List.replicate (fn.ntmps - args.length) (.one .und), []⟩ { tmps := vs.toArray ++ Array.replicate (fn.ntmps - vs.toArray.size) undef, defers := [] } w := by
  refine ⟨⟨(fun j b hj => by cases hj), (fun i j g hi => by cases hi), (fun j g hj => by cases hj), hokb, (fun b g hg j hj => by cases hj), hokm, fun b g hg => .inl hg, fun b g hg => hg, (fun j b d hj => by cases hj)⟩, by simp [hlen], fun i v hi => ?_, fun i v d hi hd => ?_, rfl, Keeps.refl _ _ _, Nat.le_refl _, fun _ _ => rfl, fun G hG => ⟨(hgl G hG).1, hokb _ _ (hgl G hG).1, fun h => h, (hgl G hG).2⟩⟩
  ·rcases Nat.lt_or_ge i args.length with hlt | hge
   ·rw [List.getElem?_append_left hlt] at hi
    obtain ⟨u, h1, h2⟩ := hr.get i hi
    exact ⟨u, by rw [Array.getElem?_append_left (by simpa [← hlen] using hlt)]; simpa using h1, h2⟩
   ·rw [List.getElem?_append_right hge, List.getElem?_replicate] at hi
    split at hi
    ·rename_i hlt
     cases hi
     refine ⟨undef, ?_, trivial⟩
     rw [Array.getElem?_append_right (by simpa [← hlen] using hge), Array.getElem?_replicate, if_pos (by simpa [← hlen] using hlt)]
    ·cases hi
  ·rcases Nat.lt_or_ge i args.length with hlt | hge
   ·rw [List.getElem?_append_left hlt] at hi
    rw [hu v (List.mem_of_getElem? hi) d] at hd
    cases hd
   ·rw [List.getElem?_append_right hge, List.getElem?_replicate] at hi
    split at hi
    ·cases hi; cases hd
    ·cases hi
 refine vcode_sound hE hC hD fuel c lt _ ρ0 _ w _ _ hlt h0 hk fun e ρ' st' a' w' hk' h' => ?_
 have fin : (match resAll E (st'.ends fn) fn.results.toList with | some vs => (match ownNils E fn.resultTypes.toList (st'.ends fn).sg vs with | (sg, vs) => vleave sg vs) | none => none) = some (res, out) → a'.defers = [] ∧ ∃ v, (results fn a'.tmps).run P w' = .ok v w' ∧ ∃ v_1 ρ', Ending.returned v = .returned v_1 ∧ rav ρ' w' res v_1 ∧ Mem w.heap.size ⟨fun _ => False, ρ0.ok, ρ0.loc⟩ ρ' out w' ∧ (∀ d, res.uses d = true → (out.get d).isSome = true) ∧ Below w.heap.size w w' := by
  intro hk
  split at hk
  ·rename_i avs hres
   obtain ⟨ρe, he⟩ := h'.ends fn
   obtain ⟨us, h1, h2, hus⟩ := results_sound hE he hres
   generalize hon : ownNils E fn.resultTypes.toList (st'.ends fn).sg avs = on at hk
   obtain ⟨sgn, avn⟩ := on
   obtain ⟨ρn, hMn, h1n, _⟩ := ownNils_sound he.mem h1 hus hon
   obtain ⟨ρ2, h3, h4, h5⟩ := vleave_sound hMn h1n hk
   exact ⟨h'.defers, _, results_run h2, _, ρ2, rfl, h3, h4, h5, ⟨h'.fr.os, h'.fr.tape, h'.fr.output, h'.fr.size, fun k hk => h'.fr.block k hk (fun h => h)⟩⟩
  ·cases hk
 cases e with
 | normal => exact fin hk'
 | ret => exact fin hk'
 | exit i => cases hk'
theorem vcall_sound (hE : Env.Ok P E) {draw : Env → CallFn → List Oper → St → Bool} (hD : ∀ call, CallOk P call → DrawOk P E call draw) : ∀ n, CallOk P (vcall E draw n)
 | 0 => by
  intro f args res out h
  cases h
 | n + 1 => by
  have ih := vcall_sound hE hD n
  intro f args res out h ρ0 w vs h1 h2 hgl h3 h4
  simp only [vcall] at h
  split at h
  ·rename_i fn hfn
   split at h
   ·rename_i c hb
    obtain ⟨hf, hn⟩ := hE.fn f fn hfn
    exact ⟨⟨fn, hf, by rw [hb]; rfl, hn⟩, vbody_sound hE ih (hD _ ih) hf hb (hE.lt f fn c hfn hb) h h1 h2 hgl h3 h4⟩
   ·cases h
  ·cases h
theorem kept_spec : ∀ {sg0 : Sig} {upd : Sig}, kept sg sg0 = some upd → ∀ i b', upd.get i = some b' → (∃ e t l q, sg0.get i = some (.arr e t l q)) ∧ ∃ e t l q, b' = .arr e t l q ∧ t.flat = true ∧ PIN ≤ i ∧ sg.get i = some (.arr e t l q)
 | [], upd, h, i, b', hi => by
  simp only [kept, Option.some.injEq] at h
  subst h
  cases hi
 | (j, b) :: r, upd, h, i, b', hi => by
  simp only [kept] at h
  split at h
  ·rename_i e0 t0 l0 q0 e t l q hg
   simp only [bifs] at h
   split at h
   ·rename_i hc
    simp only [Bool.and_eq_true, Nat.ble_eq] at hc
    split at h
    ·rename_i out hout
     cases h
     simp only [Sig.get, bifs, beq_iff_eq] at hi ⊢
     split at hi
     ·rename_i hji
      subst hji
      cases hi
      exact ⟨⟨_, _, _, _, if_pos rfl⟩, _, _, _, _, rfl, hc.1, hc.2, hg⟩
     ·rename_i hji
      obtain ⟨h1, h2⟩ := kept_spec hout i b' hi
      simp only [if_neg hji]
      exact ⟨h1, h2⟩
    ·cases h
   ·cases h
  ·cases h
theorem vmbody_sound (hE : Env.Ok P E) (hC : CallOk P call) {draw : Env → CallFn → List Oper → St → Bool} (hD : DrawOk P E call draw) {fuel : Nat} {f : FuncId} {fn : Func} {c : Code} {lt : LT} {st0 : St} {res : AV} {upd : Sig} (hf : P.funcs[f]? = some fn) (hb : fn.body = some c) (hlt : LtOk P c lt)
  (hk : vmbody E call draw fuel fn c lt st0 = some (res, upd)) (h : Sim P B O w ρ st0 a w) :
  Calls P f a.tmps w fun e w' => ∃ u, e = .returned u ∧ rav ρ w' res u ∧
   (∀ i b', upd.get i = some b' → (∃ e t l q, st0.sg.get i = some (.arr e t l q)) ∧ (∃ e t l q, b' = .arr e t l q) ∧ rblk ρ w' i b') ∧
   w'.os = w.os ∧ w'.tape = w.tape ∧ w'.output = w.output ∧ w.heap.size ≤ w'.heap.size ∧ ∀ g, g < w.heap.size → (∀ j, ¬ Owns ρ st0.sg j g) → w'.heap[g]? = w.heap[g]? := by
 unfold vmbody at hk
 refine calls_of_wp hf hb ?_
 have h0 : Sim P w.heap.size ⟨fun g => ∃ j, Owns ρ st0.sg j g, ρ.ok, ρ.loc⟩ w ρ ⟨st0.sl ++ List.replicate (fn.ntmps - st0.sl.length) (.one .und), st0.sg⟩ { tmps := a.tmps ++ Array.replicate (fn.ntmps - a.tmps.size) undef, defers := [] } w := by
  refine ⟨⟨h.mem.blk, h.mem.inj, fun j g hj => .inr ⟨j, hj⟩, h.mem.okb, h.mem.oko, h.mem.okm, fun b g hg => .inl hg, fun b g hg => hg, h.mem.dom⟩, by simp [h.len], fun i v hi => ?_, fun i v d hi hd => ?_, rfl, Keeps.refl _ _ _, Nat.le_refl _, fun _ _ => rfl, h.gown⟩
  ·rcases Nat.lt_or_ge i st0.sl.length with hlt | hge
   ·rw [List.getElem?_append_left hlt] at hi
    obtain ⟨u, h1, h2⟩ := h.sl i v hi
    exact ⟨u, by rw [Array.getElem?_append_left (by rw [h.len]; exact hlt)]; exact h1, h2⟩
   ·rw [List.getElem?_append_right hge, List.getElem?_replicate] at hi
    split at hi
    ·rename_i hlt
     cases hi
     refine ⟨undef, ?_, trivial⟩
     rw [Array.getElem?_append_right (by rw [h.len]; exact hge), Array.getElem?_replicate, if_pos (by rw [h.len]; exact hlt)]
    ·cases hi
  ·rcases Nat.lt_or_ge i st0.sl.length with hlt | hge
   ·rw [List.getElem?_append_left hlt] at hi
    exact h.dom i v d hi hd
   ·rw [List.getElem?_append_right hge, List.getElem?_replicate] at hi
    split at hi
    ·cases hi; cases hd
    ·cases hi
 refine vcode_sound hE hC hD fuel c lt _ ρ _ w _ _ hlt h0 hk fun e ρ' st' a' w' hk' h' => ?_
 have fin : (match resAll E st' fn.results.toList with
   | some vs => (match vs with
    | [v] => bif v.plain then (match kept st'.sg st0.sg with | some out => some (v, out) | none => none) else none
    | _ => none)
   | none => none) = some (res, upd) → a'.defers = [] ∧ ∃ v, (results fn a'.tmps).run P w' = .ok v w' ∧ ∃ u, Ending.returned v = .returned u ∧ rav ρ w' res u ∧
   (∀ i b', upd.get i = some b' → (∃ e t l q, st0.sg.get i = some (.arr e t l q)) ∧ (∃ e t l q, b' = .arr e t l q) ∧ rblk ρ w' i b') ∧
   w'.os = w.os ∧ w'.tape = w.tape ∧ w'.output = w.output ∧ w.heap.size ≤ w'.heap.size ∧ ∀ g, g < w.heap.size → (∀ j, ¬ Owns ρ st0.sg j g) → w'.heap[g]? = w.heap[g]? := by
  intro hk
  split at hk
  ·rename_i avs hres
   obtain ⟨us, h1, h2, _⟩ := results_sound hE h' hres
   split at hk
   ·rename_i v
    simp only [bifs] at hk
    split at hk
    ·rename_i hpl
     split at hk
     ·rename_i out hkept
      simp only [Option.some.injEq, Prod.mk.injEq] at hk
      obtain ⟨rfl, rfl⟩ := hk
      obtain ⟨u, rfl, hr⟩ := h1.single
      refine ⟨h'.defers, _, results_run h2, u, rfl, plain_rav hpl hr, fun i b' hi => ?_, h'.fr.os, h'.fr.tape, h'.fr.output, h'.fr.size, fun g hg hn => h'.fr.block g hg (fun ⟨j, hj⟩ => hn j hj)⟩
      obtain ⟨h3, e, t, l, q, rfl, h4, h5, h6⟩ := kept_spec hkept i b' hi
      refine ⟨h3, ⟨_, _, _, _, rfl⟩, ?_⟩
      obtain ⟨va, gg, xs, d1, d2, d3⟩ := h'.mem.blk i _ h6
      exact ⟨va, gg, xs, (h'.pin i h5).symm.trans d1, ⟨d2.1, fun j p hp => flat_Rp h4 (d2.2 j p hp)⟩, d3⟩
     ·cases hk
    ·cases hk
   ·cases hk
  ·cases hk
 cases e with
 | normal => exact fin hk'
 | ret => exact fin hk'
 | exit i => cases hk'
theorem markOk_of (hE : Env.Ok P E) {draw : Env → CallFn → List Oper → St → Bool} (hD : ∀ call, CallOk P call → DrawOk P E call draw) {f : FuncId} {m : Mrk} (hwf : wfSt m.ss m.gs) (hfn : ∃ fn c, E.fn.lookup f = some fn ∧ fn.body = some c)
  (h : ∀ v res upd, (m.F v).run some = some (res, upd) → ∃ n, vmcall E draw n f (bldSt m.ss m.gs v) = some (res, upd)) : MarkOk P f m := by
 obtain ⟨fn, c, hl, hb⟩ := hfn
 obtain ⟨hf, hn⟩ := hE.fn f fn hl
 refine ⟨hwf, ⟨fn, hf, by rw [hb]; rfl, hn⟩, fun v res upd hv B O ρ a w hS => ?_⟩
 obtain ⟨n, hv⟩ := h v res upd hv
 have hC := vcall_sound hE hD n
 unfold vmcall at hv
 rw [show E.find f = some fn from hl] at hv
 simp only [hb] at hv
 exact vmbody_sound hE hC (hD _ hC) hf hb (hE.lt f fn c hl hb) hv hS
theorem loopOk_of (hE : Env.Ok P E) {draw : Env → CallFn → List Oper → St → Bool} (hD : ∀ call, CallOk P call → DrawOk P E call draw) {b : Code} {lt : LT} (hlt : LtOk P b lt) {ss : List SP} {gs : List (Nat × GP)} {F : StT ss gs → Ways (Ex × St)} (n fuel : Nat) (z : Nz)
  (h : ∀ v e st', (F v).run some = some (e, st') → ∃ N : Nat, vloop (vcode E (vcall E draw n) draw fuel b lt) z N (bldSt ss gs v) (fun e st => some (e, st)) = some (e, st')) : LoopOk P b ss gs F := by
 intro B O w0 w ρ a v e st' Q hF hS hn
 obtain ⟨N, hv⟩ := h v e st' hF
 have hC := vcall_sound hE hD n
 refine vloop_sound (R := Ex × St) (r := (e, st')) hE hC (hD _ hC) fuel hlt N (bldSt ss gs v) ρ a w (fun e st => some (e, st)) Q hS hv fun e1 ρ1 st1 a1 w1 hk h1 => ?_
 cases hk
 exact hn ρ1 a1 w1 h1
theorem primOk_of (hE : Env.Ok P E) {draw : Env → CallFn → List Oper → St → Bool} (hD : ∀ call, CallOk P call → DrawOk P E call draw) {f : FuncId} {p : Prim}
  (h : ∀ v res out, (p.F v).run some = some (res, out) → ∃ n, vcall E draw n f (SPs.bld (R := Unit) p.ss v).1 [] = some (res, out)) : PrimOk P f p := by
 intro v res out hF
 obtain ⟨n, hn⟩ := h v res out hF
 exact vcall_sound hE hD n f _ res out hn
end
end Go.Proofs.Ytakmjjikiefheaa.Lib
namespace Go.Proofs.Ytakmjjikiefheaa.Lib
open Go Go.RowKit
set_option linter.unusedVariables false
set_option linter.unusedSimpArgs false
def hcall (E : Env) (call : CallFn) (sg : Sig) (dst : Option Nat) (f : AV) (args : List AV) : Option (AV × Sig) :=
 match f with
 | .one (.fn g caps) => (match lendAll E sg args with
  | some (args, own) => (callP E call g (args ++ caps.map fun c => .one (.eptr c.1 c.2 0 true))).bind fun r =>
   bif !own || (r.1.nobor && r.2.all (·.2.nobor)) then (match dst with
    | some d => bif r.2.all (fun q => sg.free (q.1 + d)) then some (r.1.shift d, r.2.shift d) else none
    | none => some (.one .und, [])) else none
  | none => none)
 | _ => none
def hbuild (E : Env) (sg : Sig) (dst : Option Nat) (t : TypeId) (n : Nat) (ps : List (Nat × AV)) : Option (AV × Sig) :=
 match dst, E.ti.lookup t with
 | some d, some { td := .slice e, .. } => (match E.ti.lookup e with
  | some { ty := some τ, .. } => bif τ.flat && sg.free d && (n == ps.length) && Nat.ble (n * τ.sz) 16777216 then
    (match readElems false τ ps 0 with
    | some l => some (.one (.sl d), [(d, .arr e τ l false)])
    | none => none) else none
  | _ => none)
 | _, _ => none
def hop (E : Env) (call : CallFn) (sg : Sig) (ρ : Operand → AV) (o : Oper) : Option (AV × Sig) :=
 match o.op with
 | .store _ _ _ => none
 | .call c => (match c.callee, c.args.toList, c.argTypes.toList with
  | .builtin .append, [_, _], [_, _] => none
  | .builtin .clear, [_], [_] => none
  | .value f, args, _ => hcall E call sg o.dst (ρ f) (args.map ρ)
  | _, _, _ => qop E sg ρ o.dst o.op fun v add => some (v, add))
 | .buildSlice t n ps => hbuild E sg o.dst t n (ps.toList.map fun p => (p.1, ρ p.2))
 | _ => qop E sg ρ o.dst o.op fun v add => some (v, add)
def tst (all : List Oper) (o : Oper) : List Operand :=
 match o.guard with
 | none => []
 | some (j, _) => (match (all[j]?).bind (·.dst) with | some t => [.tmp t] | none => [])
def opn (all : List Oper) (o : Oper) : List Operand := tst all o ++ o.op.operands.toList
def isSt (o : Oper) : Bool := match o.op with | .store _ _ _ => true | _ => false
def hst (E : Env) (sg : Sig) (t : TypeId) (p v : AV) : Option (AV × Sig) :=
 match p, v.cells?, E.ti.lookup t with
 | .one (.ptr j i c), some cs, some ti => bif cs.length == ti.sz then (match sg.get j with
  | some (.box ty old) => (match i with
   | 0 => bif Nat.ble (c + ti.sz) old.length then some (.one .und, [(j, .box ty (old.take c ++ cs ++ old.drop (c + ti.sz)))]) else none
   | _ => none)
  | _ => none) else none
 | _, _, _ => none
def sop (E : Env) (call : CallFn) (sg : Sig) (ρ : Operand → AV) (o : Oper) : Option (AV × Sig) :=
 match o.op with
 | .store t a v => hst E sg t (ρ a) (ρ v)
 | _ => hop E call sg ρ o
def joinS : Bool → Sig → Sig → Sig
 | true, new, sg => (match new with | [(j, b)] => sg.put j b | _ => sg)
 | false, new, sg => new ++ sg
def aft (o : Oper) (p : AV × Sig) (s : St) : St := St.put o.dst p.1 ⟨s.sl, joinS (isSt o) p.2 s.sg⟩
def gop (E : Env) (call : CallFn) (all : List Oper) (sg : Sig) (ρ : Operand → AV) (o : Oper) : Option (AV × Sig) :=
 match o.guard with
 | none => sop E call sg ρ o
 | some (j, want) => (match (all[j]?).bind (·.dst) with
  | some t => (match ρ (.tmp t) with
   | .one (.bool v) => bif v == want then hop E call sg ρ o else some (.tup [], [])
   | .tup [] => some (.tup [], [])
   | _ => none)
  | none => none)
def noGen (E : Env) (f : Operand) : Bool :=
 match E.gen with
 | [] => true
 | q :: l => (match f with | .func g => (q :: l).all fun p => !(p.1 == g) | _ => false)
theorem genTry_none {sg : Sig} {args : List AV} {g : FuncId} : ∀ {l : List (FuncId × Gen)}, (l.all fun p => !(p.1 == g)) = true → genTry sg args g l = none
 | [], _ => rfl
 | (f, m) :: l, h => by
  simp only [List.all_cons, Bool.and_eq_true, Bool.not_eq_true'] at h
  simp only [genTry, h.1, cond_false]
  exact genTry_none h.2
theorem noGen_spec {E : Env} {f : Operand} (h : noGen E f = true) {R : Type} (st : St) (dst : Option Nat) (args : List AV) (k : St → Option R) (other : Option R) :
  (match E.gen with | [] => other | _ :: _ => vgenOp E st dst (evalO st.sl f) args k other) = other := by
 unfold noGen at h
 cases hg : E.gen with
 | nil => rfl
 | cons q l =>
  rw [hg] at h
  simp only at h
  split at h
  ·rename_i g
   simp only [vgenOp, evalO, hg, genTry_none h]
  ·cases h
def headOk (E : Env) (o : Oper) : Bool :=
 true && (match o.op with
 | .store _ a _ => o.guard.isNone && (match a with | .tmp _ => true | _ => false)
 | .call c => (match c.callee, c.args.toList, c.argTypes.toList with
  | .builtin .append, [_, _], [_, _] => false
  | .builtin .clear, [_], [_] => false
  | .value f, _, _ => o.dst.isSome && ((markOf E f).isNone && noGen E f)
  | _, _, _ => true)
 | .buildSlice t _ _ => (match E.ti.lookup t with
  | some { td := .slice e, .. } => (match E.ti.lookup e with
   | some { ty := some τ, .. } => τ.flat
   | _ => false)
  | _ => false)
 | _ => true)
section par
variable {R : Type} {r : R}
theorem intBin_par {op : BinOp} {k : IntKind} {x y : Int} {kk : Cell → Option R} (h : intBin op k x y kk = some r) : ∃ c, (∀ {S : Type} (f : Cell → Option S), intBin op k x y f = f c) ∧ kk c = some r := by
 cases op <;> simp only [intBin] at h ⊢
 case quo =>
  split at h
  ·cases h
  ·rename_i h0; exact ⟨_, fun f => by rw [if_neg h0], h⟩
 case rem =>
  split at h
  ·cases h
  ·rename_i h0; exact ⟨_, fun f => by rw [if_neg h0], h⟩
 case shl =>
  split at h
  ·cases h
  ·rename_i h0; exact ⟨_, fun f => by rw [if_neg h0], h⟩
 case shr =>
  split at h
  ·cases h
  ·rename_i h0; exact ⟨_, fun f => by rw [if_neg h0], h⟩
 all_goals first | cases h | exact ⟨_, fun f => rfl, h⟩
theorem strBin_par {op : BinOp} {x y : ByteArray} {kk : Cell → Option R} (h : strBin op x y kk = some r) : ∃ c, (∀ {S : Type} (f : Cell → Option S), strBin op x y f = f c) ∧ kk c = some r := by
 cases op <;> simp only [strBin] at h ⊢
 case add =>
  split at h
  ·rename_i h0; exact ⟨_, fun f => by rw [if_pos h0], h⟩
  ·cases h
 all_goals first | cases h | exact ⟨_, fun f => rfl, h⟩
theorem binCells_par {op : BinOp} {x y : Cell} {kk : Cell → Option R} (h : binCells op x y kk = some r) : ∃ c, (∀ {S : Type} (f : Cell → Option S), binCells op x y f = f c) ∧ kk c = some r := by
 unfold binCells at h
 split at h
 ·split at h
  ·obtain ⟨c, h1, h2⟩ := intBin_par h; exact ⟨c, fun f => h1 f, h2⟩
  ·obtain ⟨c, h1, h2⟩ := intBin_par h; exact ⟨c, fun f => h1 f, h2⟩
  ·rename_i n1 n2
   split at h
   ·rename_i hk
    obtain ⟨c, h1, h2⟩ := intBin_par h
    refine ⟨c, fun f => ?_, h2⟩
    rw [← h1 f]
    unfold binCells
    cases op <;> first | (exact absurd rfl n1; done) | (exact absurd rfl n2; done) | (simp only [if_pos hk]; done) | rfl
   ·cases h
 ·obtain ⟨c, h1, h2⟩ := strBin_par h; exact ⟨c, fun f => h1 f, h2⟩
 ·cases h
theorem unCell_par {op : UnOp} {x : Cell} {kk : Cell → Option R} (h : unCell op x kk = some r) : ∃ c, (∀ {S : Type} (f : Cell → Option S), unCell op x f = f c) ∧ kk c = some r := by
 unfold unCell at h
 split at h
 ·exact ⟨_, fun f => rfl, h⟩
 ·exact ⟨_, fun f => rfl, h⟩
 ·cases h
def Agree (sg sg' : Sig) (U : Nat → Bool) : Prop := ∀ j b, U j = true → sg.get j = some b → sg'.get j = some b
theorem lenCell_par {sg : Sig} {x : Cell} {kk : Int → Option R} (h : lenCell sg x kk = some r) : ∃ n, (∀ {S : Type} (f : Int → Option S) (sg' : Sig), Agree sg sg' (fun j => x.uses j) → lenCell sg' x f = f n) ∧ kk n = some r := by
 unfold lenCell at h
 split at h
 ·exact ⟨_, fun f _ _ => rfl, h⟩
 ·exact ⟨_, fun f _ _ => rfl, h⟩
 ·exact ⟨_, fun f _ _ => rfl, h⟩
 ·exact ⟨_, fun f _ _ => rfl, h⟩
 ·rename_i j
  split at h
  ·rename_i e t l b hj
   exact ⟨_, fun f sg' ha => by simp only [lenCell, ha j _ (by simp [Cell.uses]) hj], h⟩
  ·rename_i e t l b hj
   exact ⟨_, fun f sg' ha => by simp only [lenCell, ha j _ (by simp [Cell.uses]) hj], h⟩
  ·cases h
 ·cases h
theorem atCell_par {sg : Sig} {n : Nat} {x : Cell} {i : Int} {kk : Cell → Option R} (h : atCell sg n x i kk = some r) : ∃ c, (∀ {S : Type} (f : Cell → Option S) (sg' : Sig), Agree sg sg' (fun j => x.uses j) → atCell sg' n x i f = f c) ∧ kk c = some r := by
 unfold atCell at h
 split at h
 ·simp only [bifs] at h
  split at h
  ·rename_i h0
   split at h
   ·rename_i h1
    split at h
    ·rename_i y hy
     exact ⟨_, fun f _ _ => by simp only [atCell, h0, cond_true, if_pos h1, hy], h⟩
    ·cases h
   ·cases h
  ·cases h
 ·rename_i j
  split at h
  ·rename_i e t l b hj
   simp only [bifs] at h
   split at h
   ·rename_i h0
    split at h
    ·rename_i h1
     split at h
     ·rename_i h2
      exact ⟨_, fun f sg' ha => by simp only [atCell, ha j _ (by simp [Cell.uses]) hj, h0, cond_true, if_pos h1, if_pos h2], h⟩
     ·cases h
    ·cases h
   ·cases h
  ·rename_i e t l b hj
   simp only [bifs] at h
   split at h
   ·rename_i h0
    split at h
    ·rename_i h1
     split at h
     ·rename_i y hy
      exact ⟨_, fun f sg' ha => by simp only [atCell, ha j _ (by simp [Cell.uses]) hj, h0, cond_true, if_pos h1, hy], h⟩
     ·cases h
    ·cases h
   ·cases h
  ·cases h
 ·cases h
theorem sliceCell_par {sg : Sig} {n : Nat} {x : Cell} {lo hi : Option Int} {kk : Cell → Option R} (h : sliceCell sg n x lo hi kk = some r) : ∃ c, (∀ {S : Type} (f : Cell → Option S) (sg' : Sig), Agree sg sg' (fun j => x.uses j) → sliceCell sg' n x lo hi f = f c) ∧ kk c = some r := by
 unfold sliceCell at h
 split at h
 ·obtain ⟨p, q, _, _, h3, h4, _⟩ := span_spec h
  exact ⟨_, fun f _ _ => by simp only [sliceCell]; exact h4 _, h3⟩
 ·obtain ⟨p, q, _, _, h3, h4, _⟩ := span_spec h
  exact ⟨_, fun f _ _ => by simp only [sliceCell]; exact h4 _, h3⟩
 ·rw [bifs] at h
  split at h
  ·rename_i h0
   obtain ⟨p, q, _, _, h3, h4, _⟩ := span_spec h
   exact ⟨_, fun f _ _ => by simp only [sliceCell, h0, cond_true]; exact h4 _, h3⟩
  ·cases h
 ·rename_i j
  split at h
  ·rename_i hj
   rw [bifs] at h
   split at h
   ·rename_i h0
    obtain ⟨p, q, _, _, h3, h4, _⟩ := span_spec h
    exact ⟨_, fun f sg' ha => by simp only [sliceCell, ha j _ (by simp [Cell.uses]) hj, h0, cond_true]; exact h4 _, h3⟩
   ·cases h
  ·rename_i hj
   rw [bifs] at h
   split at h
   ·rename_i h0
    obtain ⟨p, q, _, _, h3, h4, _⟩ := span_spec h
    exact ⟨_, fun f sg' ha => by simp only [sliceCell, ha j _ (by simp [Cell.uses]) hj, h0, cond_true]; exact h4 _, h3⟩
   ·cases h
  ·cases h
 ·cases h
theorem optInt_par {ρ ρ' : Operand → AV} {x : Option Operand} (h : ∀ y, x = some y → ρ' y = ρ y) : optInt ρ' x = optInt ρ x := by
 cases x with
 | none => rfl
 | some y => simp only [optInt, h y rfl]
theorem loadCells_par {sg : Sig} {n : Nat} {p : Cell} {kk : List Cell → Option R} (h : loadCells sg n p kk = some r) : ∃ cs, (∀ {S : Type} (f : List Cell → Option S) (sg' : Sig), Agree sg sg' (fun j => p.uses j) → loadCells sg' n p f = f cs) ∧ kk cs = some r := by
 unfold loadCells at h
 split at h
 ·split at h
  ·rename_i cs hw
   exact ⟨_, fun f _ _ => by simp only [loadCells, hw], h⟩
  ·cases h
 ·rename_i j i c
  split at h
  ·rename_i ty cs hj
   split at h
   ·split at h
    ·rename_i cs hw
     exact ⟨_, fun f sg' ha => by simp only [loadCells, ha j _ (by simp [Cell.uses]) hj, hw], h⟩
    ·cases h
   ·cases h
  ·rename_i e t l b hj
   split at h
   ·rename_i x hx
    split at h
    ·rename_i cs hw
     exact ⟨_, fun f sg' ha => by simp only [loadCells, ha j _ (by simp [Cell.uses]) hj, hx, hw], h⟩
    ·cases h
   ·cases h
  ·cases h
 ·cases h
end par
end Go.Proofs.Ytakmjjikiefheaa.Lib
namespace Go.Proofs.Ytakmjjikiefheaa.Lib
open Go Go.RowKit
set_option linter.unusedVariables false
set_option linter.unusedSimpArgs false
section par
variable {R : Type} {r : R}
def QPar (E : Env) (sg : Sig) (ρ : Operand → AV) (dst : Option Nat) (op : Op) (p : AV × Sig) : Prop :=
 (∀ {S : Type} (f : AV → Sig → Option S) (sg' : Sig) (ρ' : Operand → AV), (∀ x ∈ op.operands.toList, ρ' x = ρ x) → (∀ x ∈ op.operands.toList, Agree sg sg' (fun j => (ρ x).uses j)) → (∀ q ∈ p.2, sg'.get q.1 = none) → qop E sg' ρ' dst op f = f p.1 p.2) ∧ ∀ q ∈ p.2, sg.get q.1 = none
theorem capIds_agree {sg sg' : Sig} {ρ ρ' : Operand → AV} : ∀ {xs : List Operand} {js : List Nat}, capIds sg ρ xs = some js → (∀ x ∈ xs, ρ' x = ρ x) → (∀ x ∈ xs, Agree sg sg' (fun j => (ρ x).uses j)) → capIds sg' ρ' xs = some js
 | [], js, h, _, _ => h
 | x :: xs, js, h, h1, ha => by
  simp only [capIds] at h ⊢
  rw [h1 x List.mem_cons_self]
  have ha0 := ha x List.mem_cons_self
  split at h
  ·rename_i j hx
   rw [hx] at ha0
   split at h
   ·rename_i ty cs hj
    split at h
    ·rename_i l hl
     simp only [ha0 j _ (by simp [AV.uses, Cell.uses]) hj, capIds_agree hl (fun x hx => h1 x (List.mem_cons_of_mem _ hx)) (fun x hx => ha x (List.mem_cons_of_mem _ hx))]
     exact h
    ·cases h
   ·cases h
  ·cases h
theorem qop_par {E : Env} {sg : Sig} {ρ : Operand → AV} {dst : Option Nat} {op : Op} {k : AV → Sig → Option R} (h : qop E sg ρ dst op k = some r) : ∃ p, QPar E sg ρ dst op p ∧ k p.1 p.2 = some r := by
 cases op <;> simp only [qop] at h <;> try (cases h; done)
 case move x => exact ⟨(ρ x, []), ⟨fun f sg' ρ' h1 _ _ => by simp only [qop]; rw [h1 x (by simp [Op.operands])], fun q hq => by cases hq⟩, h⟩
 case assign x => exact ⟨(ρ x, []), ⟨fun f sg' ρ' h1 _ _ => by simp only [qop]; rw [h1 x (by simp [Op.operands])], fun q hq => by cases hq⟩, h⟩
 case pick c x y =>
  split at h
  ·rename_i p q hp hq
   split at h
   ·rename_i v hv
    exact ⟨(.one (.bool (bif v then p else q)), []), ⟨fun f sg' ρ' h1 _ _ => by
     simp only [qop]
     rw [h1 x (by simp [Op.operands]), h1 y (by simp [Op.operands]), h1 c (by simp [Op.operands]), hp, hq]
     simp only [hv], fun q hq => by cases hq⟩, h⟩
   ·cases h
  ·rename_i n1
   split at h
   ·rename_i hv
    exact ⟨(ρ x, []), ⟨fun f sg' ρ' h1 _ _ => by
     simp only [qop]
     rw [h1 x (by simp [Op.operands]), h1 y (by simp [Op.operands]), h1 c (by simp [Op.operands])]
     simp only [hv], fun q hq => by cases hq⟩, h⟩
   ·rename_i hv
    exact ⟨(ρ y, []), ⟨fun f sg' ρ' h1 _ _ => by
     simp only [qop]
     rw [h1 x (by simp [Op.operands]), h1 y (by simp [Op.operands]), h1 c (by simp [Op.operands])]
     simp only [hv], fun q hq => by cases hq⟩, h⟩
   ·cases h
 case alloc t =>
  split at h
  ·rename_i d td sz by_ τ ht
   simp only [bifs] at h
   split at h
   ·rename_i hn
    exact ⟨(_, _), ⟨fun f sg' ρ' h1 _ hf => by
     have := Sig.free_iff.2 ⟨hf _ List.mem_cons_self, (Sig.free_iff.1 hn).2⟩
     simp only [qop, ht, this, cond_true], fun q hq => by rw [List.mem_singleton.1 hq]; exact (Sig.free_iff.1 hn).1⟩, h⟩
   ·cases h
  ·cases h
 case box t x =>
  split at h
  ·rename_i d i cs ht hc
   simp only [bifs] at h
   split at h
   ·rename_i hn
    simp only [Bool.and_eq_true, Sig.free_iff] at hn
    exact ⟨(_, _), ⟨fun f sg' ρ' h1 _ hf => by
     have := Sig.free_iff.2 ⟨hf _ List.mem_cons_self, hn.1.2⟩
     simp only [qop, ht, h1 x (by simp [Op.operands]), hc, this, hn.2, Bool.and_self, cond_true], fun q hq => by rw [List.mem_singleton.1 hq]; exact hn.1.1⟩, h⟩
   ·cases h
  ·cases h
 case load t x =>
  split at h
  ·rename_i p i hp ht
   simp only [bifs] at h
   split at h
   ·rename_i hz
    obtain ⟨cs, h2, h3⟩ := loadCells_par h
    split at h3
    ·rename_i v hv
     exact ⟨(v, []), ⟨fun f sg' ρ' h1 ha _ => by
      have ha := ha x (by simp [Op.operands])
      rw [hp] at ha
      simp only [qop, h1 x (by simp [Op.operands]), hp, ht, hz, cond_true]
      rw [h2 _ sg' ha]
      simp only [hv], fun q hq => by cases hq⟩, h3⟩
    ·cases h3
   ·cases h
  ·cases h
 case nilCheck x =>
  split at h <;> first
   | (rename_i hp; exact ⟨(_, []), ⟨fun f sg' ρ' h1 _ _ => by simp only [qop, h1 x (by simp [Op.operands]), hp], fun q hq => by cases hq⟩, h⟩)
   | cases h
 case binOp op t x y t' =>
  split at h
  ·rename_i p q hp hq
   simp only [bifs] at h
   split at h
   ·rename_i hb
    split at h
    ·exact ⟨(_, []), ⟨fun f sg' ρ' h1 _ _ => by simp only [qop, h1 x (by simp [Op.operands]), h1 y (by simp [Op.operands]), hp, hq, hb, cond_true], fun q hq => by cases hq⟩, h⟩
    ·exact ⟨(_, []), ⟨fun f sg' ρ' h1 _ _ => by simp only [qop, h1 x (by simp [Op.operands]), h1 y (by simp [Op.operands]), hp, hq, hb, cond_true], fun q hq => by cases hq⟩, h⟩
    ·cases h
   ·cases h
  ·rename_i c d n1 hc hd
   obtain ⟨e, h2, h3⟩ := binCells_par h
   refine ⟨(.one e, []), ⟨fun f sg' ρ' h1 _ _ => ?_, fun q hq => by cases hq⟩, h3⟩
   simp only [qop, h1 x (by simp [Op.operands]), h1 y (by simp [Op.operands]), hc, hd]
   exact h2 _
  ·rename_i cs ds hc hd
   simp only [bifs] at h
   split at h
   ·rename_i hq
    split at h
    ·rename_i fs sz by_ ty ht
     split at h
     ·rename_i b hb
      split at h
      ·exact ⟨(_, []), ⟨fun f sg' ρ' h1 _ _ => by simp only [qop, h1 x (by simp [Op.operands]), h1 y (by simp [Op.operands]), hc, hd, hq, cond_true, ht, hb], fun q hq => by cases hq⟩, h⟩
      ·exact ⟨(_, []), ⟨fun f sg' ρ' h1 _ _ => by simp only [qop, h1 x (by simp [Op.operands]), h1 y (by simp [Op.operands]), hc, hd, hq, cond_true, ht, hb], fun q hq => by cases hq⟩, h⟩
      ·cases h
     ·cases h
    ·cases h
   ·cases h
  ·cases h
 case unOp op t x =>
  split at h
  ·rename_i c hc
   obtain ⟨e, h2, h3⟩ := unCell_par h
   refine ⟨(.one e, []), ⟨fun f sg' ρ' h1 _ _ => ?_, fun q hq => by cases hq⟩, h3⟩
   simp only [qop, h1 x (by simp [Op.operands]), hc]
   exact h2 _
  ·cases h
 case makeSlice t x y =>
  split at h
  ·rename_i d e sz by_ ty n m ht hx hy
   split at h
   ·rename_i td sz' by' τ he
    simp only [bifs] at h
    split at h
    ·rename_i hn
     split at h
     ·rename_i h0
      split at h
      ·rename_i h1'
       split at h
       ·rename_i h2'
        simp only [Bool.and_eq_true, Sig.free_iff] at hn
        exact ⟨(_, _), ⟨fun f sg' ρ' h1 _ hf => by
         have := Sig.free_iff.2 ⟨hf _ List.mem_cons_self, hn.1.2⟩
         simp only [qop, ht, h1 x (by simp [Op.operands]), h1 y (by simp [Op.operands]), hx, hy, he, this, hn.2, Bool.and_self, cond_true, if_pos h0, if_pos h1', if_pos h2'], fun q hq => by rw [List.mem_singleton.1 hq]; exact hn.1.1⟩, h⟩
       ·cases h
      ·cases h
     ·cases h
    ·cases h
   ·cases h
  ·cases h
 case fieldAddr t x f =>
  split at h
  ·rename_i p fs sz by_ ty hp ht
   split at h
   ·rename_i ft off hf
    split at h
    ·exact ⟨(_, []), ⟨fun g sg' ρ' h1 _ _ => by simp only [qop, h1 x (by simp [Op.operands]), hp, ht, hf], fun q hq => by cases hq⟩, h⟩
    ·exact ⟨(_, []), ⟨fun g sg' ρ' h1 _ _ => by simp only [qop, h1 x (by simp [Op.operands]), hp, ht, hf], fun q hq => by cases hq⟩, h⟩
    ·cases h
   ·cases h
  ·cases h
 case field t x f =>
  split at h
  ·rename_i cs fs sz by_ ty hp ht
   split at h
   ·rename_i ft off hf
    split at h
    ·rename_i ti hft
     split at h
     ·rename_i cs' hw
      split at h
      ·rename_i v hv
       exact ⟨(v, []), ⟨fun g sg' ρ' h1 _ _ => by simp only [qop, h1 x (by simp [Op.operands]), hp, ht, hf, hft, hw, hv], fun q hq => by cases hq⟩, h⟩
      ·cases h
     ·cases h
    ·cases h
   ·cases h
  ·cases h
 case indexAddr t x i =>
  split at h
  ·rename_i c ik n e sz by_ ty hp hi ht
   split at h
   ·rename_i ie he
    obtain ⟨p, h2, h3⟩ := atCell_par h
    refine ⟨(.one p, []), ⟨fun f sg' ρ' h1 ha _ => ?_, fun q hq => by cases hq⟩, h3⟩
    have ha := ha x (by simp [Op.operands])
    rw [hp] at ha
    simp only [qop, h1 x (by simp [Op.operands]), h1 i (by simp [Op.operands]), hp, hi, ht, he]
    exact h2 _ sg' ha
   ·cases h
  ·cases h
 case index t x i =>
  split at h
  ·rename_i s ik n hp hi
   simp only [bifs] at h
   split at h
   ·rename_i hs
    split at h
    ·rename_i h0
     split at h
     ·rename_i b hb
      exact ⟨(_, []), ⟨fun f sg' ρ' h1 _ _ => by simp only [qop, h1 x (by simp [Op.operands]), h1 i (by simp [Op.operands]), hp, hi, hs, cond_true, if_pos h0, hb], fun q hq => by cases hq⟩, h⟩
     ·cases h
    ·cases h
   ·cases h
  ·cases h
 case slice t x lo hi mx =>
  split at h
  ·have hlo : ∀ {ρ' : Operand → AV}, (∀ y ∈ (Op.slice t x lo hi none).operands.toList, ρ' y = ρ y) → optInt ρ' lo = optInt ρ lo ∧ optInt ρ' hi = optInt ρ hi := fun hh =>
    ⟨optInt_par fun y hy => hh y (by simp [Op.operands, hy]), optInt_par fun y hy => hh y (by simp [Op.operands, hy])⟩
   split at h
   ·rename_i s sz by_ l u hp ht hl hu
    obtain ⟨p, q, _, _, h3, h4, _⟩ := span_spec h
    exact ⟨(.one (.str (s.extract p q)), []), ⟨fun f sg' ρ' h1 _ _ => by
     simp only [qop, h1 x (by simp [Op.operands]), (hlo h1).1, (hlo h1).2, hp, ht, hl, hu]; exact h4 _, fun q hq => by cases hq⟩, h3⟩
   ·rename_i c e sz by_ ty l u hp ht hl hu
    split at h
    ·rename_i ie he
     obtain ⟨p, h2, h3⟩ := sliceCell_par h
     refine ⟨(.one p, []), ⟨fun f sg' ρ' h1 ha _ => ?_, fun q hq => by cases hq⟩, h3⟩
     have ha := ha x (by simp [Op.operands])
     rw [hp] at ha
     simp only [qop, h1 x (by simp [Op.operands]), (hlo h1).1, (hlo h1).2, hp, ht, hl, hu, he]
     exact h2 _ sg' ha
    ·cases h
   ·cases h
  ·cases h
 case convert src dst x =>
  split at h
  ·rename_i q n si sz by_ k' hv hs hd
   exact ⟨(_, []), ⟨fun f' sg' ρ' h1 _ _ => by simp only [qop, h1 x (by simp [Op.operands]), hv, hs, hd], fun q hq => by cases hq⟩, h⟩
  ·rename_i q n si sz by_ hv hs hd
   exact ⟨(_, []), ⟨fun f' sg' ρ' h1 _ _ => by simp only [qop, h1 x (by simp [Op.operands]), hv, hs, hd], fun q hq => by cases hq⟩, h⟩
  ·rename_i c e sz1 by1 ty1 sz2 by2 hn1 hv hs hd
   split at h
   ·rename_i sz3 by3 he
    split at h
    ·rename_i l hl
     refine ⟨(_, []), ⟨fun f' sg' ρ' h1 ha _ => ?_, fun q hq => by cases hq⟩, h⟩
     have ha := ha x (by simp [Op.operands])
     rw [hv] at ha
     have hl' : bytesOf sg' c = some l := by
      unfold bytesOf at hl ⊢
      split at hl
      ·exact hl
      ·exact hl
      ·exact hl
      ·rename_i j
       split at hl
       ·rename_i hj; rw [ha j _ (by simp [AV.uses, Cell.uses]) hj]; exact hl
       ·rename_i hj; rw [ha j _ (by simp [AV.uses, Cell.uses]) hj]; exact hl
       ·cases hl
      ·cases hl
     cases c with
     | int q n => cases hl
     | _ => simp only [qop, h1 x (by simp [Op.operands]), hv, hs, hd, he, hl']
    ·cases h
   ·cases h
  ·rename_i s sz1 by1 e sz2 by2 ty2 hv hs hn1
   split at h
   ·rename_i d sz3 by3 he
    simp only [bifs] at h
    split at h
    ·rename_i hn
     split at h
     ·rename_i hle
      rw [Sig.free_iff] at hn
      exact ⟨(_, _), ⟨fun f sg' ρ' h1 _ hf => by
       have := Sig.free_iff.2 ⟨hf _ List.mem_cons_self, hn.2⟩
       simp only [qop, h1 x (by simp [Op.operands]), hv, hs, hn1, he, this, cond_true, if_pos hle], fun q hq => by rw [List.mem_singleton.1 hq]; exact hn.1⟩, h⟩
     ·cases h
    ·cases h
   ·cases h
  ·cases h
 case build t ps =>
  split at h
  ·rename_i fs sz by_ τ ht
   split at h
   ·rename_i cs hf
    refine ⟨(.agg cs, []), ⟨fun f' sg' ρ' h1 _ _ => ?_, fun q hq => by cases hq⟩, h⟩
    have : (ps.toList.map fun p => (p.1, ρ' p.2)) = ps.toList.map fun p => (p.1, ρ p.2) := by
     apply List.map_congr_left
     intro p hp
     rw [h1 p.2 (by simp only [Op.operands, Array.toList_map]; exact List.mem_map.2 ⟨p, hp, rfl⟩)]
    simp only [qop, ht, this, hf]
   ·cases h
  ·cases h
 case makeFunc fn first captured =>
  split at h
  ·rename_i f hf
   split at h
   ·rename_i js hjs
    refine ⟨(.one (fnCell f js), []), ⟨fun f' sg' ρ' h1 ha _ => ?_, fun q hq => by cases hq⟩, h⟩
    have : capIds sg' ρ' captured.toList = some js := capIds_agree hjs (fun x hx => h1 x (by simp [Op.operands]; exact .inr (by simpa using hx))) (fun x hx => ha x (by simp [Op.operands]; exact .inr (by simpa using hx)))
    simp only [qop, hf, this]
   ·cases h
  ·cases h
 case extract x i =>
  split at h
  ·rename_i ps hp
   split at h
   ·rename_i g cs hi
    split at h
    ·rename_i v hv
     exact ⟨(v, []), ⟨fun f sg' ρ' h1 _ _ => by simp only [qop, h1 x (by simp [Op.operands]), hp, hi, hv], fun q hq => by cases hq⟩, h⟩
    ·cases h
   ·cases h
  ·cases h
 case call c =>
  have hops : ∀ x ∈ c.args.toList, x ∈ (Op.call c).operands.toList := by
   intro x hx
   simp only [Op.operands, Call.operands, Array.toList_append, List.mem_append]
   exact .inr hx
  split at h
  ·rename_i x t ts hc ha hat
   have hx := hops x (by rw [ha]; simp)
   split at h
   ·rename_i s sz by_ hp ht
    exact ⟨(_, []), ⟨fun f sg' ρ' h1 _ _ => by simp only [qop, hc, ha, hat, h1 x hx, hp, ht], fun q hq => by cases hq⟩, h⟩
   ·rename_i cl e sz by_ ty hp ht
    obtain ⟨n, h2, h3⟩ := lenCell_par h
    refine ⟨(.one (.int .i64 n), []), ⟨fun f sg' ρ' h1 hag _ => ?_, fun q hq => by cases hq⟩, h3⟩
    have hag := hag x hx
    rw [hp] at hag
    simp only [qop, hc, ha, hat, h1 x hx, hp, ht]
    exact h2 _ sg' hag
   ·cases h
  ·rename_i ts x y hc ha
   have hx := hops x (by rw [ha]; simp)
   have hy := hops y (by rw [ha]; simp)
   split at h
   ·rename_i q p q' p' hp hp'
    split at h
    ·rename_i hq
     exact ⟨(_, []), ⟨fun f sg' ρ' h1 _ _ => by simp only [qop, hc, ha, h1 x hx, h1 y hy, hp, hp', if_pos hq], fun q hq => by cases hq⟩, h⟩
    ·cases h
   ·cases h
  ·rename_i ts x y hc ha
   have hx := hops x (by rw [ha]; simp)
   have hy := hops y (by rw [ha]; simp)
   split at h
   ·rename_i q p q' p' hp hp'
    split at h
    ·rename_i hq
     exact ⟨(_, []), ⟨fun f sg' ρ' h1 _ _ => by simp only [qop, hc, ha, h1 x hx, h1 y hy, hp, hp', if_pos hq], fun q hq => by cases hq⟩, h⟩
    ·cases h
   ·cases h
  ·cases h
end par
end Go.Proofs.Ytakmjjikiefheaa.Lib
namespace Go.Proofs.Ytakmjjikiefheaa.Lib
open Go Go.RowKit
set_option linter.unusedVariables false
set_option linter.unusedSimpArgs false
section
variable {E : Env} {call : CallFn} {R : Type} {r : R} {sg sg' : Sig}
theorem parse_flat : ∀ {t : Ty} {b : Bool} (b' : Bool) {cs : List Cell} {p : t.T × List Cell}, t.flat = true → t.parse b cs = some p → t.parse b' cs = some p ∧ ∃ pre, cs = pre ++ p.2 ∧ pre.all Cell.plain = true
 | .int k, b, b', cs, p, hf, h => by
  cases cs with
  | nil => simp [Ty.parse] at h
  | cons c r =>
   cases c <;> simp only [Ty.parse] at h <;> try (cases h; done)
   rename_i k' n
   split at h
   ·rename_i hk; subst hk; cases h; exact ⟨by simp [Ty.parse], [.int k' n], rfl, rfl⟩
   ·cases h
 | .bool, b, b', cs, p, hf, h => by
  cases cs with
  | nil => simp [Ty.parse] at h
  | cons c r =>
   cases c <;> simp only [Ty.parse] at h <;> try (cases h; done)
   rename_i x
   cases h; exact ⟨by simp [Ty.parse], [.bool x], rfl, rfl⟩
 | .str, b, b', cs, p, hf, h => by
  cases cs with
  | nil => simp [Ty.parse] at h
  | cons c r =>
   cases c <;> simp only [Ty.parse] at h <;> try (cases h; done)
   rename_i x
   cases h; exact ⟨by simp [Ty.parse], [.str x], rfl, rfl⟩
 | .sl e t, b, b', cs, p, hf, h => by cases hf
 | .nul f, b, b', cs, p, hf, h => by cases hf
 | .pair x y, b, b', cs, p, hf, h => by
  simp only [Ty.flat, Bool.and_eq_true] at hf
  simp only [Ty.parse, Option.bind_eq_some_iff] at h ⊢
  obtain ⟨p1, h1, p2, h2, h3⟩ := h
  obtain ⟨g1, pre1, e1, a1⟩ := parse_flat b' hf.1 h1
  obtain ⟨g2, pre2, e2, a2⟩ := parse_flat b' hf.2 h2
  cases h3
  refine ⟨⟨p1, g1, p2, g2, rfl⟩, pre1 ++ pre2, by rw [e1, e2, List.append_assoc], by rw [List.all_append, a1, a2]; rfl⟩
theorem read_flat {t : Ty} {b : Bool} (b' : Bool) {cs : List Cell} {x : t.T} (hf : t.flat = true) (h : t.read b cs = some x) : t.read b' cs = some x ∧ cs.all Cell.plain = true := by
 unfold Ty.read at h ⊢
 split at h
 ·rename_i y hy
  cases h
  obtain ⟨h1, pre, h2, h3⟩ := parse_flat b' hf hy
  rw [h1]
  refine ⟨rfl, ?_⟩
  rw [h2, List.append_nil]
  exact h3
 ·cases h
theorem settle_plain (sg : Sig) : ∀ {cs : List Cell}, cs.all Cell.plain = true → settle sg cs = some (sg, cs)
 | [], _ => rfl
 | c :: cs, h => by
  simp only [List.all_cons, Bool.and_eq_true] at h
  have ih := settle_plain sg h.2
  cases c <;> first | (simp only [settle, ih]; done) | (cases h.1)
theorem settle_plain_rev : ∀ {cs cs' : List Cell} {sg sg' : Sig}, settle sg cs = some (sg', cs') → cs'.all Cell.plain = true → sg' = sg ∧ cs' = cs
 | [], cs', sg, sg', h, _ => by simp only [settle] at h; cases h; exact ⟨rfl, rfl⟩
 | c :: cs, cs', sg, sg', h, hp => by
  have key : ∀ d sg1, (match settle sg1 cs with | some (sg, cs) => some (sg, d :: cs) | none => none) = some (sg', cs') → d.plain = true ∧ (∃ cs1, cs' = d :: cs1 ∧ settle sg1 cs = some (sg', cs1) ∧ cs1.all Cell.plain = true) := by
   intro d sg1 h
   split at h
   ·rename_i sg2 cs2 h2
    cases h
    simp only [List.all_cons, Bool.and_eq_true] at hp
    exact ⟨hp.1, cs2, rfl, h2, hp.2⟩
   ·cases h
  cases c <;> simp only [settle] at h
  case sl j =>
   split at h
   ·obtain ⟨h1, _⟩ := key _ _ h; cases h1
   ·obtain ⟨h1, _⟩ := key _ _ h; cases h1
   ·cases h
  case sub j o n =>
   split at h
   ·obtain ⟨h1, _⟩ := key _ _ h; cases h1
   ·obtain ⟨h1, _⟩ := key _ _ h; cases h1
   ·cases h
  all_goals
   obtain ⟨h1, cs1, rfl, h2, h3⟩ := key _ _ h
   obtain ⟨rfl, rfl⟩ := settle_plain_rev h2 h3
   exact ⟨rfl, rfl⟩
theorem settleAV_rev {v v' : AV} {cs : List Cell} (h : settleAV sg v = some (sg', v')) (hc : v'.cells? = some cs) (hp : cs.all Cell.plain = true) : sg' = sg ∧ v' = v := by
 unfold settleAV at h
 split at h
 ·split at h
  ·rename_i sg2 c hs
   cases h
   simp only [AV.cells?, bifs] at hc
   split at hc
   ·cases hc
    obtain ⟨h1, h2⟩ := settle_plain_rev hs hp
    cases h2
    exact ⟨h1, rfl⟩
   ·cases hc
  ·cases h
 ·split at h
  ·rename_i sg2 cs2 hs
   cases h
   simp only [AV.cells?, bifs] at hc
   split at hc
   ·cases hc
    obtain ⟨h1, h2⟩ := settle_plain_rev hs hp
    subst h2
    exact ⟨h1, rfl⟩
   ·cases hc
  ·cases h
 ·cases h; cases hc
theorem settleAV_plain {v : AV} {cs : List Cell} (hc : v.cells? = some cs) (hp : cs.all Cell.plain = true) : settleAV sg v = some (sg, v) := by
 cases v with
 | one c =>
  simp only [AV.cells?, bifs] at hc
  split at hc
  ·cases hc
   simp only [settleAV, settle_plain sg hp]
  ·cases hc
 | agg cs' =>
  simp only [AV.cells?, bifs] at hc
  split at hc
  ·cases hc
   simp only [settleAV, settle_plain sg hp]
  ·cases hc
 | tup vs => cases hc
theorem settleParts_rev {τ : Ty} (hf : τ.flat = true) : ∀ {ps ps' : List (Nat × AV)} {sg sg' : Sig} {b : Bool} {n : Nat} {l : List τ.T}, settleParts sg ps = some (sg', ps') → readElems b τ ps' n = some l → sg' = sg ∧ ps' = ps ∧ readElems false τ ps n = some l
 | [], ps', sg, sg', b, n, l, h, hr => by
  simp only [settleParts] at h
  cases h
  simp only [readElems] at hr
  exact ⟨rfl, rfl, by simp only [readElems]; exact hr⟩
 | (i, v) :: r, ps', sg, sg', b, n, l, h, hr => by
  simp only [settleParts] at h
  split at h
  ·rename_i sg1 v1 hv
   split at h
   ·rename_i sg2 ps2 hps
    cases h
    simp only [readElems, bifs] at hr
    split at hr
    ·rename_i hi
     split at hr
     ·rename_i cs hc
      split at hr
      ·rename_i x hx
       split at hr
       ·rename_i xs hxs
        cases hr
        obtain ⟨hx', hpl⟩ := read_flat false hf hx
        obtain ⟨rfl, rfl⟩ := settleAV_rev hv hc hpl
        obtain ⟨rfl, rfl, h3⟩ := settleParts_rev hf hps hxs
        refine ⟨rfl, rfl, ?_⟩
        simp only [readElems, hi, cond_true, hc, hx', h3]
       ·cases hr
      ·cases hr
     ·cases hr
    ·cases hr
   ·cases h
  ·cases h
theorem settleParts_plain {τ : Ty} (hf : τ.flat = true) : ∀ {ps : List (Nat × AV)} {n : Nat} {l : List τ.T}, readElems false τ ps n = some l → settleParts sg ps = some (sg, ps)
 | [], n, l, _ => rfl
 | (i, v) :: r, n, l, hr => by
  simp only [readElems, bifs] at hr
  split at hr
  ·split at hr
   ·rename_i cs hc
    split at hr
    ·rename_i x hx
     split at hr
     ·rename_i xs hxs
      obtain ⟨_, hpl⟩ := read_flat false hf hx
      simp only [settleParts, settleAV_plain hc hpl, settleParts_plain hf hxs]
     ·cases hr
    ·cases hr
   ·cases hr
  ·cases hr
theorem lendBoxes_agree : ∀ {js : List Nat} {l : List ((t : Ty) × t.T)}, lendBoxes E sg js = some l → (Agree sg sg' fun j => js.contains j) → lendBoxes E sg' js = some l
 | [], l, h, _ => h
 | j :: js, l, h, ha => by
  simp only [lendBoxes] at h ⊢
  split at h
  ·rename_i ty cs hj
   rw [ha j _ (by simp) hj]
   simp only
   split at h
   ·split at h
    ·split at h
     ·rename_i l' hl
      rw [lendBoxes_agree hl (fun i b hi => ha i b (by simp only [List.contains_cons, hi, Bool.or_true]))]
      exact h
     ·cases h
    ·cases h
   ·cases h
  ·cases h
theorem lendCell_agree {c : Cell} {p : Cell × Bool} (h : lendCell E sg c = some p) (ha : Agree sg sg' fun j => c.uses j) : lendCell E sg' c = some p := by
 cases c <;> simp only [lendCell] at h ⊢ <;> try exact h
 case sl j =>
  split at h
  ·rename_i hj; rw [ha j _ (by simp [Cell.uses]) hj]; exact h
  ·rename_i hj; rw [ha j _ (by simp [Cell.uses]) hj]; exact h
  ·cases h
 case sub j o n =>
  split at h
  ·rename_i hj; rw [ha j _ (by simp [Cell.uses]) hj]; exact h
  ·rename_i hj; rw [ha j _ (by simp [Cell.uses]) hj]; exact h
  ·cases h
 case fnp f js =>
  split at h
  ·rename_i l hl
   rw [lendBoxes_agree hl (fun i b hi => ha i b hi)]; exact h
  ·cases h
theorem lendCells_agree : ∀ {cs : List Cell} {p : List Cell × Bool}, lendCells E sg cs = some p → (Agree sg sg' fun j => cs.any (·.uses j)) → lendCells E sg' cs = some p
 | [], p, h, _ => h
 | c :: cs, p, h, ha => by
  simp only [lendCells] at h
  split at h
  ·rename_i c' u hc
   split at h
   ·rename_i cs' u' hcs
    simp only [lendCells, lendCell_agree hc (fun j b hj => ha j b (by simp [hj])), lendCells_agree hcs (fun j b hj => ha j b (by simp only [List.any_cons, hj, Bool.or_true]))]
    exact h
   ·cases h
  ·cases h
theorem lend_agree {v : AV} {p : AV × Bool} (h : lend E sg v = some p) (ha : Agree sg sg' fun j => v.uses j) : lend E sg' v = some p := by
 cases v with
 | one c =>
  simp only [lend] at h ⊢
  split at h
  ·rename_i hc; rw [lendCell_agree hc ha]; exact h
  ·cases h
 | agg cs =>
  simp only [lend] at h ⊢
  split at h
  ·rename_i hc; rw [lendCells_agree hc ha]; exact h
  ·cases h
 | tup vs => cases h
theorem lendAll_agree : ∀ {vs : List AV} {p : List AV × Bool}, lendAll E sg vs = some p → (∀ v ∈ vs, Agree sg sg' fun j => v.uses j) → lendAll E sg' vs = some p
 | [], p, h, _ => h
 | v :: vs, p, h, ha => by
  simp only [lendAll] at h
  split at h
  ·rename_i v' u hv
   split at h
   ·rename_i vs' u' hvs
    simp only [lendAll, lend_agree hv (ha v List.mem_cons_self), lendAll_agree hvs (fun v hv => ha v (List.mem_cons_of_mem _ hv))]
    exact h
   ·cases h
  ·cases h
theorem hcall_agree {dst : Option Nat} {f : AV} {args : List AV} {p : AV × Sig} (h : hcall E call sg dst f args = some p) (ha : ∀ v ∈ args, Agree sg sg' fun j => v.uses j) (hf : ∀ q ∈ p.2, sg'.get q.1 = none) : hcall E call sg' dst f args = some p := by
 unfold hcall at h ⊢
 split at h
 ·rename_i g caps
  split at h
  ·rename_i args' own hl
   rw [lendAll_agree hl ha]
   rw [Option.bind_eq_some_iff] at h
   obtain ⟨r, h1, h2⟩ := h
   simp only
   rw [h1]
   simp only [Option.bind_some, bifs] at h2 ⊢
   split at h2
   ·rename_i hc
    rw [if_pos hc]
    split at h2
    ·rename_i d
     split at h2
     ·cases h2
      rw [if_pos]
      rw [List.all_eq_true]
      intro q hq
      have := hf (q.1 + d, q.2.shift d) (List.mem_map.2 ⟨q, hq, rfl⟩)
      exact Sig.free_iff.2 ⟨this, (Sig.free_iff.1 (List.all_eq_true.1 ‹_› q hq)).2⟩
     ·cases h2
    ·exact h2
   ·cases h2
  ·cases h
 ·cases h
theorem hcall_fresh {dst : Option Nat} {f : AV} {args : List AV} {p : AV × Sig} (h : hcall E call sg dst f args = some p) : ∀ q ∈ p.2, sg.get q.1 = none := by
 unfold hcall at h
 split at h
 ·split at h
  ·rw [Option.bind_eq_some_iff] at h
   obtain ⟨r, h1, h2⟩ := h
   simp only [bifs] at h2
   split at h2
   ·split at h2
    ·rename_i d
     split at h2
     ·rename_i ha
      cases h2
      rw [List.all_eq_true] at ha
      intro q hq
      obtain ⟨q', hq', rfl⟩ := List.mem_map.1 hq
      exact (Sig.free_iff.1 (ha q' hq')).1
     ·cases h2
    ·cases h2; intro q hq; cases hq
   ·cases h2
  ·cases h
 ·cases h
theorem hcall_exec {st : St} {d : Nat} {f : AV} {args : List AV} (k : St → Option R) : vcallOp E call st (some d) f args k = (hcall E call st.sg (some d) f args).bind fun p => k (St.put (some d) p.1 ⟨st.sl, p.2 ++ st.sg⟩) := by
 cases f with
 | one c =>
  cases c with
  | fn g caps =>
   simp only [vcallOp, hcall, callK_eq]
   cases hl : lendAll E st.sg args with
   | none => rfl
   | some q =>
    obtain ⟨args', own⟩ := q
    simp only
    cases callP E call g (args' ++ caps.map fun c => .one (.eptr c.1 c.2 0 true)) with
    | none => rfl
    | some q =>
     simp only [Option.bind_some, bifs]
     split
     ·split
      ·rfl
      ·rfl
     ·rfl
  | _ => rfl
 | agg _ => rfl
 | tup _ => rfl
theorem hbuild_agree {dst : Option Nat} {t : TypeId} {n : Nat} {ps : List (Nat × AV)} {p : AV × Sig} (h : hbuild E sg dst t n ps = some p) (hf : ∀ q ∈ p.2, sg'.get q.1 = none) : hbuild E sg' dst t n ps = some p := by
 unfold hbuild at h ⊢
 split at h
 ·split at h
  ·simp only [bifs] at h ⊢
   split at h
   ·rename_i hc
    split at h
    ·rename_i l hl
     cases h
     have := hf _ List.mem_cons_self
     simp only [Bool.and_eq_true, Sig.free_iff] at hc ⊢
     rw [if_pos ⟨⟨⟨hc.1.1.1, this, hc.1.1.2.2⟩, hc.1.2⟩, hc.2⟩]
    ·cases h
   ·cases h
  ·cases h
 ·cases h
theorem hbuild_fresh {dst : Option Nat} {t : TypeId} {n : Nat} {ps : List (Nat × AV)} {p : AV × Sig} (h : hbuild E sg dst t n ps = some p) : ∀ q ∈ p.2, sg.get q.1 = none := by
 unfold hbuild at h
 split at h
 ·split at h
  ·simp only [bifs] at h
   split at h
   ·rename_i hc
    split at h
    ·cases h
     simp only [Bool.and_eq_true, Sig.free_iff] at hc
     intro q hq
     rw [List.mem_singleton.1 hq]
     exact hc.1.1.2.1
    ·cases h
   ·cases h
  ·cases h
 ·cases h
end
end Go.Proofs.Ytakmjjikiefheaa.Lib
namespace Go.Proofs.Ytakmjjikiefheaa.Lib
open Go Go.RowKit
set_option linter.unusedVariables false
set_option linter.unusedSimpArgs false
section
variable {E : Env} {call : CallFn} {R : Type} {r : R}
theorem qop_none {sg : Sig} {ρ : Operand → AV} {o : Oper} {p : AV × Sig} (h : qop E sg ρ o.dst o.op (fun v add => some (v, add)) = some p) : QPar E sg ρ o.dst o.op p := by
 obtain ⟨p', h1, h2⟩ := qop_par h
 cases h2
 exact h1
inductive Way (c : Call) : Prop
 | app (s x : Operand) (t t' : TypeId) : c.callee = .builtin .append → c.args.toList = [s, x] → c.argTypes.toList = [t, t'] → Way c
 | clr (x : Operand) (t : TypeId) : c.callee = .builtin .clear → c.args.toList = [x] → c.argTypes.toList = [t] → Way c
 | val (f : Operand) : c.callee = .value f → Way c
 | q : (∀ (E : Env) (call : CallFn) (R : Type) (o : Oper) (st : St) (k : St → Option R), o.op = .call c → exec E call o st k = qop E st.sg (evalO st.sl) o.dst (.call c) fun v add => k (St.put o.dst v ⟨st.sl, add ++ st.sg⟩)) →
   (∀ (E : Env) (call : CallFn) (sg : Sig) (ρ : Operand → AV) (o : Oper), o.op = .call c → hop E call sg ρ o = qop E sg ρ o.dst (.call c) fun v add => some (v, add)) → Way c
theorem way (c : Call) : Way c := by
 have other : (∀ s x t t', ¬ (c.callee = .builtin .append ∧ c.args.toList = [s, x] ∧ c.argTypes.toList = [t, t'])) → (∀ x t, ¬ (c.callee = .builtin .clear ∧ c.args.toList = [x] ∧ c.argTypes.toList = [t])) → (∀ f, c.callee ≠ .value f) → Way c := by
  intro h1 h3 h2
  refine .q (fun E call R o st k ho => ?_) (fun E call sg ρ o ho => ?_)
  ·unfold exec
   rw [ho]
   simp only
   split
   ·rename_i hc ha ht; exact absurd ⟨hc, ha, ht⟩ (h1 _ _ _ _)
   ·rename_i hc ha ht; exact absurd ⟨hc, ha, ht⟩ (h3 _ _)
   ·rename_i hc; exact absurd hc (h2 _)
   ·rfl
  ·unfold hop
   rw [ho]
   simp only
   split
   ·rename_i hc ha ht; exact absurd ⟨hc, ha, ht⟩ (h1 _ _ _ _)
   ·rename_i hc ha ht; exact absurd ⟨hc, ha, ht⟩ (h3 _ _)
   ·rename_i hc; exact absurd hc (h2 _)
   ·rfl
 by_cases h2 : ∃ f, c.callee = .value f
 ·obtain ⟨f, hf⟩ := h2
  exact .val f hf
 ·by_cases h1 : ∃ s x t t', c.callee = .builtin .append ∧ c.args.toList = [s, x] ∧ c.argTypes.toList = [t, t']
  ·obtain ⟨s, x, t, t', a1, a2, a3⟩ := h1
   exact .app s x t t' a1 a2 a3
  ·by_cases h3 : ∃ x t, c.callee = .builtin .clear ∧ c.args.toList = [x] ∧ c.argTypes.toList = [t]
   ·obtain ⟨x, t, a1, a2, a3⟩ := h3
    exact .clr x t a1 a2 a3
   ·exact other (fun s x t t' h => h1 ⟨s, x, t, t', h⟩) (fun x t h => h3 ⟨x, t, h⟩) (fun f hf => h2 ⟨f, hf⟩)
theorem flatTy {t : TypeId} (h : (match E.ti.lookup t with
   | some { td := .slice e, .. } => (match E.ti.lookup e with
    | some { ty := some τ, .. } => τ.flat
    | _ => false)
   | _ => false) = true) : ∃ e s b y τ s' b' d', E.ti.lookup t = some ⟨.slice e, s, b, y⟩ ∧ E.ti.lookup e = some ⟨d', s', b', some τ⟩ ∧ τ.flat = true := by
 split at h
 ·rename_i e s b y ht
  split at h
  ·rename_i d' s' b' τ he
   exact ⟨e, s, b, y, τ, s', b', d', ht, he, h⟩
  ·cases h
 ·cases h
theorem hop_exec {o : Oper} {st : St} {p : AV × Sig} (ho : headOk E o = true) (h : hop E call st.sg (evalO st.sl) o = some p) (k : St → Option R) : exec E call o st k = k (St.put o.dst p.1 ⟨st.sl, p.2 ++ st.sg⟩) := by
 have quiet : qop E st.sg (evalO st.sl) o.dst o.op (fun v add => some (v, add)) = some p → qop E st.sg (evalO st.sl) o.dst o.op (fun v add => k (St.put o.dst v ⟨st.sl, add ++ st.sg⟩)) = k (St.put o.dst p.1 ⟨st.sl, p.2 ++ st.sg⟩) := fun h =>
  let hq := qop_none h
  hq.1 _ st.sg _ (fun _ _ => rfl) (fun _ _ j b _ hj => hj) hq.2
 unfold headOk at ho
 cases hop' : o.op with
 | store t a v => unfold hop at h; rw [hop'] at h; cases h
 | call c =>
  rcases way c with ⟨s, x, t, t', h1, h2, h3⟩ | ⟨x, t, h1, h2, h3⟩ | ⟨f, h1⟩ | ⟨h1, h2⟩
  ·unfold hop at h
   rw [hop'] at h
   simp only [h1, h2, h3] at h
   cases h
  ·unfold hop at h
   rw [hop'] at h
   simp only [h1, h2, h3] at h
   cases h
  ·rw [hop'] at ho
   simp only [h1] at ho
   unfold hop at h
   rw [hop'] at h
   simp only [h1] at h
   unfold exec
   rw [hop']
   simp only [h1]
   simp only [Bool.and_eq_true] at ho
   have hmk := Option.isNone_iff_eq_none.1 ho.2.2.1
   simp only [hmk]
   refine (noGen_spec ho.2.2.2 st o.dst _ k _).trans ?_
   obtain ⟨d, hd⟩ := Option.isSome_iff_exists.1 ho.2.1
   rw [hd] at h ⊢
   rw [hcall_exec, h]
   rfl
  ·rw [h1 E call R o st k hop', ← hop']
   rw [h2 E call st.sg _ o hop', ← hop'] at h
   exact quiet h
 | buildSlice t n ps =>
  unfold hop at h
  rw [hop'] at h
  simp only at h
  unfold exec
  rw [hop']
  simp only
  unfold hbuild at h
  split at h
  ·rename_i d e s b y hd ht
   split at h
   ·rename_i d' s' b' τ he
    simp only [bifs] at h
    split at h
    ·rename_i hc
     split at h
     ·rename_i l hl
      cases h
      simp only [Bool.and_eq_true] at hc
      rw [settleParts_plain hc.1.1.1 hl]
      simp only [hd, ht, he, hc.1.1.2, hc.1.2, hc.2, Bool.and_self, cond_true, hl]
      rfl
     ·cases h
    ·cases h
   ·cases h
  ·cases h
 | _ => (unfold exec; unfold hop at h; rw [hop'] at h ⊢; simp only at h ⊢; rw [← hop'] at h ⊢; exact quiet h)
theorem exec_hop {o : Oper} {st : St} {k : St → Option R} (ho : headOk E o = true) (hns : isSt o = false) (h : exec E call o st k = some r) : ∃ p, hop E call st.sg (evalO st.sl) o = some p ∧ (∀ q ∈ p.2, st.sg.get q.1 = none) ∧ k (St.put o.dst p.1 ⟨st.sl, p.2 ++ st.sg⟩) = some r := by
 have quiet : qop E st.sg (evalO st.sl) o.dst o.op (fun v add => k (St.put o.dst v ⟨st.sl, add ++ st.sg⟩)) = some r → ∃ p, qop E st.sg (evalO st.sl) o.dst o.op (fun v add => some (v, add)) = some p ∧ (∀ q ∈ p.2, st.sg.get q.1 = none) ∧ k (St.put o.dst p.1 ⟨st.sl, p.2 ++ st.sg⟩) = some r := fun h => by
  obtain ⟨p, h1, h2⟩ := qop_par h
  exact ⟨p, h1.1 _ st.sg _ (fun _ _ => rfl) (fun _ _ j b _ hj => hj) h1.2, h1.2, h2⟩
 unfold headOk at ho
 cases hop' : o.op with
 | store t a v => simp [isSt, hop'] at hns
 | call c =>
  rcases way c with ⟨s, x, t, t', h1, h2, h3⟩ | ⟨x, t, h1, h2, h3⟩ | ⟨f, h1⟩ | ⟨h1, h2⟩
  ·rw [hop'] at ho
   simp [h1, h2, h3] at ho
  ·rw [hop'] at ho
   simp [h1, h2, h3] at ho
  ·rw [hop'] at ho
   simp only [h1] at ho
   unfold exec at h
   rw [hop'] at h
   simp only [h1] at h
   simp only [Bool.and_eq_true] at ho
   have hmk := Option.isNone_iff_eq_none.1 ho.2.2.1
   simp only [hmk] at h
   have h := (noGen_spec ho.2.2.2 st o.dst _ k _).symm.trans h
   obtain ⟨d, hd⟩ := Option.isSome_iff_exists.1 ho.2.1
   rw [hd, hcall_exec, Option.bind_eq_some_iff] at h
   obtain ⟨p, h2, h3⟩ := h
   refine ⟨p, ?_, hcall_fresh h2, by rw [hd]; exact h3⟩
   unfold hop
   rw [hop']
   simp only [h1, hd]
   exact h2
  ·rw [h1 E call R o st k hop', ← hop'] at h
   rw [h2 E call st.sg _ o hop', ← hop']
   exact quiet h
 | buildSlice t n ps =>
  rw [hop'] at ho
  simp only [Bool.and_eq_true] at ho
  obtain ⟨e, s, b, y, τ, s', b', d', ht, he, hf⟩ := flatTy ho.2
  unfold exec at h
  rw [hop'] at h
  simp only at h
  split at h
  ·rename_i sg1 ps1 hs
   split at h
   ·rename_i d e2 s2 b2 y2 hd ht2
    rw [ht] at ht2
    cases ht2
    split at h
    ·rename_i d3 s3 b3 τ3 he3
     rw [he] at he3
     cases he3
     simp only [bifs] at h
     split at h
     ·rename_i hc
      have fin : ∀ bb l, readElems bb τ ps1 0 = some l → k ⟨st.sl.set d (.one (.sl d)), (d, .arr e τ l bb) :: sg1⟩ = some r → bb = false → ∃ p, hop E call st.sg (evalO st.sl) o = some p ∧ (∀ q ∈ p.2, st.sg.get q.1 = none) ∧ k (St.put o.dst p.1 ⟨st.sl, p.2 ++ st.sg⟩) = some r := by
       intro bb l hl hk hb
       subst hb
       obtain ⟨rfl, rfl, h3⟩ := settleParts_rev hf hs hl
       have hh : hop E call st.sg (evalO st.sl) o = some (.one (.sl d), [(d, .arr e τ l false)]) := by
        unfold hop
        rw [hop']
        simp only [Bool.and_eq_true] at hc
        simp only [hbuild, hd, ht, he, hf, hc.1.1, hc.1.2, hc.2, Bool.and_self, cond_true, h3]
       exact ⟨_, hh, (by
        unfold hop at hh
        rw [hop'] at hh
        exact hbuild_fresh hh), by rw [hd]; exact hk⟩
      split at h
      ·rename_i l hl
       exact fin _ l hl h rfl
      ·rename_i hn
       split at h
       ·rename_i l hl
        obtain ⟨rfl, rfl, h3⟩ := settleParts_rev hf hs hl
        rw [hn] at h3
        cases h3
       ·cases h
     ·cases h
    ·cases h
   ·cases h
  ·cases h
 | _ => (unfold exec at h; unfold hop; rw [hop'] at h ⊢; simp only at h ⊢; rw [← hop'] at h ⊢; exact quiet h)
theorem hop_agree {o : Oper} {sg sg' : Sig} {ρ ρ' : Operand → AV} {p : AV × Sig} (h : hop E call sg ρ o = some p) (h1 : ∀ x ∈ o.op.operands.toList, ρ' x = ρ x)
  (h2 : ∀ x ∈ o.op.operands.toList, Agree sg sg' fun j => (ρ x).uses j) (hf : ∀ q ∈ p.2, sg'.get q.1 = none) : hop E call sg' ρ' o = some p := by
 have quiet : qop E sg ρ o.dst o.op (fun v add => some (v, add)) = some p → qop E sg' ρ' o.dst o.op (fun v add => some (v, add)) = some p := fun h =>
  (qop_none h).1 _ sg' ρ' h1 h2 hf
 cases hop' : o.op with
 | store t a v => unfold hop at h; rw [hop'] at h; cases h
 | call c =>
  rcases way c with ⟨s, x, t, t', g1, g2, g3⟩ | ⟨x, t, g1, g2, g3⟩ | ⟨f, g1⟩ | ⟨g1, g2⟩
  ·unfold hop at h
   rw [hop'] at h
   simp only [g1, g2, g3] at h
   cases h
  ·unfold hop at h
   rw [hop'] at h
   simp only [g1, g2, g3] at h
   cases h
  ·unfold hop at h ⊢
   rw [hop'] at h h1 h2 ⊢
   simp only [g1] at h ⊢
   have ha : ∀ x ∈ c.args.toList, x ∈ (Op.call c).operands.toList := by
    intro x hx
    simp only [Op.operands, Call.operands, Array.toList_append, List.mem_append]
    exact .inr hx
   have hfm : f ∈ (Op.call c).operands.toList := by
    simp only [Op.operands, Call.operands, Array.toList_append, List.mem_append, g1]
    exact .inl (by simp)
   rw [h1 f hfm, List.map_congr_left (fun x hx => h1 x (ha x hx))]
   refine hcall_agree h (fun v hv => ?_) hf
   obtain ⟨x, hx, rfl⟩ := List.mem_map.1 hv
   exact h2 x (ha x hx)
  ·rw [g2 E call sg _ o hop', ← hop'] at h
   rw [g2 E call sg' _ o hop', ← hop']
   exact quiet h
 | buildSlice t n ps =>
  unfold hop at h ⊢
  rw [hop'] at h h1 ⊢
  simp only at h ⊢
  rw [List.map_congr_left (g := fun p => (p.1, ρ p.2)) (fun q hq => by rw [h1 q.2 (by simp only [Op.operands]; exact List.mem_map.2 ⟨q, by simpa using hq, rfl⟩)])]
  exact hbuild_agree h hf
 | _ => (unfold hop at h ⊢; rw [hop'] at h ⊢; simp only at h ⊢; rw [← hop'] at h ⊢; exact quiet h)
theorem hst_spec {sg : Sig} {t : TypeId} {x v : AV} {p : AV × Sig} (h : hst E sg t x v = some p) : ∃ j c b b', x = .one (.ptr j 0 c) ∧ sg.get j = some b ∧ p = (.one .und, [(j, b')]) ∧ (∀ sg' : Sig, sg'.get j = some b → hst E sg' t x v = some p) := by
 unfold hst at h
 split at h
 ·rename_i j i c cs ti hv ht
  simp only [bifs] at h
  split at h
  ·rename_i hl
   split at h
   ·rename_i ty old hj
    split at h
    ·split at h
     ·rename_i hle
      cases h
      exact ⟨j, c, _, _, rfl, hj, rfl, fun sg' hj' => by simp only [hst, hv, ht, hl, hj', hle, cond_true]⟩
     ·cases h
    ·cases h
   ·cases h
  ·cases h
 ·cases h
theorem st_exec {o : Oper} {st : St} {t : TypeId} {a v : Operand} {p : AV × Sig} (ho : o.op = .store t a v) (h : hst E st.sg t (evalO st.sl a) (evalO st.sl v) = some p) (k : St → Option R) : exec E call o st k = k (aft o p st) := by
 unfold hst at h
 split at h
 ·rename_i j i c cs ti hx hv ht
  simp only [bifs] at h
  split at h
  ·rename_i hl
   split at h
   ·rename_i ty old hj
    split at h
    ·split at h
     ·rename_i hle
      cases h
      unfold exec
      rw [ho]
      simp only [vstore, hx, hv, ht, hl, hj, hle, cond_true, aft, isSt, ho, joinS]
     ·cases h
    ·cases h
   ·cases h
  ·cases h
 ·cases h
theorem sop_ns {sg : Sig} {ρ : Operand → AV} {o : Oper} (hns : isSt o = false) : sop E call sg ρ o = hop E call sg ρ o := by
 unfold sop
 split
 ·rename_i ho; simp [isSt, ho] at hns
 ·rfl
theorem aft_ns {o : Oper} {p : AV × Sig} {s : St} (hns : isSt o = false) : aft o p s = St.put o.dst p.1 ⟨s.sl, p.2 ++ s.sg⟩ := by
 unfold aft; rw [hns]; rfl
theorem st_of {o : Oper} (h : isSt o = true) : ∃ t a v, o.op = .store t a v := by
 unfold isSt at h
 split at h
 ·rename_i t a v ho; exact ⟨t, a, v, ho⟩
 ·cases h
theorem st_head {o : Oper} (h : isSt o = true) (ho : headOk E o = true) : ∃ t u v, o.op = .store t (.tmp u) v ∧ o.guard = none := by
 obtain ⟨t, a, v, h1⟩ := st_of h
 unfold headOk at ho
 rw [h1] at ho
 simp only [Bool.true_and, Bool.and_eq_true, Option.isNone_iff_eq_none] at ho
 cases a with
 | tmp u => exact ⟨t, u, v, h1, ho.1⟩
 | _ => cases ho.2
theorem gop_agree {all : List Oper} {o : Oper} (hns : isSt o = false) {sg sg' : Sig} {ρ ρ' : Operand → AV} {p : AV × Sig} (h : gop E call all sg ρ o = some p) (h1 : ∀ x ∈ opn all o, ρ' x = ρ x)
  (h2 : ∀ x ∈ opn all o, Agree sg sg' fun j => (ρ x).uses j) (hf : ∀ q ∈ p.2, sg'.get q.1 = none) : gop E call all sg' ρ' o = some p := by
 have hh : hop E call sg ρ o = some p → hop E call sg' ρ' o = some p := fun h => hop_agree h (fun x hx => h1 x (List.mem_append_right _ hx)) (fun x hx => h2 x (List.mem_append_right _ hx)) hf
 unfold gop at h ⊢
 simp only [sop_ns hns] at h ⊢
 split at h
 ·exact hh h
 ·rename_i j want hg
  split at h
  ·rename_i t ht
   have ht' : ρ' (.tmp t) = ρ (.tmp t) := h1 _ (List.mem_append_left _ (by unfold tst; rw [hg]; simp only [ht]; exact List.mem_singleton.2 rfl))
   rw [ht']
   split at h
   ·rename_i v hv
    simp only [bifs] at h ⊢
    split at h
    ·rename_i hvw; rw [if_pos hvw]; exact hh h
    ·rename_i hvw; rw [if_neg hvw]; exact h
   ·exact h
   ·cases h
  ·cases h
theorem evalO_tmp {sl : List AV} {t : Nat} {v : AV} (h : sl[t]? = some v) : evalO sl (.tmp t) = v := by
 simp only [evalO, List.getD_eq_getElem?_getD, h]
 rfl
theorem vg_gop {all : List Oper} {o : Oper} {l : List Oper} {st : St} {k : St → Option R} (ho : headOk E o = true) (hs : isSt o = true → (gop E call all st.sg (evalO st.sl) o).isSome = true) (h : vguard E call all (o :: l) st k = some r) :
  ∃ p, gop E call all st.sg (evalO st.sl) o = some p ∧ (isSt o = false → ∀ q ∈ p.2, st.sg.get q.1 = none) ∧ vguard E call all l (aft o p st) k = some r := by
 by_cases hns : isSt o = true
 ·
  obtain ⟨t, u, v, h1, hg⟩ := st_head hns ho
  obtain ⟨p, hp⟩ := Option.isSome_iff_exists.1 (hs hns)
  have hp2 := hp
  unfold gop sop at hp2
  simp only [hg, h1] at hp2
  simp only [vguard, hg] at h
  rw [st_exec h1 hp2] at h
  exact ⟨p, hp, (fun h => by rw [hns] at h; cases h), h⟩
 have hns : isSt o = false := by simpa using hns
 simp only [vguard] at h
 split at h
 ·rename_i hg
  obtain ⟨p, h1, h2, h3⟩ := exec_hop ho hns h
  exact ⟨p, by unfold gop; simp only [hg, sop_ns hns]; exact h1, fun _ => h2, by rw [aft_ns hns]; exact h3⟩
 ·rename_i j want hg
  split at h
  ·rename_i t ht
   split at h
   ·rename_i v hv
    have run : ∀ b, v = b → (b == want) = true → exec E call o st (fun st => vguard E call all l st k) = some r → ∃ p, gop E call all st.sg (evalO st.sl) o = some p ∧ (isSt o = false → ∀ q ∈ p.2, st.sg.get q.1 = none) ∧ vguard E call all l (aft o p st) k = some r := by
     intro b hb hw h
     subst hb
     obtain ⟨p, h1, h2, h3⟩ := exec_hop ho hns h
     exact ⟨p, by unfold gop; simp only [hg, ht, evalO_tmp hv, hw, cond_true]; exact h1, fun _ => h2, by rw [aft_ns hns]; exact h3⟩
    have skip : ∀ b, v = b → (b == want) = false → vguard E call all l (st.put o.dst (.tup [])) k = some r → ∃ p, gop E call all st.sg (evalO st.sl) o = some p ∧ (isSt o = false → ∀ q ∈ p.2, st.sg.get q.1 = none) ∧ vguard E call all l (aft o p st) k = some r := by
     intro b hb hw h
     subst hb
     exact ⟨(.tup [], []), by unfold gop; simp only [hg, ht, evalO_tmp hv, hw, cond_false], (fun _ q hq => by cases hq), by rw [aft_ns hns]; exact h⟩
    cases v with
    | true =>
     simp only [put_same hv, bifs] at h
     split at h
     ·rename_i h1; exact run true rfl (by rw [h1]; rfl) h
     ·rename_i h1
      have h2 : want = false := by simpa using h1
      exact skip true rfl (by rw [h2]; rfl) h
    | false =>
     simp only [put_same hv, bifs] at h
     split at h
     ·rename_i h1; exact skip false rfl (by rw [h1]; rfl) h
     ·rename_i h1
      have h2 : want = false := by simpa using h1
      exact run false rfl (by rw [h2]; rfl) h
   ·rename_i hv
    exact ⟨(.tup [], []), by unfold gop; simp only [hg, ht, evalO_tmp hv], (fun _ q hq => by cases hq), by rw [aft_ns hns]; exact h⟩
   ·cases h
  ·cases h
end
end Go.Proofs.Ytakmjjikiefheaa.Lib
namespace Go.Proofs.Ytakmjjikiefheaa.Lib
open Go Go.RowKit
set_option linter.unusedVariables false
set_option linter.unusedSimpArgs false
section
variable {P : Program} {E : Env} {call : CallFn} {R : Type} {r : R} {W : Nat → Nat → Bool} {G : List Oper}
def txt (E : Env) (call : CallFn) (G l : List Oper) (st : St) : Nat → St
 | 0 => st
 | j + 1 => match l[j]? with
  | some o => (match gop E call G (txt E call G l st j).sg (evalO (txt E call G l st j).sl) o with
   | some p => aft o p (txt E call G l st j)
   | none => txt E call G l st j)
  | none => txt E call G l st j
def Val (E : Env) (call : CallFn) (G l : List Oper) (st : St) (j : Nat) (o : Oper) (p : AV × Sig) : Prop :=
 l[j]? = some o ∧ headOk E o = true ∧ gop E call G (txt E call G l st j).sg (evalO (txt E call G l st j).sl) o = some p ∧ (isSt o = false → ∀ q ∈ p.2, (txt E call G l st j).sg.get q.1 = none)
theorem Val.uniq {l : List Oper} {st : St} {j : Nat} {o o' : Oper} {p p' : AV × Sig} (h : Val E call G l st j o p) (h' : Val E call G l st j o' p') : o = o' ∧ p = p' := by
 have h1 : o = o' := Option.some.inj (h.1.symm.trans h'.1)
 subst h1
 exact ⟨rfl, Option.some.inj (h.2.2.1.symm.trans h'.2.2.1)⟩
theorem Val.succ {l : List Oper} {st : St} {j : Nat} {o : Oper} {p : AV × Sig} (h : Val E call G l st j o p) : txt E call G l st (j + 1) = aft o p (txt E call G l st j) := by
 simp only [txt, h.1, h.2.2.1]
theorem head_run {l : List Oper} {st : St} {k : St → Option R} : ∀ n, n ≤ l.length → (l.take n).all (headOk E) = true → (∀ j o, j < n → l[j]? = some o → isSt o = true → (gop E call G (txt E call G l st j).sg (evalO (txt E call G l st j).sl) o).isSome = true) → vguard E call G l st k = some r →
  vguard E call G (l.drop n) (txt E call G l st n) k = some r ∧ ∀ j, j < n → ∃ o p, Val E call G l st j o p
 | 0, _, _, _, h => ⟨h, fun j hj => by omega⟩
 | n + 1, hn, hh, hst, h => by
  have hlt : n < l.length := by omega
  have hh' : (l.take n).all (headOk E) = true := by
   rw [List.all_eq_true] at hh ⊢
   intro o ho
   exact hh o (by rw [List.take_add_one]; exact List.mem_append_left _ ho)
  have ho : headOk E l[n] = true := by
   rw [List.all_eq_true] at hh
   refine hh _ ?_
   rw [List.mem_take_iff_getElem]
   exact ⟨n, by omega, rfl⟩
  obtain ⟨h1, h2⟩ := head_run n (by omega) hh' (fun j o hj => hst j o (by omega)) h
  rw [List.drop_eq_getElem_cons hlt] at h1
  obtain ⟨p, h3, h4, h5⟩ := vg_gop ho (fun hs => hst n _ (by omega) (List.getElem?_eq_getElem hlt) hs) h1
  have hv : Val E call G l st n l[n] p := ⟨List.getElem?_eq_getElem hlt, ho, h3, h4⟩
  refine ⟨by rw [hv.succ]; exact h5, fun j hj => ?_⟩
  by_cases hjn : j = n
  ·subst hjn; exact ⟨_, _, hv⟩
  ·exact h2 j (by omega)
theorem get_append_mem {a b : Sig} {i : Nat} {x : Blk} (h : (a ++ b).get i = some x) (hf : ∀ q ∈ a, b.get q.1 = none) : Sig.get i a = some x ∨ (Sig.get i a = none ∧ Sig.get i b = some x) := by
 rw [Sig.get_append] at h
 cases ha : Sig.get i a with
 | none => rw [ha] at h; exact .inr ⟨rfl, by simpa using h⟩
 | some y => rw [ha] at h; exact .inl (by simpa using h)
theorem aft_sg (o : Oper) (p : AV × Sig) (s : St) : (aft o p s).sg = joinS (isSt o) p.2 s.sg := by
 unfold aft; cases o.dst <;> rfl
theorem aft_sl (o : Oper) (p : AV × Sig) (s : St) (t : Nat) : (aft o p s).sl[t]? = if o.dst = some t then (if t < s.sl.length then some p.1 else none) else s.sl[t]? := by
 unfold aft
 cases hd : o.dst with
 | none => simp [St.put]
 | some d =>
  simp only [St.put, List.getElem?_set, Option.some.injEq]
  split
  ·rename_i hdt; subst hdt; split <;> rfl
  ·rfl
theorem aft_len (o : Oper) (p : AV × Sig) (s : St) : (aft o p s).sl.length = s.sl.length := by
 unfold aft; cases o.dst <;> simp [St.put]
structure Stores (E : Env) (call : CallFn) (G l : List Oper) (st : St) (n : Nat) (W : Nat → Nat → Bool) : Prop where
 one : ∀ j k o o' p p' i, j < n → k < n → Val E call G l st j o p → Val E call G l st k o' p' → isSt o = true → isSt o' = true → (Sig.get i p.2).isSome = true → (Sig.get i p'.2).isSome = true → j = k
 made : ∀ j k o o' p p' i, j < n → k < n → Val E call G l st j o p → Val E call G l st k o' p' → isSt o = true → isSt o' = false → (Sig.get i p.2).isSome = true → (Sig.get i p'.2).isSome = true → k < j ∧ W j k = true
 free : ∀ j m o o' p i t v, j < n → m < n → j ≠ m → Val E call G l st j o p → l[m]? = some o' → isSt o = true → (Sig.get i p.2).isSome = true → .tmp t ∈ opn G o' → (txt E call G l st m).sl[t]? = some v → v.uses i = false
 shape : ∀ j o p, j < n → Val E call G l st j o p → isSt o = true → ∃ i b, p.2 = [(i, b)] ∧ ((txt E call G l st j).sg.get i).isSome = true
def Made (E : Env) (call : CallFn) (G l : List Oper) (st : St) (n : Nat) (L : Nat → Prop) (i : Nat) (b : Blk) : Prop :=
 st.sg.get i = some b ∨ ∃ j o p, j < n ∧ L j ∧ Val E call G l st j o p ∧ isSt o = false ∧ Sig.get i p.2 = some b
def Stored (E : Env) (call : CallFn) (G l : List Oper) (st : St) (n : Nat) (L : Nat → Prop) (i : Nat) (b : Blk) : Prop :=
 ∃ j o p, j < n ∧ L j ∧ Val E call G l st j o p ∧ isSt o = true ∧ Sig.get i p.2 = some b
structure Part (E : Env) (call : CallFn) (G l : List Oper) (st : St) (n : Nat) (L : Nat → Prop) (s : St) : Prop where
 len : s.sl.length = st.sl.length
 wr : ∀ j o p t, j < n → L j → Val E call G l st j o p → o.dst = some t → t < st.sl.length → s.sl[t]? = some p.1
 un : ∀ t, (∀ j o, j < n → L j → l[j]? = some o → o.dst ≠ some t) → s.sl[t]? = st.sl[t]?
 sg : ∀ i b, s.sg.get i = some b ↔ Stored E call G l st n L i b ∨ ((∀ b', ¬ Stored E call G l st n L i b') ∧ Made E call G l st n L i b)
theorem Part.start {l : List Oper} {st : St} {n : Nat} {L : Nat → Prop} (hL : ∀ j, j < n → ¬ L j) : Part E call G l st n L st :=
 ⟨rfl, fun j o p t hj hl => absurd hl (hL j hj), fun t _ => rfl, fun i b => ⟨fun h => .inr ⟨fun b' ⟨j, o, p, hj, hl, _⟩ => hL j hj hl, .inl h⟩, fun h => by
  rcases h with ⟨j, o, p, hj, hl, _⟩ | ⟨_, h | ⟨j, o, p, hj, hl, _⟩⟩
  ·exact absurd hl (hL j hj)
  ·exact h
  ·exact absurd hl (hL j hj)⟩⟩
theorem Part.step {l : List Oper} {st s : St} {n j : Nat} {L L' : Nat → Prop} {o : Oper} {p : AV × Sig} (SO : Stores E call G l st n W) (h : Part E call G l st n L s) (hj : j < n) (hn : ¬ L j) (hv : Val E call G l st j o p) (hL : ∀ i, L' i ↔ L i ∨ i = j)
  (hu : ∀ i o' t, i < n → l[i]? = some o' → o'.dst = some t → o.dst = some t → i = j) (hf : isSt o = false → ∀ q ∈ p.2, s.sg.get q.1 = none)
  (hbe : isSt o = false → ∀ k o' p' i, k < n → L k → Val E call G l st k o' p' → isSt o' = true → (Sig.get i p.2).isSome = true → Sig.get i p'.2 = none) : Part E call G l st n L' (aft o p s) := by
 refine ⟨by rw [aft_len, h.len], fun i o' p' t hi hl' hv' ht hlt => ?_, fun t ht => ?_, fun i b => ?_⟩
 ·rw [aft_sl]
  split
  ·rename_i hd
   have hij := hu i o' t hi hv'.1 ht hd
   subst hij
   obtain ⟨_, rfl⟩ := hv.uniq hv'
   rw [if_pos (by rw [h.len]; exact hlt)]
  ·rename_i hd
   rcases (hL i).1 hl' with hl | rfl
   ·exact h.wr i o' p' t hi hl hv' ht hlt
   ·obtain ⟨rfl, _⟩ := hv.uniq hv'
    exact absurd ht hd
 ·rw [aft_sl, if_neg (ht j o hj ((hL j).2 (.inr rfl)) hv.1)]
  exact h.un t fun i o' hi hl ho => ht i o' hi ((hL i).2 (.inl hl)) ho
 ·rw [aft_sg]
  have stored_old : ∀ i b, Stored E call G l st n L i b → Stored E call G l st n L' i b := fun i b ⟨k, o', p', h1, h2, h3⟩ => ⟨k, o', p', h1, (hL k).2 (.inl h2), h3⟩
  have made_old : ∀ i b, Made E call G l st n L i b → Made E call G l st n L' i b := fun i b h => h.imp id fun ⟨k, o', p', h1, h2, h3⟩ => ⟨k, o', p', h1, (hL k).2 (.inl h2), h3⟩
  cases hs : isSt o with
  | true =>
   obtain ⟨i0, b0, hp, _⟩ := SO.shape j o p hj hv hs
   rw [hp]
   show (s.sg.put i0 b0).get i = some b ↔ _
   rw [Sig.get_put]
   have new : Stored E call G l st n L' i0 b0 := ⟨j, o, p, hj, (hL j).2 (.inr rfl), hv, hs, by rw [hp]; simp [Sig.get]⟩
   have only : ∀ b', Stored E call G l st n L' i0 b' → b' = b0 := by
    rintro b' ⟨k, o', p', h1, h2, h3, h4, h5⟩
    have hjk := SO.one j k o o' p p' i0 hj h1 hv h3 hs h4 (by rw [hp]; simp [Sig.get]) (by rw [h5]; rfl)
    subst hjk
    obtain ⟨rfl, rfl⟩ := hv.uniq h3
    rw [hp] at h5
    simp [Sig.get] at h5
    exact h5.symm
   by_cases hi : i0 = i
   ·subst hi
    rw [if_pos rfl]
    constructor
    ·intro hb; cases hb; exact .inl new
    ·rintro (hb | ⟨hb, _⟩)
     ·rw [only b hb]
     ·exact absurd new (hb b0)
   ·rw [if_neg hi, h.sg]
    have back : ∀ b', Stored E call G l st n L' i b' → Stored E call G l st n L i b' := by
     rintro b' ⟨k, o', p', h1, h2, h3, h4, h5⟩
     rcases (hL k).1 h2 with h2 | rfl
     ·exact ⟨k, o', p', h1, h2, h3, h4, h5⟩
     ·obtain ⟨rfl, rfl⟩ := hv.uniq h3
      rw [hp] at h5
      simp only [Sig.get, beq_eq_false_iff_ne.2 hi, cond_false] at h5
      cases h5
    have backM : ∀ b', Made E call G l st n L' i b' → Made E call G l st n L i b' := by
     rintro b' (h1 | ⟨k, o', p', h1, h2, h3, h4, h5⟩)
     ·exact .inl h1
     ·rcases (hL k).1 h2 with h2 | rfl
      ·exact .inr ⟨k, o', p', h1, h2, h3, h4, h5⟩
      ·obtain ⟨rfl, rfl⟩ := hv.uniq h3
       rw [hs] at h4; cases h4
    constructor
    ·rintro (h1 | ⟨h1, h2⟩)
     ·exact .inl (stored_old i b h1)
     ·exact .inr ⟨fun b' hb' => h1 b' (back b' hb'), made_old i b h2⟩
    ·rintro (h1 | ⟨h1, h2⟩)
     ·exact .inl (back b h1)
     ·exact .inr ⟨fun b' hb' => h1 b' (stored_old i b' hb'), backM b h2⟩
  | false =>
   have hf := hf hs
   have backS : ∀ b', Stored E call G l st n L' i b' → Stored E call G l st n L i b' := by
    rintro b' ⟨k, o', p', h1, h2, h3, h4, h5⟩
    rcases (hL k).1 h2 with h2 | rfl
    ·exact ⟨k, o', p', h1, h2, h3, h4, h5⟩
    ·obtain ⟨rfl, rfl⟩ := hv.uniq h3
     rw [hs] at h4; cases h4
   show (p.2 ++ s.sg).get i = some b ↔ _
   constructor
   ·intro hb
    rcases get_append_mem hb hf with hb | ⟨_, hb⟩
    ·refine .inr ⟨fun b' hb' => ?_, .inr ⟨j, o, p, hj, (hL j).2 (.inr rfl), hv, hs, hb⟩⟩
     obtain ⟨k, o', p', h1, h2, h3, h4, h5⟩ := backS b' hb'
     rw [hbe hs k o' p' i h1 h2 h3 h4 (by rw [hb]; rfl)] at h5
     cases h5
    ·rcases (h.sg i b).1 hb with h1 | ⟨h1, h2⟩
     ·exact .inl (stored_old i b h1)
     ·exact .inr ⟨fun b' hb' => h1 b' (backS b' hb'), made_old i b h2⟩
   ·intro hb
    have old : s.sg.get i = some b → (p.2 ++ s.sg).get i = some b := by
     intro hs
     rw [Sig.get_append]
     cases ha : Sig.get i p.2 with
     | none => simpa using hs
     | some y =>
      have := hf _ (Sig.get_mem ha)
      rw [hs] at this
      cases this
    rcases hb with hb | ⟨h1, hb | ⟨k, o', p', h2, h3, h4, h5, h6⟩⟩
    ·exact old ((h.sg i b).2 (.inl (backS b hb)))
    ·exact old ((h.sg i b).2 (.inr ⟨fun b' hb' => h1 b' (stored_old i b' hb'), .inl hb⟩))
    ·rcases (hL k).1 h3 with h3 | rfl
     ·exact old ((h.sg i b).2 (.inr ⟨fun b' hb' => h1 b' (stored_old i b' hb'), .inr ⟨k, o', p', h2, h3, h4, h5, h6⟩⟩))
     ·obtain ⟨rfl, rfl⟩ := hv.uniq h4
      rw [Sig.get_append, h6]
      rfl
theorem txt_some {l : List Oper} {st : St} {n : Nat} (hv : ∀ j, j < n → ∃ o p, Val E call G l st j o p) (hsh : ∀ j o p, j < n → Val E call G l st j o p → isSt o = true → ∃ i b, p.2 = [(i, b)] ∧ ((txt E call G l st j).sg.get i).isSome = true) {i : Nat} : ∀ {a b : Nat}, a ≤ b → b ≤ n → ((txt E call G l st a).sg.get i).isSome = true → ((txt E call G l st b).sg.get i).isSome = true := by
 intro a b hab
 induction b with
 | zero =>
  intro _ h; have : a = 0 := by omega
  subst this; exact h
 | succ b ih =>
  intro hb h
  by_cases hab' : a = b + 1
  ·subst hab'; exact h
  ·have h0 := ih (by omega) (by omega) h
   obtain ⟨o, p, hp⟩ := hv b (by omega)
   rw [hp.succ, aft_sg]
   cases hs : isSt o with
   | true =>
    obtain ⟨i0, b0, hp0, _⟩ := hsh b o p (by omega) hp hs
    rw [hp0]
    show ((Sig.put i0 b0 _).get i).isSome = true
    rw [Sig.get_put]
    split
    ·rfl
    ·exact h0
   | false =>
    show (Sig.get i (p.2 ++ _)).isSome = true
    rw [Sig.get_append]
    cases ha : Sig.get i p.2 with
    | none => simpa using h0
    | some y => rfl
theorem txt_made {l : List Oper} {st : St} {j i : Nat} {o : Oper} {p : AV × Sig} (hp : Val E call G l st j o p) (hs : isSt o = false) (hi : (Sig.get i p.2).isSome = true) : ((txt E call G l st (j + 1)).sg.get i).isSome = true := by
 rw [hp.succ, aft_sg, hs]
 show (Sig.get i (p.2 ++ _)).isSome = true
 rw [Sig.get_append]
 obtain ⟨b, hb⟩ := Option.isSome_iff_exists.1 hi
 rw [hb]; rfl
def readsB (n : Nat) (ops : Array Oper) : Bool :=
 (List.range n).all fun j => (List.range n).all fun k => match ops[j]?, ops[k]? with
  | some oj, some ok => (match ok.dst with
   | some t => (j == k || oj.dst != some t) && (!((opn ops.toList oj).any fun x => match x with | .tmp u => u == t | _ => false) || (decide (k < j) && Region.waitsFor .any ops j k) || (decide (j < k) && Region.waitsFor .any ops k j))
   | none => true)
  | _, _ => true
def edgesB (n : Nat) (ops : Array Oper) : Bool :=
 (List.range n).all fun j => match ops[j]? with
  | some o => o.after.toList.all fun e => !Region.binds .any e || Nat.blt e.on j
  | none => true
def listedN (n m : Nat) : Array Bool := (List.replicate n true ++ List.replicate m false).toArray
def storeB (l : List Oper) (n j : Nat) (o : Oper) : Bool :=
 match o.op with
 | .store _ (.tmp t) _ => (List.range n).any (fun k => decide (k < j) && Region.waitsFor .any l.toArray j k && (match l[k]? with | some ok => (match ok.op with | .alloc _ => ok.guard.isNone && ok.dst == some t | _ => false) | none => false)) &&
   (List.range n).all (fun m => m == j || (match l[m]? with | some om => !((opn l om).any fun x => match x with | .tmp u => u == t | _ => false) | none => true))
 | _ => true
def storesB (l : List Oper) (n : Nat) : Bool := (List.range n).all fun j => match l[j]? with | some o => storeB l n j o | none => true
def runN (E : Env) (call : CallFn) (l : List Oper) (st : St) : Nat → Option St
 | 0 => some st
 | j + 1 => (match runN E call l st j with
  | some s => (match l[j]? with
   | some o => (match gop E call l s.sg (evalO s.sl) o with | some p => some (aft o p s) | none => none)
   | none => none)
  | none => none)
def noUse (t : Nat) (sl : List AV) (skip : Nat) : Bool := (List.range sl.length).all fun u => u == skip || !((sl.getD u (.one .und)).uses t)
def aloneB (l : List Oper) (n : Nat) (st s : St) : Bool :=
 (l.take n).all fun o => match o.op with
 | .store _ (.tmp t) _ => noUse t st.sl st.sl.length && noUse t s.sl t
 | _ => true
def dynB (E : Env) (call : CallFn) (l : List Oper) (st : St) (n : Nat) : Bool :=
 (l.take n).all (fun o => !isSt o) || (match runN E call l st n with | some s => aloneB l n st s | none => false)
def headB (E : Env) (l : List Oper) (n : Nat) : Bool :=
 Nat.blt n l.length && (l.take n).all (headOk E) && Region.sinkB .any l.toArray n && Region.chainB .any l.toArray n && readsB n l.toArray && edgesB n l.toArray && Region.seqB .any l.toArray (l.length - n) n (listedN n (l.length - n)) && storesB l n
def drawB (E : Env) (call : CallFn) (l : List Oper) (st : St) : Bool := (List.range l.length).any fun i => headB E l (l.length - 1 - i) && dynB E call l st (l.length - 1 - i)
structure HeadW (E : Env) (G l : List Oper) (n : Nat) (W : Nat → Nat → Bool) : Prop where
 ok : (l.take n).all (headOk E) = true
 uniq : ∀ j k oj ok t, j < n → k < n → l[j]? = some oj → l[k]? = some ok → oj.dst = some t → ok.dst = some t → j = k
 reads : ∀ j k oj ok t, j < n → k < n → l[j]? = some oj → l[k]? = some ok → ok.dst = some t → .tmp t ∈ opn G oj → (k < j ∧ W j k = true) ∨ (j < k ∧ W k j = true)
structure HeadOk (E : Env) (l : List Oper) (n : Nat) : Prop where
 lt : n < l.length
 ok : (l.take n).all (headOk E) = true
 sink : Region.sinkB .any l.toArray n = true
 chain : Region.chainB .any l.toArray n = true
 uniq : ∀ j k oj ok t, j < n → k < n → l[j]? = some oj → l[k]? = some ok → oj.dst = some t → ok.dst = some t → j = k
 reads : ∀ j k oj ok t, j < n → k < n → l[j]? = some oj → l[k]? = some ok → ok.dst = some t → .tmp t ∈ opn l oj → (k < j ∧ Region.waitsFor .any l.toArray j k = true) ∨ (j < k ∧ Region.waitsFor .any l.toArray k j = true)
 edges : ∀ j o, j < n → l[j]? = some o → ∀ e ∈ o.after, Region.binds .any e = true → e.on < j
 seq : Region.seqB .any l.toArray (l.length - n) n (listedN n (l.length - n)) = true
 sto : storesB l n = true
theorem HeadOk.w {E : Env} {l : List Oper} {n : Nat} (H : HeadOk E l n) : HeadW E l l n (Region.waitsFor .any l.toArray) := ⟨H.ok, H.uniq, H.reads⟩
theorem headB_ok {l : List Oper} {n : Nat} (h : headB E l n = true) : HeadOk E l n := by
 simp only [headB, Bool.and_eq_true, Nat.blt_eq] at h
 obtain ⟨⟨⟨⟨⟨⟨⟨h1, h2⟩, h3⟩, h4⟩, h5⟩, h6⟩, h7⟩, h8⟩ := h
 simp only [readsB, List.all_eq_true, List.mem_range] at h5
 refine ⟨h1, h2, h3, h4, fun j k oj ok t hj hk h8 h9 h10 h11 => ?_, fun j k oj ok t hj hk h8 h9 h10 h11 => ?_, fun j o hj h8 e he hb => ?_, h7, h8⟩
 ·have := h5 j hj k hk
  simp only [List.getElem?_toArray, h8, h9, h11, h10, Bool.and_eq_true, Bool.or_eq_true, beq_iff_eq, bne_iff_ne, ne_eq, not_true_eq_false, or_false] at this
  exact this.1
 ·have := h5 j hj k hk
  simp only [List.getElem?_toArray, h8, h9, h10, Bool.and_eq_true, Bool.or_eq_true, decide_eq_true_eq, Bool.not_eq_true'] at this
  rcases this.2 with (h | h) | h
  ·rw [List.any_eq_false] at h
   exact absurd (h _ h11) (by simp)
  ·exact .inl h
  ·exact .inr h
 ·simp only [edgesB, List.all_eq_true, List.mem_range] at h6
  have := h6 j hj
  simp only [List.getElem?_toArray, h8, List.all_eq_true] at this
  have := this e (by simpa using he)
  simpa [hb] using this
theorem txt_len {l : List Oper} {st : St} : ∀ m, (txt E call G l st m).sl.length = st.sl.length
 | 0 => rfl
 | m + 1 => by
  simp only [txt]
  split
  ·split
   ·rw [aft_len, txt_len m]
   ·exact txt_len m
  ·exact txt_len m
theorem txt_wr {l : List Oper} {st : St} {n : Nat} (H : HeadW E G l n W) (hv : ∀ j, j < n → ∃ o p, Val E call G l st j o p) {w : Nat} {o : Oper} {p : AV × Sig} {t : Nat} (hp : Val E call G l st w o p) (hw : w < n) (hd : o.dst = some t) (ht : t < st.sl.length) : ∀ m, w < m → m ≤ n → (txt E call G l st m).sl[t]? = some p.1
 | 0, h, _ => by omega
 | m + 1, h, hm => by
  obtain ⟨o', p', hp'⟩ := hv m (by omega)
  rw [hp'.succ, aft_sl]
  by_cases hwm : w = m
  ·subst hwm
   obtain ⟨rfl, rfl⟩ := hp.uniq hp'
   rw [if_pos hd, if_pos (by rw [txt_len]; exact ht)]
  ·rw [if_neg (fun hd' => hwm (H.uniq w m o o' t hw (by omega) hp.1 hp'.1 hd hd'))]
   exact txt_wr H hv hp hw hd ht m (by omega) (by omega)
theorem txt_un {l : List Oper} {st : St} {n : Nat} (hv : ∀ j, j < n → ∃ o p, Val E call G l st j o p) {t : Nat} : ∀ m, m ≤ n → (∀ w o, w < m → l[w]? = some o → o.dst ≠ some t) → (txt E call G l st m).sl[t]? = st.sl[t]?
 | 0, _, _ => rfl
 | m + 1, hm, h => by
  obtain ⟨o', p', hp'⟩ := hv m (by omega)
  rw [hp'.succ, aft_sl, if_neg (h m o' (by omega) hp'.1)]
  exact txt_un hv m (by omega) fun w o hw => h w o (by omega)
theorem txt_part {l : List Oper} {st : St} {n : Nat} (H : HeadW E G l n W) (SO : Stores E call G l st n W) (hv : ∀ j, j < n → ∃ o p, Val E call G l st j o p) : ∀ j, j ≤ n → Part E call G l st n (· < j) (txt E call G l st j)
 | 0, _ => Part.start (fun j _ h => by omega)
 | j + 1, hj => by
  obtain ⟨o, p, hp⟩ := hv j (by omega)
  rw [hp.succ]
  refine (txt_part H SO hv j (by omega)).step (L' := (· < j + 1)) SO (by omega) (by omega) hp (fun i => by omega) (fun i o' t hi h1 h2 h3 => H.uniq i j o' o t hi (by omega) h1 hp.1 h2 h3) hp.2.2.2 (fun hs k o' p' i hk hkj hp' hs' hi => ?_)
  cases hg : Sig.get i p'.2 with
  | none => rfl
  | some b =>
   have := (SO.made k j o' o p' p i hk (by omega) hp' hp hs' hs (by rw [hg]; rfl) hi).1
   omega
theorem eval_of_slot {sl sl' : List AV} {x : Operand} (h : ∀ t, x = .tmp t → sl'[t]? = sl[t]?) : evalO sl' x = evalO sl x := by
 cases x with
 | tmp t => simp only [evalO, List.getD_eq_getElem?_getD, h t rfl]
 | _ => rfl
theorem part_hop {l : List Oper} {st s : St} {n j : Nat} {L : Nat → Prop} {o : Oper} {p : AV × Sig} (H : HeadW E G l n W) (SO : Stores E call G l st n W) (hv : ∀ j, j < n → ∃ o p, Val E call G l st j o p) (h : Part E call G l st n L s)
  (hj : j < n) (hp : Val E call G l st j o p) (hn : ¬ L j) (hcl : ∀ a b, a < n → b < n → L a → W a b = true → L b) (hrd : ∀ k, k < n → W j k = true → L k)
  (hdom : ∀ (i : Nat) (v : AV) (d : Nat), s.sl[i]? = some v → v.uses d = true → (s.sg.get d).isSome = true) : gop E call G s.sg (evalO s.sl) o = some p ∧ (isSt o = false → ∀ q ∈ p.2, s.sg.get q.1 = none) ∧
  (isSt o = false → ∀ k o' p' i, k < n → L k → Val E call G l st k o' p' → isSt o' = true → (Sig.get i p.2).isSome = true → Sig.get i p'.2 = none) := by
 have hT := txt_part H SO hv j (by omega)
 have hN := txt_part H SO hv n (Nat.le_refl _)
 have slot : ∀ t, .tmp t ∈ opn G o → s.sl[t]? = (txt E call G l st j).sl[t]? := by
  intro t ht
  by_cases hw : ∃ k o', k < n ∧ l[k]? = some o' ∧ o'.dst = some t
  ·obtain ⟨k, o', hk, ho', hd⟩ := hw
   obtain ⟨o2, p2, hp2⟩ := hv k hk
   have : o2 = o' := Option.some.inj (hp2.1.symm.trans ho')
   subst this
   rcases H.reads j k o o2 t hj hk hp.1 hp2.1 hd ht with ⟨hlt, hwt⟩ | ⟨hlt, hwt⟩
   ·by_cases htl : t < st.sl.length
    ·rw [h.wr k o2 p2 t hk (hrd k hk hwt) hp2 hd htl, hT.wr k o2 p2 t hk hlt hp2 hd htl]
    ·rw [List.getElem?_eq_none (by rw [h.len]; exact Nat.le_of_not_lt htl), List.getElem?_eq_none (by rw [hT.len]; exact Nat.le_of_not_lt htl)]
   ·have hnk : ¬ L k := fun hl => hn (hcl k j hk hj hl hwt)
    rw [h.un t fun i oi hi hl ho hdi => hnk (by rw [H.uniq k i o2 oi t hk hi hp2.1 ho hd hdi]; exact hl), hT.un t fun i oi hi hl ho hdi => by
     have := H.uniq k i o2 oi t hk hi hp2.1 ho hd hdi
     omega]
  ·rw [h.un t fun i oi hi hl ho hdi => hw ⟨i, oi, hi, ho, hdi⟩, hT.un t fun i oi hi hl ho hdi => hw ⟨i, oi, hi, ho, hdi⟩]
 have hev : ∀ x ∈ opn G o, evalO s.sl x = evalO (txt E call G l st j).sl x := fun x hx => eval_of_slot fun t ht => slot t (ht ▸ hx)
 have made : isSt o = false → ∀ k o' p' i, k < n → L k → Val E call G l st k o' p' → isSt o' = true → (Sig.get i p.2).isSome = true → Sig.get i p'.2 = none := by
  intro hs k o' p' i hk hl hp' hs' hi
  cases hg : Sig.get i p'.2 with
  | none => rfl
  | some b => exact absurd (hcl k j hk hj hl (SO.made k j o' o p' p i hk hj hp' hp hs' hs (by rw [hg]; rfl) hi).2) hn
 cases hs : isSt o with
 | true =>
  refine ⟨?_, (fun h => by cases h), (fun h => by cases h)⟩
  obtain ⟨ty, u, v, hop', hgd⟩ := st_head hs hp.2.1
  have hg := hp.2.2.1
  unfold gop sop at hg ⊢
  simp only [hgd, hop'] at hg ⊢
  have hua : .tmp u ∈ opn G o := List.mem_append_right _ (by rw [hop']; simp [Op.operands])
  have huv : v ∈ opn G o := List.mem_append_right _ (by rw [hop']; simp [Op.operands])
  rw [hev _ hua, hev _ huv]
  obtain ⟨i, c, b, b', hx, hb, rfl, hgo⟩ := hst_spec hg
  refine hgo s.sg ?_
  have no : ∀ M : Nat → Prop, ¬ M j → ∀ b', ¬ Stored E call G l st n M i b' := by
   rintro M hM b2 ⟨k, o', p', h1, h2, h3, h4, h5⟩
   have := SO.one j k o o' _ p' i hj h1 hp h3 hs h4 (by simp [Sig.get]) (by rw [h5]; rfl)
   subst this
   exact hM h2
  rcases (hT.sg i b).1 hb with h1 | ⟨_, h1⟩
  ·exact absurd h1 (no _ (by omega) b)
  ·refine (h.sg i b).2 (.inr ⟨no L hn, ?_⟩)
   rcases h1 with h1 | ⟨k, o', p', h1, h2, h3, h4, h5⟩
   ·exact .inl h1
   ·exact .inr ⟨k, o', p', h1, hrd k h1 (SO.made j k o o' _ p' i hj h1 hp h3 hs h4 (by simp [Sig.get]) (by rw [h5]; rfl)).2, h3, h4, h5⟩
 | false =>
 have fresh : ∀ q ∈ p.2, s.sg.get q.1 = none := by
  intro q hq
  have hsome : (Sig.get q.1 p.2).isSome = true := by
   have : ∀ (sg : Sig) (q : Nat × Blk), q ∈ sg → (sg.get q.1).isSome = true := by
    intro sg
    induction sg with
    | nil => intro q hq; cases hq
    | cons a r ih =>
     intro q hq
     obtain ⟨i, c⟩ := a
     simp only [Sig.get]
     cases hb : (i == q.1) with
     | true => rfl
     | false =>
      rcases List.mem_cons.1 hq with rfl | hq
      ·simp at hb
      ·exact ih q hq
   exact this p.2 q hq
  cases hsg : s.sg.get q.1 with
  | none => rfl
  | some b =>
   have h0 := hp.2.2.2 hs q hq
   rcases (h.sg q.1 b).1 hsg with ⟨k, o', p', h1, h2, h3, h4, h5⟩ | ⟨_, h1 | ⟨k, o', p', h1, h2, h3, h4, h5⟩⟩
   ·rw [made hs k o' p' q.1 h1 h2 h3 h4 hsome] at h5
    cases h5
   ·have := txt_some hv SO.shape (i := q.1) (Nat.zero_le j) (by omega) (by show (st.sg.get q.1).isSome = true; rw [h1]; rfl)
    rw [h0] at this; cases this
   ·rcases Nat.lt_trichotomy k j with hlt | heq | hgt
    ·have := txt_some hv SO.shape (i := q.1) (show k + 1 ≤ j by omega) (by omega) (txt_made h3 h4 (by rw [h5]; rfl))
     rw [h0] at this; cases this
    ·subst heq; exact absurd h2 hn
    ·have h6 := h3.2.2.2 h4 _ (Sig.get_mem h5)
     have := txt_some hv SO.shape (i := q.1) (show j + 1 ≤ k by omega) (by omega) (txt_made hp hs hsome)
     simp only at h6
     rw [h6] at this; cases this
 refine ⟨gop_agree hs hp.2.2.1 hev (fun x hx i b hu hb => ?_) fresh, fun _ => fresh, fun _ => made hs⟩
 cases x with
 | tmp t =>
  simp only [evalO, List.getD_eq_getElem?_getD] at hu
  cases ht : (txt E call G l st j).sl[t]? with
  | none => rw [ht] at hu; cases hu
  | some v =>
   rw [ht] at hu
   have no : ∀ M : Nat → Prop, ∀ b', ¬ Stored E call G l st n M i b' := by
    rintro M b2 ⟨k, o', p', h1, h2, h3, h4, h5⟩
    have hkj : k ≠ j := by
     rintro rfl
     obtain ⟨rfl, _⟩ := hp.uniq h3
     rw [hs] at h4; cases h4
    have := SO.free k j o' o p' i t v h1 hj hkj h3 hp.1 h4 (by rw [h5]; rfl) hx ht
    have hu : v.uses i = true := hu
    rw [this] at hu; cases hu
   obtain ⟨b', hb'⟩ := Option.isSome_iff_exists.1 (hdom t v i (by rw [slot t hx]; exact ht) hu)
   have up : ∀ (M : Nat → Prop) b, Made E call G l st n M i b → (txt E call G l st n).sg.get i = some b := fun M b hm => (hN.sg i b).2 (.inr ⟨no _, hm.imp id fun ⟨k, o', p', h1, _, h3⟩ => ⟨k, o', p', h1, h1, h3⟩⟩)
   have m1 : (txt E call G l st n).sg.get i = some b := by
    rcases (hT.sg i b).1 hb with h1 | ⟨_, h1⟩
    ·exact absurd h1 (no _ b)
    ·exact up _ b h1
   have m2 : (txt E call G l st n).sg.get i = some b' := by
    rcases (h.sg i b').1 hb' with h1 | ⟨_, h1⟩
    ·exact absurd h1 (no _ b')
    ·exact up _ b' h1
   rw [m1] at m2
   cases m2
   exact hb'
 | const v =>
  exfalso
  have : ∀ v : Value, (ofVal v).uses i = false := by
   intro v
   have hc1 : ∀ v c, ofCell v = some c → c.uses i = false := by
    intro v c h
    unfold ofCell at h
    split at h <;> first | (cases h; done) | (cases h; rfl) | skip
    ·split at h
     ·cases h; rfl
     ·cases h
   have hcs : ∀ vs cs, ofCells vs = some cs → ∀ c ∈ cs, c.uses i = false := by
    intro vs
    induction vs with
    | nil => intro cs h c hc; cases h; cases hc
    | cons a vs ih =>
     intro cs h c hc
     simp only [ofCells, Option.bind_eq_some_iff, Option.some.injEq] at h
     obtain ⟨c1, h1, cs1, h2, rfl⟩ := h
     rcases List.mem_cons.1 hc with rfl | hc
     ·exact hc1 _ _ h1
     ·exact ih _ h2 _ hc
   unfold ofVal
   split
   ·split
    ·rename_i l hl
     simp only [AV.uses]
     rw [List.any_eq_false]
     intro c hc
     simp [hcs _ _ hl c hc]
    ·rfl
   ·split <;> rfl
   ·split
    ·rename_i c hc; exact hc1 _ _ hc
    ·rfl
  have h2 := this v
  simp only [evalO] at hu
  rw [h2] at hu
  cases hu
 | func f => simp [evalO, AV.uses, Cell.uses] at hu
 | global g => simp [evalO, AV.uses, Cell.uses] at hu
theorem runN_spec {l : List Oper} {st : St} : ∀ {n : Nat} {s : St}, runN E call l st n = some s → s = txt E call l l st n ∧ ∀ j o, j < n → l[j]? = some o → (gop E call l (txt E call l l st j).sg (evalO (txt E call l l st j).sl) o).isSome = true
 | 0, s, h => by cases h; exact ⟨rfl, fun j o hj => by omega⟩
 | n + 1, s, h => by
  simp only [runN] at h
  split at h
  ·rename_i s0 h0
   obtain ⟨rfl, ih⟩ := runN_spec h0
   split at h
   ·rename_i o ho
    split at h
    ·rename_i p hp
     cases h
     refine ⟨by simp only [txt, ho, hp], fun j o' hj ho' => ?_⟩
     by_cases hjn : j = n
     ·subst hjn
      rw [ho] at ho'; cases ho'
      rw [hp]; rfl
     ·exact ih j o' (by omega) ho'
    ·cases h
   ·cases h
  ·cases h
theorem noUse_spec {t k : Nat} {sl : List AV} (h : noUse t sl k = true) {u : Nat} {v : AV} (hu : sl[u]? = some v) (hk : u ≠ k) : v.uses t = false := by
 have hlt := (List.getElem?_eq_some_iff.1 hu).1
 have := List.all_eq_true.1 h u (List.mem_range.2 hlt)
 simp only [Bool.or_eq_true, beq_iff_eq, Bool.not_eq_true', List.getD_eq_getElem?_getD, hu, Option.getD_some] at this
 exact this.resolve_left hk
theorem alloc_val {l : List Oper} {st : St} {j : Nat} {o : Oper} {p : AV × Sig} {T : TypeId} (hp : Val E call l l st j o p) (ho : o.op = .alloc T) (hg : o.guard = none) : ∃ d b, o.dst = some d ∧ p = (.one (.ptr d 0 0), [(d, b)]) := by
 have h := hp.2.2.1
 unfold gop sop hop at h
 simp only [hg, ho, qop] at h
 split at h
 ·simp only [bifs] at h
  split at h
  ·rename_i d _ _ _ _ hd _ _
   cases h
   exact ⟨d, _, hd, rfl⟩
  ·cases h
 ·cases h
theorem stores_of {l : List Oper} {st : St} {n : Nat} (H : HeadOk E l n) (hv : ∀ j, j < n → ∃ o p, Val E call l l st j o p) (hd : dynB E call l st n = true) : Stores E call l l st n (Region.waitsFor .any l.toArray) := by
 have sto : ∀ j o p, j < n → Val E call l l st j o p → isSt o = true → ∃ t, (∃ b, p.2 = [(t, b)]) ∧ ((txt E call l l st j).sg.get t).isSome = true ∧ (∃ k ok pk b, k < j ∧ Region.waitsFor .any l.toArray j k = true ∧ Val E call l l st k ok pk ∧ isSt ok = false ∧ pk.2 = [(t, b)]) ∧
   (∀ m om, m < n → m ≠ j → l[m]? = some om → .tmp t ∉ opn l om) ∧ .tmp t ∈ opn l o ∧ (∀ (u : Nat) (v : AV), st.sl[u]? = some v → v.uses t = false) ∧ (∀ (u : Nat) (v : AV), (txt E call l l st n).sl[u]? = some v → u ≠ t → v.uses t = false) := by
  intro j o p hj hp hs
  obtain ⟨T, t, x, hop', hgd⟩ := st_head hs hp.2.1
  have h1 := List.all_eq_true.1 H.sto j (List.mem_range.2 hj)
  rw [hp.1] at h1
  simp only [storeB, hop', Bool.and_eq_true, List.any_eq_true, List.mem_range, List.all_eq_true] at h1
  obtain ⟨⟨k, hkn, ⟨hkj, hw⟩, hal⟩, hoth⟩ := h1
  simp only [decide_eq_true_eq] at hkj
  obtain ⟨ok, pk, hpk⟩ := hv k hkn
  rw [hpk.1] at hal
  simp only at hal
  split at hal
  ·rename_i Ta hka
   simp only [Bool.and_eq_true, Option.isNone_iff_eq_none, beq_iff_eq] at hal
   obtain ⟨d, bk, hdk, hpk'⟩ := alloc_val hpk hka hal.1
   have : d = t := Option.some.inj (hdk.symm.trans hal.2)
   subst this
   have hg := hp.2.2.1
   unfold gop sop at hg
   simp only [hgd, hop'] at hg
   obtain ⟨i, c, b, b', hx, hb, rfl, _⟩ := hst_spec hg
   have hdl : d < st.sl.length := by
    rcases Nat.lt_or_ge d st.sl.length with h | h
    ·exact h
    ·exfalso
     simp only [evalO, List.getD_eq_getElem?_getD] at hx
     rw [List.getElem?_eq_none (by rw [txt_len]; exact h)] at hx
     cases hx
   have hsl := txt_wr H.w hv hpk hkn hdk hdl j hkj (by omega)
   rw [evalO_tmp hsl, hpk'] at hx
   cases hx
   have hda : aloneB l n st (txt E call l l st n) = true := by
    unfold dynB at hd
    rw [Bool.or_eq_true] at hd
    rcases hd with hd | hd
    ·exfalso
     have := List.all_eq_true.1 hd o (List.mem_take_iff_getElem.2 ⟨j, by have := H.lt; omega, by
      have := hp.1
      rw [List.getElem?_eq_some_iff] at this
      exact this.2⟩)
     rw [hs] at this; cases this
    ·split at hd
     ·rename_i s hrun
      rw [(runN_spec hrun).1] at hd
      exact hd
     ·cases hd
   have hdo := List.all_eq_true.1 hda o (List.mem_take_iff_getElem.2 ⟨j, by have := H.lt; omega, by
      have := hp.1
      rw [List.getElem?_eq_some_iff] at this
      exact this.2⟩)
   simp only [hop', Bool.and_eq_true] at hdo
   refine ⟨d, ⟨_, rfl⟩, by rw [hb]; rfl, ⟨k, ok, pk, bk, hkj, hw, hpk, by unfold isSt; rw [hka], by rw [hpk']⟩, fun m om hm hmj hom hmem => ?_, List.mem_append_right _ (by rw [hop']; simp [Op.operands]), fun u v hu => noUse_spec hdo.1 hu (by have := (List.getElem?_eq_some_iff.1 hu).1; omega), fun u v hu hne => noUse_spec hdo.2 hu hne⟩
   have h2 := hoth m hm
   rw [hom] at h2
   simp only [Bool.or_eq_true, beq_iff_eq, Bool.not_eq_true'] at h2
   rcases h2 with h2 | h2
   ·exact hmj h2
   ·rw [List.any_eq_false] at h2
    exact absurd (h2 _ hmem) (by simp)
  ·cases hal
 have hsh : ∀ j o p, j < n → Val E call l l st j o p → isSt o = true → ∃ i b, p.2 = [(i, b)] ∧ ((txt E call l l st j).sg.get i).isSome = true := by
  intro j o p hj hp hs
  obtain ⟨t, ⟨b, h1⟩, h2, _⟩ := sto j o p hj hp hs
  exact ⟨t, b, h1, h2⟩
 have key : ∀ {i t : Nat} {b : Blk}, (Sig.get i [(t, b)]).isSome = true → i = t := by
  intro i t b h
  simp only [Sig.get] at h
  cases hb : (t == i) with
  | true => exact (eq_of_beq hb).symm
  | false => rw [hb] at h; cases h
 refine ⟨fun j k o o' p p' i hj hk hp hp' hs hs' hi hi' => ?_, fun j k o o' p p' i hj hk hp hp' hs hs' hi hi' => ?_, fun j m o o' p i u v hj hm hjm hp ho' hs hi hu hv' => ?_, hsh⟩
 ·obtain ⟨t, ⟨b, h1⟩, _, _, h4, _⟩ := sto j o p hj hp hs
  obtain ⟨t', ⟨b', h1'⟩, _, _, _, h5', _⟩ := sto k o' p' hk hp' hs'
  rw [h1] at hi
  rw [h1'] at hi'
  have e1 := key hi
  have e2 := key hi'
  subst e1; subst e2
  by_cases hjk : j = k
  ·exact hjk
  ·exact absurd h5' (h4 k o' hk (Ne.symm hjk) hp'.1)
 ·obtain ⟨t, ⟨b, h1⟩, _, ⟨k0, ok, pk, bk, g1, g2, g3, g4, g5⟩, _⟩ := sto j o p hj hp hs
  rw [h1] at hi
  have e1 := key hi
  subst e1
  have hk0 : (Sig.get i pk.2).isSome = true := by rw [g5]; simp [Sig.get]
  have fresh : ∀ a ao ap, Val E call l l st a ao ap → isSt ao = false → (Sig.get i ap.2).isSome = true → (txt E call l l st a).sg.get i = none := by
   intro a ao ap ha hs0 hi0
   obtain ⟨b0, hb0⟩ := Option.isSome_iff_exists.1 hi0
   exact ha.2.2.2 hs0 _ (Sig.get_mem hb0)
  rcases Nat.lt_trichotomy k k0 with hlt | heq | hgt
  ·have := txt_some hv hsh (i := i) (show k + 1 ≤ k0 by omega) (by omega) (txt_made hp' hs' hi')
   rw [fresh k0 ok pk g3 g4 hk0] at this; cases this
  ·subst heq; exact ⟨g1, g2⟩
  ·have := txt_some hv hsh (i := i) (show k0 + 1 ≤ k by omega) (by omega) (txt_made g3 g4 hk0)
   rw [fresh k o' p' hp' hs' hi'] at this; cases this
 ·obtain ⟨t, ⟨b, h1⟩, _, _, h4, _, h6, h7⟩ := sto j o p hj hp hs
  rw [h1] at hi
  have e1 := key hi
  subst e1
  have hut : u ≠ i := by
   rintro rfl
   exact h4 m o' hm (Ne.symm hjm) ho' hu
  have hul : u < st.sl.length := by
   have := (List.getElem?_eq_some_iff.1 hv').1
   rw [txt_len] at this
   exact this
  by_cases hw : ∃ w ow, w < m ∧ l[w]? = some ow ∧ ow.dst = some u
  ·obtain ⟨w, ow, hwm, how, hdw⟩ := hw
   obtain ⟨o2, p2, hp2⟩ := hv w (by omega)
   have : o2 = ow := Option.some.inj (hp2.1.symm.trans how)
   subst this
   rw [txt_wr H.w hv hp2 (by omega) hdw hul m hwm (by omega)] at hv'
   cases hv'
   exact h7 u _ (txt_wr H.w hv hp2 (by omega) hdw hul n (by omega) (Nat.le_refl _)) hut
  ·rw [txt_un hv m (by omega) fun w ow hwm how hdw => hw ⟨w, ow, hwm, how, hdw⟩] at hv'
   exact h6 u v hv'
end
end Go.Proofs.Ytakmjjikiefheaa.Lib
