/- An interpreter Nq plain values for translated functions, and that it says what the model does (calls, statements, loops, arguments). No condition. -/
import Derived.Test.YtahlaccdpmddbaaGreatVmLibOne
import Derived.KernelRfl
namespace Go.Proofs.YtahlaccdpmddbaaGreat.Lib
open Go Go.RowKit
set_option linter.unusedVariables false
set_option linter.unusedSimpArgs false
theorem aO.app {α β : Type} {R : α -> β -> Prop} {l l' : List α} {m m' : List β} (h : aO R l m) (h' : aO R l' m') : aO R (l ++ l') (m ++ m') := h.append h'
def aE.strict (ρ : aE) : aE := ⟨ρ.loc, fun _ => ρ.ok false⟩
theorem yp {ρ : aE} {w : World} {c : Cell} {v : Value} (hn : c.fy = true) (h : rc ρ w c v) : rc ρ.strict w c v := by
 cases c with
 | emb e t l b =>
  have : b = false := by simpa [Cell.fy] using hn
  subst this; exact h
 | eptr t x c b =>
  have : b = false := by simpa [Cell.fy] using hn
  subst this; exact h
 | fn f caps =>
  have : caps = [] := by simpa [Cell.fy] using hn
  subst this
  obtain ⟨vs, h0, h1⟩ := h
  cases h1
  exact ⟨_, h0, .nil⟩
 | _ => exact h
theorem oM {ρ : aE} {w : World} {cs : List Cell} {vs : List Value} (hn : cs.all (·.fy) = true) (h : aO (rc ρ w) cs vs) : aO (rc ρ.strict w) cs vs :=
 h.imp fun c v hc h => yp (List.all_eq_true.1 hn c hc) h
theorem M0 {ρ : aE} {w : World} {x : AV} {v : Value} (hn : x.fy = true) (h : rav ρ w x v) : rav ρ.strict w x v := by
 cases x with
 | one c => exact yp hn h
 | agg cs => obtain ⟨vs, h0, h1⟩ := h; exact ⟨vs, h0, oM hn h1⟩
 | tup ps =>
  obtain ⟨vs, h0, h1⟩ := h
  refine ⟨vs, h0, h1.imp fun q v hq h => ?_⟩
  have hq := List.all_eq_true.1 hn q hq
  obtain ⟨g, cs⟩ := q
  cases g with
  | true => obtain ⟨vs, h0, h1⟩ := h; exact ⟨vs, h0, oM hq h1⟩
  | false => obtain ⟨c, rfl, h⟩ := h; exact ⟨c, rfl, yp (by simpa using hq) h⟩
theorem Nj {ρ : aE} {w : World} {j : Nat} {b : Blk} (hn : b.fy = true) (h : ku ρ w j b) : ku ρ.strict w j b := by
 cases b with
 | box t cs => obtain ⟨g, vs, h0, h1, h2⟩ := h; exact ⟨g, vs, h0, h1, oM hn h2⟩
 | arr e t l b =>
  have : b = false := by simpa [Blk.fy] using hn
  subst this; exact h
 | fro e t l b =>
  have : b = false := by simpa [Blk.fy] using hn
  subst this; exact h
theorem wE {ρ ρ' : aE} {w : World} {d : Nat} {c : Cell} {v : Value} (hl : ∀ j, c.ak j = true -> ρ'.loc (j + d) = ρ.loc j) (ho : ρ'.ok = ρ.ok) (h : rc ρ w c v) : rc ρ' w (c.shift d) v := by
 cases c with
 | emb e t l b => rw [show Cell.shift d (.emb e t l b) = .emb e t l b from rfl]; unfold rc at h ⊢; rw [ho]; exact h
 | sl j =>
  obtain ⟨g, sz, h⟩ := h
  exact ⟨g, sz, (hl j (by simp [Cell.ak])).trans h⟩
 | sub j o n =>
  obtain ⟨A, m, c, g, sz, h, h1⟩ := h
  exact ⟨A, m, c, g, sz, (hl j (by simp [Cell.ak])).trans h, h1⟩
 | ptr j i c =>
  have hl := hl j (by simp [Cell.ak])
  rcases h with ⟨h0, g, h, h1⟩ | ⟨a, m, cp, g, sz, h, h1⟩
  ·exact .inl ⟨h0, g, hl.trans h, h1⟩
  ·exact .inr ⟨a, m, cp, g, sz, hl.trans h, h1⟩
 | eptr t x c b =>
  obtain ⟨a, h, h1⟩ := h
  exact ⟨a, by rw [ho]; exact h, h1⟩
 | fn f caps =>
  obtain ⟨vs, h, h1⟩ := h
  exact ⟨vs, h, h1.imp fun p u _ ⟨a, h, h2⟩ => ⟨a, by rw [ho]; exact h, h2⟩⟩
 | fnp f js =>
  obtain ⟨vs, h, h1⟩ := h
  exact ⟨vs, h, h1.dD _ fun j u hj ⟨g, h, h2⟩ => ⟨g, (hl j (by simp [Cell.ak, hj])).trans h, h2⟩⟩
 | _ => exact h
theorem mN {ρ ρ' : aE} {w : World} {d : Nat} {cs : List Cell} {vs : List Value} (hl : ∀ j, cs.any (·.ak j) = true -> ρ'.loc (j + d) = ρ.loc j) (ho : ρ'.ok = ρ.ok) (h : aO (rc ρ w) cs vs) : aO (rc ρ' w) (cs.map (·.shift d)) vs :=
 h.dD _ fun c v hc h => wE (fun j hj => hl j (List.any_eq_true.2 ⟨c, hc, hj⟩)) ho h
theorem L4 {ρ ρ' : aE} {w : World} {d : Nat} {x : AV} {v : Value} (hl : ∀ j, x.ak j = true -> ρ'.loc (j + d) = ρ.loc j) (ho : ρ'.ok = ρ.ok) (h : rav ρ w x v) : rav ρ' w (x.shift d) v := by
 cases x with
 | one c => exact wE hl ho h
 | agg cs => obtain ⟨vs, h0, h1⟩ := h; exact ⟨vs, h0, mN hl ho h1⟩
 | tup ps =>
  obtain ⟨vs, h0, h1⟩ := h
  refine ⟨vs, h0, h1.dD _ fun q v hq h => ?_⟩
  have hl' : ∀ j, q.2.any (·.ak j) = true -> ρ'.loc (j + d) = ρ.loc j := fun j hj => hl j (List.any_eq_true.2 ⟨q, hq, hj⟩)
  obtain ⟨g, cs⟩ := q
  cases g with
  | true => obtain ⟨vs, h0, h1⟩ := h; exact ⟨vs, h0, mN hl' ho h1⟩
  | false => obtain ⟨c, rfl, h⟩ := h; exact ⟨c.shift d, rfl, wE (fun j hj => hl' j (by simpa using hj)) ho h⟩
theorem wU {d i : Nat} {c : Cell} (h : (c.shift d).ak i = true) : ∃ j, i = j + d /\ c.ak j = true := by
 cases c with
 | sl j => have h : (j + d == i) = true := h; exact ⟨j, (eq_of_beq h).symm, by simp [Cell.ak]⟩
 | sub j o n => have h : (j + d == i) = true := h; exact ⟨j, (eq_of_beq h).symm, by simp [Cell.ak]⟩
 | ptr j k c => have h : (j + d == i) = true := h; exact ⟨j, (eq_of_beq h).symm, by simp [Cell.ak]⟩
 | fnp f js =>
  have h : (js.map (· + d)).contains i = true := h
  simp only [List.contains_eq_mem, List.mem_map, decide_eq_true_eq] at h
  obtain ⟨j, h1, h2⟩ := h
  exact ⟨j, h2.symm, by simp [Cell.ak, h1]⟩
 | _ => cases h
theorem vc {d i : Nat} {cs : List Cell} (h : (cs.map (·.shift d)).any (·.ak i) = true) : ∃ j, i = j + d /\ cs.any (·.ak j) = true := by
 obtain ⟨c, hc, h⟩ := List.any_eq_true.1 h
 obtain ⟨c', hc', rfl⟩ := List.mem_map.1 hc
 obtain ⟨j, h1, h2⟩ := wU h
 exact ⟨j, h1, List.any_eq_true.2 ⟨c', hc', h2⟩⟩
theorem Sk {d i : Nat} {x : AV} (h : (x.shift d).ak i = true) : ∃ j, i = j + d /\ x.ak j = true := by
 cases x with
 | one c => exact wU h
 | agg cs => exact vc h
 | tup ps =>
  obtain ⟨q, hq, h⟩ := List.any_eq_true.1 h
  obtain ⟨q', hq', rfl⟩ := List.mem_map.1 hq
  obtain ⟨j, h1, h2⟩ := vc h
  exact ⟨j, h1, List.any_eq_true.2 ⟨q', hq', h2⟩⟩
theorem Iw {ρ ρ' : aE} {w : World} {d j : Nat} {b : Blk} (hj : ρ'.loc (j + d) = ρ.loc j) (hl : ∀ i, b.ak i = true -> ρ'.loc (i + d) = ρ.loc i) (ho : ρ'.ok = ρ.ok) (h : ku ρ w j b) : ku ρ' w (j + d) (b.shift d) := by
 cases b with
 | box t cs => obtain ⟨g, vs, h0, h1, h2⟩ := h; exact ⟨g, vs, hj.trans h0, h1, mN hl ho h2⟩
 | arr e t l b =>
  obtain ⟨v, g, xs, h0, h1, h2⟩ := h
  exact ⟨v, g, xs, hj.trans h0, by rw [ho]; exact h1, h2⟩
 | fro e t l b =>
  obtain ⟨v, g, h0, h1⟩ := h
  exact ⟨v, g, hj.trans h0, by rw [ho]; exact h1⟩
section
variable {P : Program} {E : Env} {B : Nat} {O : Ow} {w0 w w' : World} {ρ ρ' : aE} {a : Act} {R : Type} {r : R} {sg sg' : Sig} {st : St}
def aE.wh (ρ : aE) (sg : Sig) (own : Bool) : aE := ⟨ρ.loc, fun q k => ρ.ok q k ∨ (q = true /\ own = true /\ ∃ j, bE ρ sg j k)⟩
theorem mm (hE : Env.Ok P E) (h : Mem B O ρ sg w) {own : Bool} (ho : own = true) : ∀ {js : List Nat} {us : List Value} {l : List ((t : Ty) × t.T)}, aO (fun j u => ∃ g, ρ.loc j = .box g /\ u = .pointer (some ⟨g, 0, none⟩)) js us -> eQ E sg js = some l ->
  aO (fun (p : (t : Ty) × t.T) u => ∃ a, Mn ((ρ.wh sg own).ok true) w p.1 p.2 a /\ u = .pointer (some a)) l us
 | [], us, l, hj, hl => by
  simp only [eQ, Option.some.injEq] at hl
  subst hl
  cases hj
  exact .nil
 | j :: js, us, l, hj, hl => by
  cases hj with
  | cons h0 h1 =>
  simp only [eQ] at hl
  split at hl
  ·rename_i ty cs hb
   split at hl
   ·rename_i td sz by_ τ ht
    split at hl
    ·rename_i x hx
     split at hl
     ·rename_i l' hl'
      simp only [Option.some.injEq] at hl
      subst hl
      obtain ⟨g, h2, rfl⟩ := h0
      obtain ⟨g', vs, h3, h4, h5⟩ := h.blk j _ hb
      rw [h2] at h3; cases h3
      refine .cons ⟨⟨g, 0, none⟩, ⟨?_, vs, ?_, ?_⟩, rfl⟩ (mm hE h ho h1 hl')
      ·exact .inr ⟨rfl, ho, j, aC.2 ⟨_, hb, by simp, .inl ⟨ty, cs, rfl, h2⟩⟩⟩
      ·exact (pZ h.okm hx h5).step (fun g hg => .inl hg) (fun _ _ => rfl)
      ·intro q u hq
       rw [XY, Nat.zero_add]
       rw [cell_of_row w g q vs.toArray ty (0, 0) h4]
       simpa using hq
     ·cases hl
    ·cases hl
   ·cases hl
  ·cases hl
theorem xS (hE : Env.Ok P E) (h : Mem B O ρ sg w) {own : Bool} {c c' : Cell} {u : Bool} {v : Value} (hr : rc ρ w c v) (hl : iF E sg c = some (c', u)) (hu : u = true -> own = true) : rc (ρ.wh sg own) w c' v /\ ∀ d, c'.ak d = false := by
 have up : ∀ b g, ρ.ok b g -> (ρ.wh sg own).ok b g := fun b g h => .inl h
 have step : Step (fun _ => True) ρ (ρ.wh sg own) w w := ⟨fun _ _ => rfl, up, fun _ _ _ => rfl⟩
 have upt : ∀ b g, ρ.ok b g -> (ρ.wh sg own).ok true g := fun b g hg => by
  cases b with
  | true => exact .inl hg
  | false => exact .inl (h.okm g hg)
 have arr : ∀ {j : Nat} {e : TypeId} {t : Ty} {l : List t.T} {b : Bool}, sg.get j = some (.arr e t l b) -> own = true -> ∃ v g, ρ.loc j = .arr v g t.sz /\ Rp ((ρ.wh sg own).ok true) w (.sl e t) l [v] := by
  intro j e t l b hj ho
  obtain ⟨v, g, xs, h1, h2, h3⟩ := h.blk j _ hj
  refine ⟨v, g, h1, ?_⟩
  cases g with
  | none =>
   obtain ⟨rfl, A, rfl⟩ := h3
   simp only [Rp]
   exact ⟨A, 0, rfl, Nat.zero_le _, Nat.zero_le _, fun hp => absurd hp (by simp)⟩
  | some g => exact I1 h3.1 h3.2 (.inr ⟨rfl, ho, j, aC.2 ⟨_, hj, by simp, .inr ⟨_, _, _, _, rfl, v, t.sz, h1⟩⟩⟩) (h2.step (upt b) (fun _ _ => rfl))
 unfold iF at hl
 split at hl
 ·rename_i j
  split at hl
  ·rename_i e t l b hj
   cases hl
   obtain ⟨v', g, h1, h2⟩ := arr hj (hu rfl)
   obtain ⟨g', sz, h3⟩ := hr
   rw [h1] at h3; cases h3
   exact ⟨h2, fun _ => rfl⟩
  ·rename_i e t l b hj
   cases hl
   exact ⟨eH step (fun _ _ => trivial) ((kg h hj).1 v hr), fun _ => rfl⟩
  ·cases hl
 ·rename_i j o n
  split at hl
  ·rename_i e t l b hj
   cases hl
   obtain ⟨v', g, h1, h2⟩ := arr hj (hu rfl)
   obtain ⟨A, m, c, g', sz, h3, h4, h5⟩ := hr
   rw [h1] at h3; cases h3
   have h6 := h2
   simp only [Rp] at h6
   obtain ⟨A', c', h6, _⟩ := h6
   simp only [List.cons.injEq, Value.slice.injEq, and_true] at h6
   obtain ⟨rfl, rfl, rfl⟩ := h6
   exact ⟨I2 h2 h4 h5, fun _ => rfl⟩
  ·rename_i e t l b hj
   cases hl
   exact ⟨eH step (fun _ _ => trivial) ((kg h hj).2 o n v hr), fun _ => rfl⟩
  ·cases hl
 ·rename_i f js
  split at hl
  ·rename_i l hl'
   cases hl
   obtain ⟨vs, h0, h1⟩ := hr
   exact ⟨⟨vs, h0, mm hE h (hu rfl) h1 hl'⟩, fun _ => rfl⟩
  ·cases hl
 ·cases hl
 ·cases hl
 ·rename_i n1 n2 n4 n3 n5
  cases hl
  refine ⟨eH step (fun _ _ => trivial) hr, fun d => ?_⟩
  cases c <;> first | rfl | exact absurd rfl (n1 _) | exact absurd rfl (n2 _ _ _) | exact absurd rfl (n3 _ _ _) | exact absurd rfl (n4 _ _)
theorem mq (hE : Env.Ok P E) (h : Mem B O ρ sg w) {own : Bool} : ∀ {cs cs' : List Cell} {u : Bool} {vs : List Value}, aO (rc ρ w) cs vs -> ek E sg cs = some (cs', u) -> (u = true -> own = true) -> aO (rc (ρ.wh sg own) w) cs' vs /\ ∀ d, cs'.any (·.ak d) = false
 | [], cs', u, vs, hr, hl, hu => by
  simp only [ek, Option.some.injEq, Prod.mk.injEq] at hl
  obtain ⟨rfl, rfl⟩ := hl
  cases hr
  exact ⟨.nil, fun _ => rfl⟩
 | c :: cs, cs', u, vs, hr, hl, hu => by
  cases hr with
  | cons h0 h1 =>
  simp only [ek] at hl
  split at hl
  ·rename_i c1 u1 hc
   split at hl
   ·rename_i cs1 u2 hcs
    simp only [Option.some.injEq, Prod.mk.injEq] at hl
    obtain ⟨rfl, rfl⟩ := hl
    obtain ⟨a1, a2⟩ := xS hE h (own := own) h0 hc (fun hu1 => hu (by simp [hu1]))
    obtain ⟨b1, b2⟩ := mq hE h h1 hcs (fun hu1 => hu (by simp [hu1]))
    exact ⟨.cons a1 b1, fun d => by simp [a2 d, b2 d]⟩
   ·cases hl
  ·cases hl
theorem Cy (hE : Env.Ok P E) (h : Mem B O ρ sg w) {own : Bool} {x x' : AV} {u : Bool} {v : Value} (hr : rav ρ w x v) (hl : Kz E sg x = some (x', u)) (hu : u = true -> own = true) : rav (ρ.wh sg own) w x' v /\ ∀ d, x'.ak d = false := by
 unfold Kz at hl
 split at hl
 ·split at hl
  ·rename_i c1 u1 hc
   simp only [Option.some.injEq, Prod.mk.injEq] at hl
   obtain ⟨rfl, rfl⟩ := hl
   exact xS hE h hr hc hu
  ·cases hl
 ·split at hl
  ·rename_i c1 u1 hc
   simp only [Option.some.injEq, Prod.mk.injEq] at hl
   obtain ⟨rfl, rfl⟩ := hl
   obtain ⟨vs, h0, h1⟩ := hr
   obtain ⟨b1, b2⟩ := mq hE h h1 hc hu
   exact ⟨⟨vs, h0, b1⟩, b2⟩
  ·cases hl
 ·cases hl
theorem pW (hE : Env.Ok P E) (h : Mem B O ρ sg w) {own : Bool} : ∀ {xs xs' : List AV} {u : Bool} {vs : List Value}, aO (rav ρ w) xs vs -> fv E sg xs = some (xs', u) -> (u = true -> own = true) -> aO (rav (ρ.wh sg own) w) xs' vs /\ ∀ x ∈ xs', ∀ d, x.ak d = false
 | [], xs', u, vs, hr, hl, hu => by
  simp only [fv, Option.some.injEq, Prod.mk.injEq] at hl
  obtain ⟨rfl, rfl⟩ := hl
  cases hr
  exact ⟨.nil, fun x hx => by cases hx⟩
 | x :: xs, xs', u, vs, hr, hl, hu => by
  cases hr with
  | cons h0 h1 =>
  simp only [fv] at hl
  split at hl
  ·rename_i c1 u1 hc
   split at hl
   ·rename_i cs1 u2 hcs
    simp only [Option.some.injEq, Prod.mk.injEq] at hl
    obtain ⟨rfl, rfl⟩ := hl
    obtain ⟨a1, a2⟩ := Cy hE h (own := own) h0 hc (fun hu1 => hu (by simp [hu1]))
    obtain ⟨b1, b2⟩ := pW hE h h1 hcs (fun hu1 => hu (by simp [hu1]))
    exact ⟨.cons a1 b1, fun y hy => by
     rcases List.mem_cons.1 hy with rfl | hy
     ·exact a2
     ·exact b2 y hy⟩
   ·cases hl
  ·cases hl
end
end Go.Proofs.YtahlaccdpmddbaaGreat.Lib
namespace Go.Proofs.YtahlaccdpmddbaaGreat.Lib
open Go Go.RowKit
set_option linter.unusedVariables false
set_option linter.unusedSimpArgs false
section
variable {P : Program} {E : Env} {B : Nat} {O : Ow} {w0 w w' : World} {ρ ρ' : aE} {a : Act} {R : Type}
theorem ua (t : Ty) (b : Bool) (x : t.T) (d : Nat) : (t.cells b x).any (·.ak d) = false := by
 induction t with
 | pair a c iha ihc => simp only [Ty.cells, List.any_append, iha, ihc]; rfl
 | _ => rfl
theorem Tys.sound : ∀ {ts : List Ty} {cs : List ((t : Ty) × t.T)} {k : Option R} {y : Tys.T ts R}, Tys.cap ts cs k = some y -> (Tys.bld ts y).1 = cs /\ k = some (Tys.bld ts y).2
 | [], cs, k, y, h => by
  cases cs with
  | nil => exact ⟨rfl, h⟩
  | cons c r => cases h
 | t :: ts, cs, k, y, h => by
  cases cs with
  | nil => cases h
  | cons c r =>
   obtain ⟨t', x⟩ := c
   simp only [Tys.cap] at h
   split at h
   ·rename_i ht
    subst ht
    split at h
    ·rename_i y1 h1
     cases h
     obtain ⟨h2, h3⟩ := Tys.sound h1
     exact ⟨by simp only [Tys.bld, h2], h3⟩
    ·cases h
   ·cases h
theorem CPs.sound (hm : ∀ g, ρ.ok false g -> ρ.ok true g) : ∀ {ps : List CP} {cs : List Cell} {k : Option R} {y : CPs.T ps R}, CPs.cap ps cs k = some y -> k = some (CPs.bld ps y).2 /\ (∀ vs, aO (rc ρ w) cs vs -> aO (rc ρ w) (CPs.bld ps y).1 vs)
 | [], cs, k, y, h => by
  cases cs with
  | nil => exact ⟨h, fun vs hv => hv⟩
  | cons c r => cases h
 | .dat t b :: r, cs, k, y, h => by
  simp only [CPs.cap] at h
  split at h
  ·rename_i x cs1 hp
   split at h
   ·rename_i y1 h1
    cases h
    obtain ⟨h2, h3⟩ := CPs.sound hm h1
    refine ⟨h2, fun vs hv => ?_⟩
    obtain ⟨v0, v1, rfl, h4, h5⟩ := ka hm hp hv
    exact (eX h4).append (h3 v1 h5)
   ·cases h
  ·cases h
 | .own j :: r, cs, k, y, h => by
  cases cs with
  | nil => cases h
  | cons c cs =>
   cases c <;> simp only [CPs.cap] at h <;> try (cases h; done)
   rename_i j'
   simp only [aP, beq_iff_eq] at h
   split at h
   ·rename_i hj
    subst hj
    obtain ⟨h2, h3⟩ := CPs.sound hm h
    refine ⟨h2, fun vs hv => ?_⟩
    cases hv with
    | cons h0 h1 => exact .cons h0 (h3 _ h1)
   ·cases h
 | .ptr j c :: r, cs, k, y, h => by
  cases cs with
  | nil => cases h
  | cons cc cs =>
   cases cc <;> simp only [CPs.cap] at h <;> try (cases h; done)
   rename_i j' i' c'
   simp only [aP] at h
   split at h
   ·rename_i hj
    simp only [Bool.and_eq_true, beq_iff_eq] at hj
    obtain ⟨⟨rfl, rfl⟩, rfl⟩ := hj
    obtain ⟨h2, h3⟩ := CPs.sound hm h
    refine ⟨h2, fun vs hv => ?_⟩
    cases hv with
    | cons h0 h1 => exact .cons h0 (h3 _ h1)
   ·cases h
 | .und :: r, cs, k, y, h => by
  cases cs with
  | nil => cases h
  | cons c cs =>
   simp only [CPs.cap] at h
   obtain ⟨h2, h3⟩ := CPs.sound hm h
   refine ⟨h2, fun vs hv => ?_⟩
   cases hv with
   | cons h0 h1 => exact .cons trivial (h3 _ h1)
 | .fnc f ts :: r, cs, k, y, h => by
  cases cs with
  | nil => cases h
  | cons c cs =>
   cases c <;> simp only [CPs.cap] at h <;> try (cases h; done)
   rename_i f' caps
   simp only [aP, beq_iff_eq] at h
   split at h
   ·rename_i hf
    subst hf
    obtain ⟨h4, h5⟩ := Tys.sound h
    obtain ⟨h2, h3⟩ := CPs.sound hm h5
    refine ⟨h2, fun vs hv => ?_⟩
    cases hv with
    | cons h0 h1 =>
     simp only [CPs.bld]
     rw [h4]
     exact .cons h0 (h3 _ h1)
   ·cases h
 | .ept t :: r, cs, k, y, h => by
  cases cs with
  | nil => cases h
  | cons c cs =>
   cases c <;> simp only [CPs.cap] at h <;> try (cases h; done)
   rename_i t' x c b
   split at h
   ·rename_i ht
    subst ht
    simp only [aP, beq_iff_eq] at h
    split at h
    ·rename_i hc
     subst hc
     split at h
     ·rename_i y1 hy
      cases h
      obtain ⟨h2, h3⟩ := CPs.sound hm hy
      refine ⟨h2, fun vs hv => ?_⟩
      cases hv with
      | cons h0 h1 =>
       refine .cons ?_ (h3 _ h1)
       obtain ⟨a, ha, hv⟩ := h0
       refine ⟨a, ha.step (fun g hg => ?_) (fun _ _ => rfl), hv⟩
       cases b with
       | true => exact hg
       | false => exact hm g hg
     ·cases h
    ·cases h
   ·cases h
 | .fnp f js :: r, cs, k, y, h => by
  cases cs with
  | nil => cases h
  | cons cc cs =>
   cases cc <;> simp only [CPs.cap] at h <;> try (cases h; done)
   rename_i f' js'
   simp only [aP] at h
   split at h
   ·rename_i hj
    simp only [Bool.and_eq_true, beq_iff_eq] at hj
    obtain ⟨rfl, rfl⟩ := hj
    obtain ⟨h2, h3⟩ := CPs.sound hm h
    refine ⟨h2, fun vs hv => ?_⟩
    cases hv with
    | cons h0 h1 => exact .cons h0 (h3 _ h1)
   ·cases h
theorem CPs.len {ρ : aE} {w : World} : ∀ {ps : List CP} {y : CPs.T ps R} (d : Nat), (CPs.bld ps y).1.any (·.ak d) = true -> ps.any (·.ak d) = true
 | [], y, d, h => h
 | .dat t b :: r, y, d, h => by
  simp only [CPs.bld, List.any_append, ua, Bool.false_or] at h
  simp only [List.any_cons, CP.ak, Bool.false_or]
  exact CPs.len (ρ := ρ) (w := w) d h
 | .own j :: r, y, d, h => by
  simp only [CPs.bld, List.any_cons, Cell.ak, Bool.or_eq_true] at h
  simp only [List.any_cons, CP.ak, Bool.or_eq_true]
  exact h.imp id (CPs.len (ρ := ρ) (w := w) d)
 | .ptr j c :: r, y, d, h => by
  simp only [CPs.bld, List.any_cons, Cell.ak, Bool.or_eq_true] at h
  simp only [List.any_cons, CP.ak, Bool.or_eq_true]
  exact h.imp id (CPs.len (ρ := ρ) (w := w) d)
 | .und :: r, y, d, h => by
  simp only [CPs.bld, List.any_cons, Cell.ak, Bool.false_or] at h
  simp only [List.any_cons, CP.ak, Bool.false_or]
  exact CPs.len (ρ := ρ) (w := w) d h
 | .fnc f ts :: r, y, d, h => by
  simp only [CPs.bld, List.any_cons, Cell.ak, Bool.false_or] at h
  simp only [List.any_cons, CP.ak, Bool.false_or]
  exact CPs.len (ρ := ρ) (w := w) d h
 | .ept t :: r, y, d, h => by
  simp only [CPs.bld, List.any_cons, Cell.ak, Bool.false_or] at h
  simp only [List.any_cons, CP.ak, Bool.false_or]
  exact CPs.len (ρ := ρ) (w := w) d h
 | .fnp f js :: r, y, d, h => by
  simp only [CPs.bld, List.any_cons, Cell.ak, Bool.or_eq_true] at h
  simp only [List.any_cons, CP.ak, Bool.or_eq_true]
  exact h.imp id (CPs.len (ρ := ρ) (w := w) d)
theorem SPs.sound (hm : ∀ g, ρ.ok false g -> ρ.ok true g) : ∀ {ss : List SP} {vs : List AV} {k : Option R} {y : SPs.T ss R}, SPs.cap ss vs k = some y -> k = some (SPs.bld ss y).2 /\ (SPs.bld ss y).1.length = vs.length /\
  (∀ (i : Nat) (v' : AV), (SPs.bld ss y).1[i]? = some v' -> ∃ v, vs[i]? = some v /\ (∀ u, rav ρ w v u -> rav ρ w v' u) /\ ∀ d, v'.ak d = true -> ss.any (·.ak d) = true)
 | [], vs, k, y, h => by
  cases vs with
  | nil => exact ⟨h, rfl, fun i v' hi => by simp [SPs.bld] at hi⟩
  | cons c r => cases h
 | .und :: r, vs, k, y, h => by
  cases vs with
  | nil => cases h
  | cons v vs =>
   simp only [SPs.cap] at h
   obtain ⟨h1, h2, h3⟩ := SPs.sound hm h
   refine ⟨h1, by simp [SPs.bld, h2], fun i v' hi => ?_⟩
   cases i with
   | zero => simp only [SPs.bld, List.getElem?_cons_zero, Option.some.injEq] at hi; subst hi; exact ⟨v, rfl, fun _ _ => trivial, fun d hd => by cases hd⟩
   | succ i =>
    simp only [SPs.bld, List.getElem?_cons_succ] at hi
    obtain ⟨x, h4, h5, h6⟩ := h3 i v' hi
    exact ⟨x, by simpa using h4, h5, fun d hd => by simp only [List.any_cons, h6 d hd, Bool.or_true]⟩
 | .one p :: r, vs, k, y, h => by
  cases vs with
  | nil => cases h
  | cons v vs =>
   cases v <;> simp only [SPs.cap] at h <;> try (cases h; done)
   rename_i c
   obtain ⟨h0, h0'⟩ := CPs.sound (w := w) hm h
   obtain ⟨h1, h2, h3⟩ := SPs.sound hm h0
   refine ⟨h1, by simp [SPs.bld, h2], fun i v' hi => ?_⟩
   cases i with
   | zero =>
    simp only [SPs.bld, List.getElem?_cons_zero, Option.some.injEq] at hi
    subst hi
    refine ⟨.one c, rfl, fun u hu => ?_, fun d hd => ?_⟩
    ·have := h0' [u] (.cons hu .nil)
     generalize (CPs.bld [p] y).1 = l at this
     cases this with
     | cons h4 h5 => cases h5; exact h4
    ·have hl := CPs.len (ρ := ρ) (w := w) (ps := [p]) (y := y) d
     generalize (CPs.bld [p] y).1 = l at hl hd
     have : l.any (·.ak d) = true := by
      unfold oneOf at hd
      split at hd
      ·simpa [AV.ak] using hd
      ·cases hd
     have := hl this
     simp only [List.any_cons, SP.ak, List.any_nil, Bool.or_false] at this ⊢
     rw [this]; rfl
   | succ i =>
    simp only [SPs.bld, List.getElem?_cons_succ] at hi
    obtain ⟨x, h4, h5, h6⟩ := h3 i v' hi
    exact ⟨x, by simpa using h4, h5, fun d hd => by simp only [List.any_cons, h6 d hd, Bool.or_true]⟩
 | .agg ps :: r, vs, k, y, h => by
  cases vs with
  | nil => cases h
  | cons v vs =>
   cases v <;> simp only [SPs.cap] at h <;> try (cases h; done)
   rename_i cs
   obtain ⟨h0, h0'⟩ := CPs.sound (w := w) hm h
   obtain ⟨h1, h2, h3⟩ := SPs.sound hm h0
   refine ⟨h1, by simp [SPs.bld, h2], fun i v' hi => ?_⟩
   cases i with
   | zero =>
    simp only [SPs.bld, List.getElem?_cons_zero, Option.some.injEq] at hi
    subst hi
    refine ⟨.agg cs, rfl, fun u hu => ?_, fun d hd => ?_⟩
    ·obtain ⟨us, rfl, hus⟩ := hu
     exact ⟨us, rfl, h0' us hus⟩
    ·have := CPs.len (ρ := ρ) (w := w) (ps := ps) (y := y) d hd
     simp only [List.any_cons, SP.ak, this, Bool.true_or]
   | succ i =>
    simp only [SPs.bld, List.getElem?_cons_succ] at hi
    obtain ⟨x, h4, h5, h6⟩ := h3 i v' hi
    exact ⟨x, by simpa using h4, h5, fun d hd => by simp only [List.any_cons, h6 d hd, Bool.or_true]⟩
theorem Ai (hm : ∀ g, ρ.ok false g -> ρ.ok true g) {j : Nat} {e : TypeId} {t : Ty} {l : List t.T} {b b' : Bool} (hb : (!b' || b) = true) (h : ku ρ w j (.arr e t l b')) : ku ρ w j (.arr e t l b) := by
 cases b' with
 | false =>
  cases b with
  | false => exact h
  | true =>
   obtain ⟨v, g, xs, h0, h1, h2⟩ := h
   exact ⟨v, g, xs, h0, h1.step hm (fun _ _ => rfl), h2⟩
 | true => cases b with | true => exact h | false => cases hb
theorem GPs.sound (hm : ∀ g, ρ.ok false g -> ρ.ok true g) {sg : Sig} : ∀ {gs : List (Nat × GP)} {y : GPs.T gs}, GPs.cap gs sg = some y ->
  (∀ j b', (GPs.bld gs y).get j = some b' -> ∃ b, sg.get j = some b /\ (ku ρ w j b -> ku ρ w j b') /\ (∀ g, (match b' with | .box _ _ => ρ.loc j = .box g | .arr _ _ _ _ => ∃ v sz, ρ.loc j = .arr v (some g) sz | _ => False) -> bE ρ sg j g) /\ ∀ d, b'.ak d = true -> gs.any (·.2.ak d) = true) /\
  (∀ d, gs.any (·.1 == d) = true -> ((GPs.bld gs y).get d).isSome = true)
 | [], y, h => by
  constructor
  ·intro j b' hj
   cases hj
  ·intro d hd
   cases hd
 | (i, .arr e t b) :: r, y, h => by
  simp only [GPs.cap] at h
  split at h
  ·rename_i e' t' l b' hg
   split at h
   ·rename_i ht
    subst ht
    simp only [aP] at h
    split at h
    ·rename_i hc
     simp only [Bool.and_eq_true, beq_iff_eq] at hc
     obtain ⟨rfl, hb⟩ := hc
     split at h
     ·rename_i y1 h1
      cases h
      obtain ⟨ih, ih2⟩ := GPs.sound hm h1
      refine ⟨fun j b2 hj => ?_, fun d hd => ?_⟩
      ·simp only [GPs.bld, Sig.get] at hj
       cases hij : (i == j) with
       | true =>
        rw [hij] at hj
        simp only [cond_true, Option.some.injEq] at hj
        have := eq_of_beq hij
        subst this
        subst hj
        exact ⟨_, hg, fun h => Ai hm hb h, fun g hh => by unfold bE; rw [hg]; exact hh, fun d hd => by cases hd⟩
       | false =>
        rw [hij] at hj
        obtain ⟨b3, h3, h4, h5, h6⟩ := ih j b2 (by simpa using hj)
        exact ⟨b3, h3, h4, h5, fun d hd => by simp only [List.any_cons, h6 d hd, Bool.or_true]⟩
      ·simp only [GPs.bld, Sig.get]
       simp only [List.any_cons, Bool.or_eq_true] at hd
       cases hij : (i == d) with
       | true => rfl
       | false => rw [hij] at hd; simpa using ih2 d (by simpa using hd)
     ·cases h
    ·cases h
   ·cases h
  ·cases h
 | (i, .box ty ps) :: r, y, h => by
  simp only [GPs.cap] at h
  split at h
  ·rename_i ty' cs hg
   simp only [aP, beq_iff_eq] at h
   split at h
   ·rename_i hty
    subst hty
    obtain ⟨h0, h0'⟩ := CPs.sound (w := w) hm h
    obtain ⟨ih, ih2⟩ := GPs.sound hm h0
    refine ⟨fun j b2 hj => ?_, fun d hd => ?_⟩
    ·simp only [GPs.bld, Sig.get] at hj
     cases hij : (i == j) with
     | true =>
      rw [hij] at hj
      simp only [cond_true, Option.some.injEq] at hj
      have := eq_of_beq hij
      subst this
      subst hj
      refine ⟨_, hg, fun h => ?_, fun g hh => by unfold bE; rw [hg]; exact hh, fun d hd => ?_⟩
      ·obtain ⟨g, vs, h1, h2, h3⟩ := h
       exact ⟨g, vs, h1, h2, h0' vs h3⟩
      ·have := CPs.len (ρ := ρ) (w := w) (ps := ps) (y := y) d hd
       simp only [List.any_cons, GP.ak, this, Bool.true_or]
     | false =>
      rw [hij] at hj
      obtain ⟨b3, h3, h4, h5, h6⟩ := ih j b2 (by simpa using hj)
      exact ⟨b3, h3, h4, h5, fun d hd => by simp only [List.any_cons, h6 d hd, Bool.or_true]⟩
    ·simp only [GPs.bld, Sig.get]
     simp only [List.any_cons, Bool.or_eq_true] at hd
     cases hij : (i == d) with
     | true => rfl
     | false => rw [hij] at hd; simpa using ih2 d (by simpa using hd)
   ·cases h
  ·cases h
theorem Sim.cap {st : St} {ss : List SP} {gs : List (Nat × GP)} {v : StT ss gs} (h : Sim P B O w0 ρ st a w) (hwf : vp ss gs) (hc : pJ ss gs st = some v) : Sim P B O w0 ρ (ax ss gs v) a w := by
 unfold pJ at hc
 obtain ⟨h1, h2, h3⟩ := SPs.sound (w := w) h.mem.okm hc
 obtain ⟨h4, h5⟩ := GPs.sound (w := w) h.mem.okm h1
 have ho : ∀ j g, bE ρ (ax ss gs v).sg j g -> bE ρ st.sg j g := fun j g hj => by
  unfold bE at hj
  cases hb : (ax ss gs v).sg.get j with
  | none => rw [hb] at hj; exact hj.elim
  | some b' =>
   obtain ⟨b, h6, h7, h8, h9⟩ := h4 j b' hb
   rw [hb] at hj
   exact h8 g (by cases b' <;> exact hj)
 refine ⟨⟨fun j b' hj => ?_, fun i j g hi hj => h.mem.inj i j g (ho i g hi) (ho j g hj), fun j g hj => h.mem.old j g (ho j g hj), h.mem.okb, fun b g hg j hj => h.mem.oko b g hg j (ho j g hj), h.mem.okm, h.mem.okx, h.mem.oky, fun j b' d hj hd => ?_⟩, ?_, fun i v' hi => ?_, fun i v' d hi hd => ?_, h.defers, h.fr, h.base, h.pin, h.glo⟩
 ·obtain ⟨b, h6, h7, _⟩ := h4 j b' hj
  exact h7 (h.mem.blk j b h6)
 ·obtain ⟨b, h6, h7, h8, h9⟩ := h4 j b' hj
  exact h5 d (hwf d (by rw [h9 d hd, Bool.or_true]))
 ·rw [h.len]; exact h2.symm
 ·obtain ⟨x, h6, h7, _⟩ := h3 i v' hi
  obtain ⟨u, h8, h9⟩ := h.sl i x h6
  exact ⟨u, h8, h7 u h9⟩
 ·obtain ⟨x, h6, h7, h8⟩ := h3 i v' hi
  exact h5 d (hwf d (by rw [h8 d hd, Bool.true_or]))
theorem aJ.run_bind {α : Type} (o : aJ α) (k : α -> Option R) : o.run k = (o.run some).bind k := by
 induction o with
 | no => rfl
 | done x => rfl
 | br c a b iha ihb => simp only [aJ.run]; cases c <;> assumption
def A7 (E : Env) (call : bh) (g : FuncId) (args : List AV) : Option (AV × Sig) :=
 match lz args g E.prim with
 | some o => o.run some
 | none => call g args []
theorem wT {call : bh} {g : FuncId} {args : List AV} (k : AV × Sig -> Option R) : OF E call g args k = (A7 E call g args).bind k := by
 unfold OF A7
 cases hl : lz args g E.prim with
 | none => rfl
 | some o => exact aJ.run_bind _ _
theorem lQ {g : FuncId} {args : List AV} {o : aJ (AV × Sig)} : ∀ {l : List (FuncId × Prim)}, lz args g l = some o -> ∃ p v, (g, p) ∈ l /\ SPs.cap p.ss args (some ()) = some v /\ o = p.F v
 | [], h => by cases h
 | (f, p) :: r, h => by
  simp only [lz, aP, beq_iff_eq] at h
  split at h
  ·rename_i hf
   subst hf
   split at h
   ·rename_i v hv
    cases h
    exact ⟨p, v, List.mem_cons_self, hv, rfl⟩
   ·obtain ⟨p', v, h1, h2, h3⟩ := lQ h
    exact ⟨p', v, List.mem_cons_of_mem _ h1, h2, h3⟩
  ·obtain ⟨p', v, h1, h2, h3⟩ := lQ h
   exact ⟨p', v, List.mem_cons_of_mem _ h1, h2, h3⟩
theorem MP (w : World) {ss : List SP} {vs : List AV} {y : SPs.T ss Unit} (h : SPs.cap ss vs (some ()) = some y) (hu : ∀ v ∈ vs, ∀ d, v.ak d = false) : ∀ v ∈ (SPs.bld (R := Unit) ss y).1, ∀ d, v.ak d = false := by
 have hcp : ∀ {R : Type} {ps : List CP} {cs : List Cell} {k : Option R} {y : CPs.T ps R}, CPs.cap ps cs k = some y -> ∀ d, cs.any (·.ak d) = false -> (CPs.bld ps y).1.any (·.ak d) = false := by
  intro R ps
  induction ps with
  | nil => intro cs k y h d hd; rfl
  | cons p r ih =>
   intro cs k y h d hd
   cases p with
   | dat t b =>
    simp only [CPs.cap] at h
    split at h
    ·rename_i x cs1 hp
     split at h
     ·rename_i y1 h1
      cases h
      simp only [CPs.bld, List.any_append, ua, Bool.false_or]
      refine ih h1 d ?_
      have : ∀ {t : Ty} {cs : List Cell} {p : t.T × List Cell}, t.parse b cs = some p -> cs.any (·.ak d) = false -> p.2.any (·.ak d) = false := by
       intro t
       induction t with
       | pair a c iha ihc =>
        intro cs p h hd
        simp only [Ty.parse, Option.bind_eq_some_iff] at h
        obtain ⟨p1, h1, p2, h2, h3⟩ := h
        cases h3
        exact ihc h2 (iha h1 hd)
       | int k =>
        intro cs p h hd
        cases cs with
        | nil => simp [Ty.parse] at h
        | cons c r =>
         cases c <;> simp only [Ty.parse] at h <;> try (cases h; done)
         split at h
         ·cases h; simpa [Cell.ak] using hd
         ·cases h
       | bool =>
        intro cs p h hd
        cases cs with
        | nil => simp [Ty.parse] at h
        | cons c r =>
         cases c <;> simp only [Ty.parse] at h <;> try (cases h; done)
         cases h; simpa [Cell.ak] using hd
       | str =>
        intro cs p h hd
        cases cs with
        | nil => simp [Ty.parse] at h
        | cons c r =>
         cases c <;> simp only [Ty.parse] at h <;> try (cases h; done)
         cases h; simpa [Cell.ak] using hd
       | nul f =>
        intro cs p h hd
        cases cs with
        | nil => simp [Ty.parse] at h
        | cons c r =>
         cases c <;> simp only [Ty.parse] at h <;> try (cases h; done)
         split at h
         ·cases h; simpa [Cell.ak] using hd
         ·cases h
       | sl e t _ =>
        intro cs p h hd
        cases cs with
        | nil => simp [Ty.parse] at h
        | cons c r =>
         simp only [List.any_cons, Bool.or_eq_false_iff] at hd
         cases c <;> simp only [Ty.parse] at h <;> try (cases h; done)
         ·cases h; exact hd.2
         ·cases h; exact hd.2
         ·split at h
          ·split at h
           ·cases h; exact hd.2
           ·cases h
          ·cases h
      exact this hp hd
     ·cases h
    ·cases h
   | own j =>
    cases cs with
    | nil => cases h
    | cons c cs =>
     cases c <;> simp only [CPs.cap] at h <;> try (cases h; done)
     simp only [aP, beq_iff_eq] at h
     split at h
     ·rename_i hj
      subst hj
      simp only [List.any_cons, Bool.or_eq_false_iff] at hd
      simp only [CPs.bld, List.any_cons, hd.1, ih h d hd.2]; rfl
     ·cases h
   | ptr j c =>
    cases cs with
    | nil => cases h
    | cons cc cs =>
     cases cc <;> simp only [CPs.cap] at h <;> try (cases h; done)
     simp only [aP] at h
     split at h
     ·rename_i hj
      simp only [Bool.and_eq_true, beq_iff_eq] at hj
      obtain ⟨⟨rfl, rfl⟩, rfl⟩ := hj
      simp only [List.any_cons, Bool.or_eq_false_iff] at hd
      simp only [CPs.bld, List.any_cons, hd.1, ih h d hd.2]; rfl
     ·cases h
   | und =>
    cases cs with
    | nil => cases h
    | cons c cs =>
     simp only [CPs.cap] at h
     simp only [List.any_cons, Bool.or_eq_false_iff] at hd
     simp only [CPs.bld, List.any_cons, ih h d hd.2]; rfl
   | fnc f ts =>
    cases cs with
    | nil => cases h
    | cons c cs =>
     cases c <;> simp only [CPs.cap] at h <;> try (cases h; done)
     simp only [aP, beq_iff_eq] at h
     split at h
     ·simp only [List.any_cons, Bool.or_eq_false_iff] at hd
      obtain ⟨_, h5⟩ := Tys.sound h
      simp only [CPs.bld, List.any_cons, ih h5 d hd.2]; rfl
     ·cases h
   | ept t =>
    cases cs with
    | nil => cases h
    | cons c cs =>
     cases c <;> simp only [CPs.cap] at h <;> try (cases h; done)
     split at h
     ·simp only [aP, beq_iff_eq] at h
      split at h
      ·split at h
       ·rename_i y1 hy
        cases h
        simp only [List.any_cons, Bool.or_eq_false_iff] at hd
        simp only [CPs.bld, List.any_cons, ih hy d hd.2]; rfl
       ·cases h
      ·cases h
     ·cases h
   | fnp f js =>
    cases cs with
    | nil => cases h
    | cons c cs =>
     cases c <;> simp only [CPs.cap] at h <;> try (cases h; done)
     simp only [aP] at h
     split at h
     ·rename_i hj
      simp only [Bool.and_eq_true, beq_iff_eq] at hj
      obtain ⟨rfl, rfl⟩ := hj
      simp only [List.any_cons, Bool.or_eq_false_iff] at hd
      simp only [CPs.bld, List.any_cons, hd.1, ih h d hd.2]; rfl
     ·cases h
 have main : ∀ {R : Type} {ss : List SP} {vs : List AV} {k : Option R} {y : SPs.T ss R}, SPs.cap ss vs k = some y -> (∀ v ∈ vs, ∀ d, v.ak d = false) -> ∀ v ∈ (SPs.bld ss y).1, ∀ d, v.ak d = false := by
  intro R ss
  induction ss with
  | nil => intro vs k y h hu v hv; simp [SPs.bld] at hv
  | cons s r ih =>
   intro vs k y h hu v hv d
   cases vs with
   | nil => cases s <;> cases h
   | cons v0 vs =>
    have hu' : ∀ v ∈ vs, ∀ d, v.ak d = false := fun v hv => hu v (List.mem_cons_of_mem _ hv)
    cases s with
    | und =>
     simp only [SPs.cap] at h
     rcases List.mem_cons.1 hv with rfl | hv
     ·rfl
     ·exact ih h hu' v hv d
    | one p =>
     cases v0 <;> simp only [SPs.cap] at h <;> try (cases h; done)
     rename_i c
     have h0 := (CPs.sound (ρ := ⟨fun _ => .dead, fun _ _ => False⟩) (w := w) (fun _ h => h) h).1
     rcases List.mem_cons.1 hv with rfl | hv
     ·have := hcp h d (by simpa [AV.ak] using hu (.one c) List.mem_cons_self d)
      generalize (CPs.bld [p] y).1 = l at this
      unfold oneOf
      split
      ·simpa [AV.ak] using this
      ·rfl
     ·exact ih h0 hu' v hv d
    | agg ps =>
     cases v0 <;> simp only [SPs.cap] at h <;> try (cases h; done)
     rename_i cs
     have h0 := (CPs.sound (ρ := ⟨fun _ => .dead, fun _ _ => False⟩) (w := w) (fun _ h => h) h).1
     rcases List.mem_cons.1 hv with rfl | hv
     ·exact hcp h d (hu (.agg cs) List.mem_cons_self d)
     ·exact ih h0 hu' v hv d
 exact main h hu
theorem QO (hE : Env.Ok P E) {call : bh} (hC : eb P call) {g : FuncId} {args : List AV} {res : AV} {out : Sig} (h : A7 E call g args = some (res, out)) : Ec P g args res out := by
 unfold A7 at h
 split at h
 ·rename_i o ho
  obtain ⟨p, v, hp, hv, rfl⟩ := lQ ho
  intro ρ0 w vs h1 h2 hgl h3 h4
  have hF := h
  obtain ⟨h5, h6, h7⟩ := SPs.sound (w := w) h2 hv
  refine hE.prim _ hp v res out hF ρ0 w vs h1 h2 hgl ?_ (MP w hv h4)
  generalize (SPs.bld (R := Unit) p.ss v).1 = l at h6 h7
  clear hv h4 h ho hgl
  induction h3 generalizing l with
  | nil =>
   cases l with
   | nil => exact .nil
   | cons x l => simp at h6
  | @cons x u xs us hx hxs ih =>
   cases l with
   | nil => simp at h6
   | cons y l =>
    refine .cons ?_ (ih l (by simpa using h6) fun i v' hi => by simpa using h7 (i + 1) v' (by simpa using hi))
    obtain ⟨z, h8, h9, _⟩ := h7 0 y rfl
    have : x = z := by simpa using h8
    subst this
    exact h9 u hx
 ·exact hC g args res out h
theorem az {ss : List SP} {gs : List (Nat × GP)} (h : wfB ss gs = true) : vp ss gs := by
 simp only [wfB, Bool.and_eq_true, List.all_eq_true] at h
 have key : ∀ (p : CP) (d : Nat), (match p with | .own j | .ptr j _ => gs.any (·.1 == j) | .fnp _ js => js.all fun j => gs.any (·.1 == j) | _ => true) = true -> p.ak d = true -> gs.any (·.1 == d) = true := by
  intro p d h1 h2
  cases p with
  | own j => have := eq_of_beq h2; subst this; exact h1
  | ptr j c => have := eq_of_beq h2; subst this; exact h1
  | dat t b => cases h2
  | und => cases h2
  | fnc f ts => cases h2
  | ept t => cases h2
  | fnp f js => exact List.all_eq_true.1 h1 d (List.contains_iff_mem.1 h2)
 intro d hd
 rw [Bool.or_eq_true, List.any_eq_true, List.any_eq_true] at hd
 rcases hd with ⟨s, hs, hd⟩ | ⟨g, hg, hd⟩
 ·have := h.1 s hs
  cases s with
  | und => cases hd
  | one p => exact key p d this hd
  | agg ps =>
   obtain ⟨p, hp, hd⟩ := List.any_eq_true.1 hd
   exact key p d (List.all_eq_true.1 this p hp) hd
 ·have := h.2 g hg
  obtain ⟨j, g⟩ := g
  cases g with
  | arr e t b => cases hd
  | box ty ps =>
   obtain ⟨p, hp, hd⟩ := List.any_eq_true.1 hd
   exact key p d (List.all_eq_true.1 this p hp) hd
end
end Go.Proofs.YtahlaccdpmddbaaGreat.Lib
namespace Go.Proofs.YtahlaccdpmddbaaGreat.Lib
open Go Go.RowKit
set_option linter.unusedVariables false
set_option linter.unusedSimpArgs false
theorem q7 : ∀ {l : List Nat}, nodup l = true -> ∀ (i j : Nat) (a : Nat), l[i]? = some a -> l[j]? = some a -> i = j
 | [], _, i, j, a, h, _ => by simp at h
 | x :: l, hn, i, j, a, hi, hj => by
  simp only [nodup, Bool.and_eq_true, Bool.not_eq_true'] at hn
  cases i with
  | zero =>
   cases j with
   | zero => rfl
   | succ j =>
    simp at hi hj
    subst hi
    have := List.mem_of_getElem? hj
    simp [this] at hn
  | succ i =>
   cases j with
   | zero =>
    simp at hi hj
    subst hj
    have := List.mem_of_getElem? hi
    simp [this] at hn
   | succ j =>
    simp at hi hj
    rw [q7 hn.2 i j a hi hj]
theorem pq {js : List (Nat × Nat)} (h : da js = true) {i j k : Nat} (h1 : (i, j) ∈ js) (h2 : (i, k) ∈ js) : j = k := by
 simp only [da, Bool.and_eq_true] at h
 obtain ⟨a, ha⟩ := List.getElem?_of_mem h1
 obtain ⟨b, hb⟩ := List.getElem?_of_mem h2
 have := q7 h.1 a b i (by rw [List.getElem?_map, ha]; rfl) (by rw [List.getElem?_map, hb]; rfl)
 subst this
 rw [ha] at hb
 cases hb; rfl
theorem AU {js : List (Nat × Nat)} (h : da js = true) {i j k : Nat} (h1 : (i, k) ∈ js) (h2 : (j, k) ∈ js) : i = j := by
 simp only [da, Bool.and_eq_true] at h
 obtain ⟨a, ha⟩ := List.getElem?_of_mem h1
 obtain ⟨b, hb⟩ := List.getElem?_of_mem h2
 have := q7 h.2 a b k (by rw [List.getElem?_map, ha]; rfl) (by rw [List.getElem?_map, hb]; rfl)
 subst this
 rw [ha] at hb
 cases hb; rfl
section
variable {P : Program} {E : Env} {B : Nat} {O : Ow} {w0 w w' : World} {ρ ρ' : aE} {a : Act} {R : Type} {r : R} {sg sg' : Sig} {st : St} {call : bh}
def Out (sg out : Sig) (js : List (Nat × Nat)) : Prop := ∀ i b, out.get i = some b -> ∃ j, (i, j) ∈ js /\ sg.get j = some b /\ ((∃ e t l q, b = .arr e t l q) ∨ ∃ ty cs, b = .box ty cs /\ cs.all (·.Jv) = true)
theorem vU {c : Cell} (h : c.Jv = true) (d : Nat) : c.ak d = false := by cases c <;> first | rfl | cases h
theorem fX (h : Mem B O ρ sg w) : ∀ {cs : List Cell} {n : Nat} {vs : List Value} {cs' : List Cell} {out : Sig} {js : List (Nat × Nat)}, aO (rc ρ w) cs vs -> fW sg cs n = some (cs', out, js) ->
  (∀ L : Nat -> Loc, (∀ i j, (i, j) ∈ js -> L i = ρ.loc j) -> aO (rc ⟨L, ρ.ok⟩ w) cs' vs) /\ Out sg out js /\ (∀ d, cs'.any (·.ak d) = true -> (out.get d).isSome = true)
 | [], n, vs, cs', out, js, hr, hl => by
  simp only [fW, Option.some.injEq, Prod.mk.injEq] at hl
  obtain ⟨rfl, rfl, rfl⟩ := hl
  cases hr
  exact ⟨fun _ _ => .nil, (fun i b hi => by cases hi), fun d hd => by cases hd⟩
 | c :: cs, n, vs, cs', out, js, hr, hl => by
  cases hr with
  | @cons _ u0 _ us h0 h1 =>
  simp only [fW] at hl
  split at hl
  ·rename_i cs1 out1 js1 hrec
   obtain ⟨i1, i2, i3⟩ := fX h h1 hrec
   have plain : ∀ {d : Cell}, (∀ x, d.ak x = false) -> rc ρ w d u0 -> (cs', out, js) = (d :: cs1, out1, js1) -> (∀ L : Nat -> Loc, (∀ i j, (i, j) ∈ js -> L i = ρ.loc j) -> aO (rc ⟨L, ρ.ok⟩ w) cs' (u0 :: us)) /\ Out sg out js /\ (∀ d, cs'.any (·.ak d) = true -> (out.get d).isSome = true) := by
    intro d hu hd he
    cases he
    refine ⟨fun L hL => .cons (eH (ρ := ρ) (ρ' := ⟨L, ρ.ok⟩) (w := w) (U := fun _ => False) ⟨fun _ h => h.elim, fun _ _ h => h, fun _ _ _ => rfl⟩ (fun x hx => by rw [hu x] at hx; cases hx) hd) (i1 L hL), i2, fun x hx => ?_⟩
    simp only [List.any_cons, hu x, Bool.false_or] at hx
    exact i3 x hx
   split at hl
   ·rename_i j
    split at hl
    ·rename_i e t l b hj
     simp only [Option.some.injEq, Prod.mk.injEq] at hl
     obtain ⟨rfl, rfl, rfl⟩ := hl
     refine ⟨fun L hL => .cons ?_ (i1 L (fun i j hij => hL i j (List.mem_cons_of_mem _ hij))), fun i b' hi => ?_, fun x hx => ?_⟩
     ·obtain ⟨g, sz, h2⟩ := h0
      exact ⟨g, sz, (hL _ j List.mem_cons_self).trans h2⟩
     ·simp only [Sig.get, aP] at hi
      split at hi
      ·rename_i he
       cases hi
       have he := eq_of_beq he
       subst he
       exact ⟨j, List.mem_cons_self, hj, .inl ⟨_, _, _, _, rfl⟩⟩
      ·obtain ⟨j', a1, a2⟩ := i2 i b' hi
       exact ⟨j', List.mem_cons_of_mem _ a1, a2⟩
     ·simp only [List.any_cons, Bool.or_eq_true] at hx
      simp only [Sig.get, aP]
      split
      ·rfl
      ·rename_i hne
       rcases hx with hx | hx
       ·exact absurd hx hne
       ·exact i3 x hx
    ·rename_i e t l b hj
     simp only [Option.some.injEq] at hl
     exact plain (fun _ => rfl) ((kg h hj).1 _ h0) hl.symm
    ·cases hl
   ·rename_i j o m
    split at hl
    ·rename_i e t l b hj
     simp only [Option.some.injEq] at hl
     exact plain (fun _ => rfl) ((kg h hj).2 _ _ _ h0) hl.symm
    ·cases hl
   ·rename_i j i o
    split at hl
    ·rename_i ty bs hj
     simp only [aP] at hl
     split at hl
     ·rename_i hc
      simp only [Bool.and_eq_true, beq_iff_eq] at hc
      obtain ⟨rfl, rfl, hf⟩ := hc
      simp only [Option.some.injEq, Prod.mk.injEq] at hl
      obtain ⟨rfl, rfl, rfl⟩ := hl
      refine ⟨fun L hL => .cons ?_ (i1 L (fun i j hij => hL i j (List.mem_cons_of_mem _ hij))), fun i b' hi => ?_, fun x hx => ?_⟩
      ·obtain ⟨g, vs, h2, _⟩ := h.blk j _ hj
       rcases h0 with ⟨_, g', h3, h4⟩ | ⟨_, _, _, _, _, h3, _⟩
       ·exact .inl ⟨rfl, g', (hL _ j List.mem_cons_self).trans h3, h4⟩
       ·rw [h2] at h3; cases h3
      ·simp only [Sig.get, aP] at hi
       split at hi
       ·rename_i he
        cases hi
        have he := eq_of_beq he
        subst he
        exact ⟨j, List.mem_cons_self, hj, .inr ⟨_, _, rfl, hf⟩⟩
       ·obtain ⟨j', a1, a2⟩ := i2 i b' hi
        exact ⟨j', List.mem_cons_of_mem _ a1, a2⟩
      ·simp only [List.any_cons, Bool.or_eq_true] at hx
       simp only [Sig.get, aP]
       split
       ·rfl
       ·rename_i hne
        rcases hx with hx | hx
        ·exact absurd hx hne
        ·exact i3 x hx
     ·cases hl
    ·cases hl
   ·cases hl
   ·cases hl
   ·rename_i n1 n2 n3 n4 n5
    simp only [Option.some.injEq] at hl
    refine plain (fun x => ?_) h0 hl.symm
    cases c <;> first | rfl | exact absurd rfl (n1 _) | exact absurd rfl (n2 _ _ _) | exact absurd rfl (n3 _ _ _) | exact absurd rfl (n4 _ _)
  ·cases hl
theorem Out.append {out out' : Sig} {js js' : List (Nat × Nat)} (h : Out sg out js) (h' : Out sg out' js') : Out sg (out ++ out') (js ++ js') := by
 intro i b hi
 rw [Sig.get_append] at hi
 cases ho : out.get i with
 | some b0 =>
  rw [ho] at hi
  cases hi
  obtain ⟨j, a1, a2⟩ := h i _ ho
  exact ⟨j, List.mem_append_left _ a1, a2⟩
 | none =>
  rw [ho] at hi
  obtain ⟨j, a1, a2⟩ := h' i b hi
  exact ⟨j, List.mem_append_right _ a1, a2⟩
theorem hJ {v : AV} {u : Value} {g : Bool} {cs : List Cell} (hr : rav ρ w v u) (hp : l9 v = some (g, cs)) : rp ρ w (g, cs) u := by
 unfold l9 at hp
 split at hp
 ·cases hp; exact ⟨_, rfl, hr⟩
 ·cases hp; exact hr
 ·cases hp
theorem FZ {g : Bool} {cs : List Cell} {u : Value} (h : rp ρ w (g, cs) u) : ∃ vs, aO (rc ρ w) cs vs /\ ∀ (ρ' : aE) (cs' : List Cell), aO (rc ρ' w) cs' vs -> rp ρ' w (g, cs') u := by
 cases g with
 | true =>
  obtain ⟨vs, rfl, h⟩ := h
  exact ⟨vs, h, fun ρ' cs' h' => ⟨vs, rfl, h'⟩⟩
 | false =>
  obtain ⟨c, rfl, h⟩ := h
  refine ⟨[u], .cons h .nil, fun ρ' cs' h' => ?_⟩
  cases h' with
  | cons h1 h2 => cases h2; exact ⟨_, rfl, h1⟩
theorem je (h : Mem B O ρ sg w) : ∀ {vs : List AV} {n : Nat} {us : List Value} {ps : List (Bool × List Cell)} {out : Sig} {js : List (Nat × Nat)}, aO (rav ρ w) vs us -> lr sg vs n = some (ps, out, js) ->
  (∀ L : Nat -> Loc, (∀ i j, (i, j) ∈ js -> L i = ρ.loc j) -> aO (rp ⟨L, ρ.ok⟩ w) ps us) /\ Out sg out js /\ (∀ d, ps.any (·.2.any (·.ak d)) = true -> (out.get d).isSome = true)
 | [], n, us, ps, out, js, hr, hl => by
  simp only [lr, Option.some.injEq, Prod.mk.injEq] at hl
  obtain ⟨rfl, rfl, rfl⟩ := hl
  cases hr
  exact ⟨fun _ _ => .nil, (fun i b hi => by cases hi), fun d hd => by cases hd⟩
 | v :: vs, n, us, ps, out, js, hr, hl => by
  cases hr with
  | @cons _ u0 _ us h0 h1 =>
  simp only [lr] at hl
  split at hl
  ·rename_i g cs hp
   split at hl
   ·rename_i cs1 out1 js1 ps2 out2 js2 hc ht
    simp only [Option.some.injEq, Prod.mk.injEq] at hl
    obtain ⟨rfl, rfl, rfl⟩ := hl
    obtain ⟨vs0, a1, a2⟩ := FZ (hJ h0 hp)
    obtain ⟨b1, b2, b3⟩ := fX h a1 hc
    obtain ⟨c1, c2, c3⟩ := je h h1 ht
    refine ⟨fun L hL => .cons (a2 _ _ (b1 L fun i j hij => hL i j (List.mem_append_left _ hij))) (c1 L fun i j hij => hL i j (List.mem_append_right _ hij)), b2.append c2, fun d hd => ?_⟩
    rw [Sig.get_append]
    simp only [List.any_cons, Bool.or_eq_true] at hd
    rcases hd with hd | hd
    ·have := b3 d hd
     obtain ⟨b, hb⟩ := Option.isSome_iff_exists.1 this
     rw [hb]; rfl
    ·have := c3 d hd
     cases hb : out1.get d with
     | some b => rfl
     | none => exact this
   ·cases hl
  ·cases hl
theorem tO (h : Mem B O ρ sg w) {out : Sig} {js : List (Nat × Nat)} (ho : Out sg out js) (hj : da js = true) :
  ∃ L : Nat -> Loc, (∀ i j, (i, j) ∈ js -> L i = ρ.loc j) /\ Mem B O ⟨L, ρ.ok⟩ out w := by
 have hex : ∀ i, ∃ l : Loc, ∀ j, (i, j) ∈ js -> l = ρ.loc j := by
  intro i
  by_cases hi : ∃ j, (i, j) ∈ js
  ·obtain ⟨j, hj1⟩ := hi
   exact ⟨ρ.loc j, fun k hk => by rw [pq hj hj1 hk]⟩
  ·exact ⟨.dead, fun j hj => absurd ⟨j, hj⟩ hi⟩
 refine ⟨fun i => Classical.choose (hex i), fun i j hij => Classical.choose_spec (hex i) j hij, ?_⟩
 have hL : ∀ i j, (i, j) ∈ js -> Classical.choose (hex i) = ρ.loc j := fun i j hij => Classical.choose_spec (hex i) j hij
 have hown : ∀ i g, bE ⟨fun i => Classical.choose (hex i), ρ.ok⟩ out i g -> ∃ j, (i, j) ∈ js /\ bE ρ sg j g := by
  intro i g hi
  obtain ⟨b, h1, h2, h3⟩ := aC.1 hi
  obtain ⟨j, a1, a2, hb⟩ := ho i b h1
  refine ⟨j, a1, aC.2 ⟨_, a2, h2, ?_⟩⟩
  rcases h3 with ⟨ty, cs, h3, h4⟩ | ⟨e, t, l, q, h5, h3⟩
  ·exact .inl ⟨ty, cs, h3, (hL i j a1).symm.trans h4⟩
  ·refine .inr ⟨e, t, l, q, h5, ?_⟩
   obtain ⟨v, sz, h3⟩ := h3
   exact ⟨v, sz, (hL i j a1).symm.trans h3⟩
 refine ⟨fun i b hi => ?_, fun i k g hi hk => ?_, fun i g hi => ?_, h.okb, fun q g hq i hi => ?_, h.okm, h.okx, h.oky, fun i b d hi hd => ?_⟩
 ·obtain ⟨j, a1, a2, ⟨e, t, l, q, rfl⟩ | ⟨ty, cs, rfl, hf⟩⟩ := ho i b hi
  ·obtain ⟨v, g, xs, b1, b2⟩ := h.blk j _ a2
   exact ⟨v, g, xs, (hL i j a1).trans b1, b2⟩
  ·obtain ⟨g, vs, b1, b2, b3⟩ := h.blk j _ a2
   refine ⟨g, vs, (hL i j a1).trans b1, b2, ?_⟩
   clear b1 b2 a2 hi
   induction b3 with
   | nil => exact .nil
   | cons h1 _ ih =>
    rw [List.all_cons, Bool.and_eq_true] at hf
    exact .cons (eH (ρ := ρ) (ρ' := ⟨fun i => Classical.choose (hex i), ρ.ok⟩) (w := w) (w' := w) (U := fun _ => False) ⟨fun _ h => h.elim, fun _ _ h => h, fun _ _ _ => rfl⟩ (fun x hx => by rw [vU hf.1 x] at hx; cases hx) h1) (ih hf.2)
 ·obtain ⟨j, a1, a2⟩ := hown i g hi
  obtain ⟨j', a3, a4⟩ := hown k g hk
  have := h.inj j j' g a2 a4
  subst this
  exact AU hj a1 a3
 ·obtain ⟨j, a1, a2⟩ := hown i g hi
  exact h.old j g a2
 ·obtain ⟨j, a1, a2⟩ := hown i g hi
  exact h.oko q g hq j a2
 ·obtain ⟨j, a1, a2, ⟨e, t, l, q, rfl⟩ | ⟨ty, cs, rfl, hf⟩⟩ := ho i b hi
  ·cases hd
  ·simp only [Blk.ak, List.any_eq_true] at hd
   obtain ⟨c, hc, hd⟩ := hd
   rw [vU (List.all_eq_true.1 hf c hc) d] at hd
   cases hd
end
end Go.Proofs.YtahlaccdpmddbaaGreat.Lib
namespace Go.Proofs.YtahlaccdpmddbaaGreat.Lib
open Go Go.RowKit
set_option linter.unusedVariables false
set_option linter.unusedSimpArgs false
section
variable {P : Program} {E : Env} {B : Nat} {O O' : Ow} {w0 w w' : World} {ρ ρ' : aE} {a : Act} {R : Type} {r : R} {sg sg' : Sig} {st : St} {call : bh}
theorem Mem.ow (h : Mem B O ρ sg w) (h1 : O'.o = O.o) (h2 : O'.ok0 = O.ok0) : Mem B O' ρ sg w :=
 ⟨h.blk, h.inj, fun j g hj => by rw [h1]; exact h.old j g hj, h.okb, h.oko, h.okm, fun b g hg => by rw [h1, h2]; exact h.okx b g hg, fun b g hg => h.oky b g (by rw [← h2]; exact hg), h.dom⟩
theorem G3 {c : Cell} {v : Value} (hp : c.plain = true) (h : rc ρ w c v) : rc ρ' w' c v := by
 cases c with
 | int k n => exact h
 | bool b => exact h
 | str s => exact h
 | _ => cases hp
theorem ME {x : AV} {v : Value} (hp : x.plain = true) (h : rav ρ w x v) : rav ρ' w' x v := by
 cases x with
 | one c => exact G3 hp h
 | agg cs =>
  obtain ⟨vs, h0, h1⟩ := h
  exact ⟨vs, h0, h1.imp fun c v hc h => G3 (List.all_eq_true.1 hp c hc) h⟩
 | tup ps => cases hp
theorem yW {c : Cell} (hp : c.plain = true) (d : Nat) : c.ak d = false := by
 cases c with
 | int k n => rfl
 | bool b => rfl
 | str s => rfl
 | _ => cases hp
theorem Jk {x : AV} (hp : x.plain = true) (d : Nat) : x.ak d = false := by
 cases x with
 | one c => exact yW hp d
 | agg cs =>
  cases h : (AV.agg cs).ak d with
  | false => rfl
  | true =>
   obtain ⟨c, hc, hu⟩ := List.any_eq_true.1 h
   rw [yW (List.all_eq_true.1 hp c hc) d] at hu
   cases hu
 | tup ps => cases hp
theorem mf {js : List (Nat × Nat)} {i j : Nat} (h : dO js j = some i) : (i, j) ∈ js := by
 induction js with
 | nil => cases h
 | cons q r ih =>
  obtain ⟨i', j'⟩ := q
  simp only [dO, aP, beq_iff_eq] at h
  split at h
  ·rename_i he; cases h; rw [he]; exact List.mem_cons_self
  ·exact List.mem_cons_of_mem _ (ih h)
theorem vE {js : List (Nat × Nat)} {i j : Nat} (h : (i, j) ∈ js) : ∃ i', dO js j = some i' := by
 induction js with
 | nil => cases h
 | cons q r ih =>
  obtain ⟨i0, j0⟩ := q
  simp only [dO, aP, beq_iff_eq]
  split
  ·exact ⟨_, rfl⟩
  ·rename_i hn
   rcases List.mem_cons.1 h with h | h
   ·cases h; exact absurd rfl hn
   ·exact ih h
theorem np (js : List (Nat × Nat)) (upd sg : Sig) (j : Nat) : (oh js upd sg).get j = (sg.get j).map fun b => (match oO js upd j with | some b' => b' | none => b) := by
 induction sg with
 | nil => rfl
 | cons q r ih =>
  obtain ⟨i, b⟩ := q
  simp only [oh, Sig.get, ih, aP, beq_iff_eq]
  split
  ·rename_i he; subst he; rfl
  ·rfl
theorem Mem.Nq (h : Mem B O ρ sg w) {js : List (Nat × Nat)} {upd : Sig}
  (hf : ∀ j b', oO js upd j = some b' -> (sg.get j).isSome = true -> (∃ e t l q, sg.get j = some (.arr e t l q)) /\ (∃ e t l q, b' = .arr e t l q) /\ ku ρ w' j b')
  (hw : ∀ k, k < w.heap.size -> (∀ i j, (i, j) ∈ js -> ¬ bE ρ sg j k) -> w'.heap[k]? = w.heap[k]?) (hs : w.heap.size <= w'.heap.size)
  (hj : ∀ i j k, (i, j) ∈ js -> bE ρ sg j k -> oO js upd j = none -> w'.heap[k]? = w.heap[k]?) : Mem B O ρ (oh js upd sg) w' := by
 have hown : ∀ j g, bE ρ (oh js upd sg) j g -> bE ρ sg j g := by
  intro j g ho
  obtain ⟨b', h1, h2, h3⟩ := aC.1 ho
  rw [np, Option.map_eq_some_iff] at h1
  obtain ⟨b, h4, h5⟩ := h1
  cases hb : oO js upd j with
  | none =>
   rw [hb] at h5
   simp only at h5
   subst h5
   exact aC.2 ⟨b, h4, h2, h3⟩
  | some b0 =>
   rw [hb] at h5
   simp only at h5
   subst h5
   obtain ⟨⟨e, t, l, q, h6⟩, ⟨e', t', l', q', rfl⟩, _⟩ := hf j b0 hb (by rw [h4]; rfl)
   refine aC.2 ⟨_, h6, by simp, .inr ⟨_, _, _, _, rfl, ?_⟩⟩
   rcases h3 with ⟨_, _, h3, _⟩ | ⟨_, _, _, _, _, h3⟩
   ·cases h3
   ·exact h3
 have hok : ∀ b g, ρ.ok b g -> w'.heap[g]? = w.heap[g]? := fun b g hg => hw g (h.okb b g hg) fun i j _ => h.oko b g hg j
 have hstep : Step (fun _ => True) ρ ρ w w' := ⟨fun _ _ => rfl, fun _ _ h => h, hok⟩
 refine ⟨fun j b' hb' => ?_, fun i j g hi hj => h.inj i j g (hown i g hi) (hown j g hj), fun j g hg => h.old j g (hown j g hg), fun b g hg => Nat.lt_of_lt_of_le (h.okb b g hg) hs, fun b g hg j hj => h.oko b g hg j (hown j g hj), h.okm, h.okx, h.oky, fun j b' d hb' hd => ?_⟩
 ·rw [np, Option.map_eq_some_iff] at hb'
  obtain ⟨b, h4, h5⟩ := hb'
  cases hb : oO js upd j with
  | some b0 =>
   rw [hb] at h5
   simp only at h5
   subst h5
   exact (hf j b0 hb (by rw [h4]; rfl)).2.2
  | none =>
   rw [hb] at h5
   simp only at h5
   subst h5
   refine dC hstep trivial (fun _ _ => trivial) (fun g hg hn => ?_) (h.blk j b h4)
   have ho : bE ρ sg j g := by
    refine aC.2 ⟨b, h4, hn, ?_⟩
    have hr := h.blk j b h4
    cases b with
    | fro e t l q => exact absurd rfl (hn e t l q)
    | box ty cs =>
     refine .inl ⟨ty, cs, rfl, ?_⟩
     rcases hg with hg | ⟨v, sz, hg⟩
     ·exact hg
     ·obtain ⟨g', vs, h3, _⟩ := hr
      rw [hg] at h3; cases h3
    | arr e t l q =>
     refine .inr ⟨e, t, l, q, rfl, ?_⟩
     rcases hg with hg | hg
     ·obtain ⟨v', g', xs, h3, _⟩ := hr
      rw [hg] at h3; cases h3
     ·exact hg
   by_cases hin : ∃ i, (i, j) ∈ js
   ·obtain ⟨i, hi⟩ := hin
    exact hj i j g hi ho hb
   ·refine hw g (h.lt ho) fun i k hk hk' => hin ⟨i, ?_⟩
    have := h.inj k j g hk' ho
    subst this
    exact hk
 ·rw [np, Option.map_eq_some_iff] at hb'
  obtain ⟨b, h4, h5⟩ := hb'
  rw [np, Option.isSome_map]
  cases hb : oO js upd j with
  | some b0 =>
   rw [hb] at h5
   simp only at h5
   subst h5
   obtain ⟨_, ⟨e', t', l', q', rfl⟩, _⟩ := hf j b0 hb (by rw [h4]; rfl)
   cases hd
  | none =>
   rw [hb] at h5
   simp only at h5
   subst h5
   exact h.dom j b d h4 hd
theorem Hw {p : Bool × List Cell} {v : Value} (h : rp ρ w p v) : rav ρ w (Hz p) v := by
 obtain ⟨g, cs⟩ := p
 cases g with
 | true => exact h
 | false => obtain ⟨c, rfl, h⟩ := h; exact h
theorem Bv {p : Bool × List Cell} {d : Nat} (h : (Hz p).ak d = true) : p.2.any (·.ak d) = true := by
 obtain ⟨g, cs⟩ := p
 cases g with
 | true => exact h
 | false =>
  have h : (oneOf cs).ak d = true := h
  unfold oneOf at h
  split at h
  ·simpa [AV.ak] using h
  ·cases h
theorem FT (w : World) (hm : ∀ g, ρ.ok false g -> ρ.ok true g) {ss : List SP} {gs : List (Nat × GP)} {v : StT ss gs} (hc : pJ ss gs st = some v) {j g : Nat} (hj : bE ρ (ax ss gs v).sg j g) : bE ρ st.sg j g := by
 unfold pJ at hc
 obtain ⟨h1, _, _⟩ := SPs.sound (w := w) hm hc
 obtain ⟨h4, _⟩ := GPs.sound (w := w) hm h1
 unfold bE at hj
 cases hb : (ax ss gs v).sg.get j with
 | none => rw [hb] at hj; exact hj.elim
 | some b' =>
  obtain ⟨b, h6, h7, h8, h9⟩ := h4 j b' hb
  rw [hb] at hj
  exact h8 g (by cases b' <;> exact hj)
theorem Tb (w : World) (hm : ∀ g, ρ.ok false g -> ρ.ok true g) {ss : List SP} {gs : List (Nat × GP)} {v : StT ss gs} (hc : pJ ss gs st = some v) {j : Nat} (hj : ((ax ss gs v).sg.get j).isSome = true) : (st.sg.get j).isSome = true := by
 unfold pJ at hc
 obtain ⟨h1, _, _⟩ := SPs.sound (w := w) hm hc
 obtain ⟨h4, _⟩ := GPs.sound (w := w) hm h1
 obtain ⟨b', hb⟩ := Option.isSome_iff_exists.1 hj
 obtain ⟨b, h6, _⟩ := h4 j b' hb
 rw [h6]; rfl
theorem EV (h : Sim P B O w0 ρ st a w) {o : Oper} {c : Call} {g : FuncId} (ho : o.op = .call c) (hc : c.callee = .value (.func g)) {m : Mrk} (hm : DD P g m) {k : St -> Option R} (hk : ph st o.dst m (c.args.toList.map (aF st.sl)) k = some r)
  {next : Act -> World -> Prop} {Q : Exit -> Act -> World -> Prop} (hnext : ∀ ρ' st' a' w', k st' = some r -> Sim P B O w0 ρ' st' a' w' -> next a' w') : o.wp P a w next Q := by
 unfold ph at hk
 split at hk
 ·rename_i ps out js ht
  rw [aP] at hk
  split at hk
  ·rename_i hj0
   rw [Bool.and_eq_true] at hj0
   have hj := hj0.1
   have hja := hj0.2
   split at hk
   ·rename_i v hv
    rw [aJ.run_bind, Option.bind_eq_some_iff] at hk
    obtain ⟨⟨res, upd⟩, hF, hk⟩ := hk
    simp only [aP] at hk
    split at hk
    ·rename_i hpl
     rw [Bool.and_eq_true] at hpl
     have hav : aO (rav ρ w) (c.args.toList.map (aF st.sl)) (c.args.toList.map a.eval) := by
      induction c.args.toList with
      | nil => exact .nil
      | cons x xs ih => exact .cons (h.eval x).1 ih
     obtain ⟨b1, b2, b3⟩ := je h.mem hav ht
     obtain ⟨L, c1, c2⟩ := tO h.mem b2 hj
     have b2 : ∀ i b, out.get i = some b -> ∃ j, (i, j) ∈ js /\ st.sg.get j = some b /\ ∃ e t l q, b = .arr e t l q := fun i b hi => by
      obtain ⟨j, a1, a2, h3 | ⟨ty, cs, rfl, _⟩⟩ := b2 i b hi
      ·exact ⟨j, a1, a2, h3⟩
      ·have := List.all_eq_true.1 hja _ (Sig.get_mem hi)
       cases this
     have hargs := b1 L c1
     obtain ⟨hwf, ⟨fn, hfn, hbody, hname⟩, hcalls⟩ := hm
     have hS : Sim P B ⟨O.o, O.ok0, L⟩ w ⟨L, ρ.ok⟩ ⟨ps.map Hz, out⟩ { tmps := (c.args.toList.map a.eval).toArray, defers := [] } w := by
      have hal : aO (rav ⟨L, ρ.ok⟩ w) (ps.map Hz) (c.args.toList.map a.eval) := hargs.dD _ fun p u _ h => Hw h
      refine ⟨c2.ow rfl rfl, by simp [← hal.length], fun i v hi => ?_, fun i v d hi hd => ?_, rfl, gr.refl _ _ _, h.base, fun _ _ => rfl, h.Yo⟩
      ·obtain ⟨u, h1, h2⟩ := hal.get i hi
       exact ⟨u, by simpa using h1, h2⟩
      ·simp only [List.getElem?_map, Option.map_eq_some_iff] at hi
       obtain ⟨p, hp, rfl⟩ := hi
       exact b3 d (List.any_eq_true.2 ⟨p, List.mem_of_getElem? hp, Bv hd⟩)
     have hcl := hcalls v res upd hF _ _ _ _ _ (hS.cap hwf hv)
     have hrun : (execOp a.eval o).run P w = .ok (.enter g (c.args.toList.map a.eval).toArray) w := by
      have hargs : (c.args.toList.map a.eval).toArray = c.args.map a.eval := by
       apply Array.ext'
       simp
      rw [hargs]
      unfold execOp
      have hbn : ¬ (fn.body = none) := by intro hb; rw [hb] at hbody; cases hbody
      have hnn : ¬ (fn.name = "runtime.NumGoroutine") := by intro hn; rw [hn] at hname; simp at hname
      have hfe : a.eval (.func g) = .func (.func g) #[] #[] := rfl
      simp [ho, hc, resolve, hfe, Deferred.ofValue, Sem.run_bind, invoke, callFunc, hfn]
      rw [if_neg hnn, if_neg hbn]
     unfold Oper.wp
     rw [hrun, Oper.upon_enter]
     refine hcl.mono fun e w' hh => ?_
     obtain ⟨u, rfl, hr, hupd, hos, htape, hout, hsz, hfr⟩ := hh
     have hL : ∀ i j, (i, j) ∈ js -> L i = ρ.loc j := c1
     have hown : ∀ i g, bE ⟨L, ρ.ok⟩ out i g -> ∃ j, (i, j) ∈ js /\ bE ρ st.sg j g := by
      intro i g hi
      obtain ⟨b, h1, h2, h3⟩ := aC.1 hi
      obtain ⟨j, a1, a2, e, t, l, q, rfl⟩ := b2 i b h1
      refine ⟨j, a1, aC.2 ⟨_, a2, h2, ?_⟩⟩
      rcases h3 with ⟨_, _, h3, _⟩ | ⟨_, _, _, _, _, h3⟩
      ·cases h3
      ·refine .inr ⟨_, _, _, _, rfl, ?_⟩
       obtain ⟨v, sz, h3⟩ := h3
       exact ⟨v, sz, (hL i j a1).symm.trans h3⟩
     have hframe : ∀ k, k < w.heap.size -> (∀ i j, (i, j) ∈ js -> ¬ bE ρ st.sg j k) -> w'.heap[k]? = w.heap[k]? := by
      intro k hk hn
      refine hfr k hk fun i hi => ?_
      obtain ⟨j, h1, h2⟩ := hown i k (FT w (ρ := ⟨L, ρ.ok⟩) (st := ⟨ps.map Hz, out⟩) h.mem.okm hv hi)
      exact hn i j h1 h2
     have hup : ∀ j b', oO js upd j = some b' -> (∃ e t l q, st.sg.get j = some (.arr e t l q)) /\ (∃ e t l q, b' = .arr e t l q) /\ ku ρ w' j b' := by
      intro j b' hb
      unfold oO at hb
      split at hb
      ·rename_i i hi
       have hij := mf hi
       obtain ⟨⟨e, t, l, q, h1⟩, ⟨e', t', l', q', rfl⟩, h3⟩ := hupd i b' hb
       have h4 := Tb w (ρ := ⟨L, ρ.ok⟩) (st := ⟨ps.map Hz, out⟩) h.mem.okm hv (j := i) (by rw [h1]; rfl)
       obtain ⟨b0, h5⟩ := Option.isSome_iff_exists.1 h4
       obtain ⟨j', h6, h7, e2, t2, l2, q2, rfl⟩ := b2 i b0 h5
       have := pq hj h6 hij
       subst this
       refine ⟨⟨_, _, _, _, h7⟩, ⟨_, _, _, _, rfl⟩, ?_⟩
       obtain ⟨va, gg, xs, d1, d2⟩ := h3
       exact ⟨va, gg, xs, (hL i _ h6).symm.trans d1, d2⟩
      ·cases hb
     have hquiet : ∀ i j k, (i, j) ∈ js -> bE ρ st.sg j k -> oO js upd j = none -> w'.heap[k]? = w.heap[k]? := by
      intro i j k hij hjk hnone
      obtain ⟨i', hi'⟩ := vE hij
      have h1 := List.all_eq_true.1 hpl.2 _ (mf hi')
      unfold oO at hnone
      rw [hi'] at hnone
      simp only at hnone h1
      rw [hnone] at h1
      cases h1
     have hM := h.mem.Nq (w' := w') (js := js) (upd := upd) (fun j b' hb _ => hup j b' hb) hframe hsz hquiet
     have hok : ∀ b g, ρ.ok b g -> w'.heap[g]? = w.heap[g]? := fun b g hg => hframe g (h.mem.okb b g hg) fun i j _ => h.mem.oko b g hg j
     have hstep : Step (fun _ => True) ρ ρ w w' := ⟨fun _ _ => rfl, fun _ _ h => h, hok⟩
     have hkp : gr B O w w' := ⟨hos, htape, hout, hsz, fun k hk hn => hframe k (Nat.lt_of_lt_of_le hk h.base) fun i j _ hjk => by
      rcases h.mem.old j k hjk with h0 | h0
      ·omega
      ·exact hn h0⟩
     have hS' : Sim P B O w0 ρ ⟨st.sl, oh js upd st.sg⟩ a w' := by
      refine ⟨hM, h.len, fun i v hi => ?_, fun i v d hi hd => ?_, h.defers, h.fr.trans hkp, Nat.le_trans h.base hsz, h.pin, h.glo⟩
      ·obtain ⟨u, h1, h2⟩ := h.sl i v hi
       exact ⟨u, h1, cK hstep (fun _ _ => trivial) h2⟩
      ·show (Sig.get d (oh js upd st.sg)).isSome = true
       rw [np, Option.isSome_map]
       exact h.dom i v d hi hd
     exact hnext ρ _ _ w' hk (hS'.put o.dst (ME hpl.1 hr) (fun d hd => by rw [Jk hpl.1 d] at hd; cases hd))
    ·cases hk
   ·cases hk
  ·cases hk
 ·cases hk
end
end Go.Proofs.YtahlaccdpmddbaaGreat.Lib
namespace Go.Proofs.YtahlaccdpmddbaaGreat.Lib
open Go Go.RowKit
set_option linter.unusedVariables false
set_option linter.unusedSimpArgs false
theorem cY {js : List (Nat × Nat)} {j i : Nat} (h : look js j = some i) : (j, i) ∈ js := by
 induction js with
 | nil => cases h
 | cons q r ih =>
  obtain ⟨a, b⟩ := q
  simp only [look, aP, beq_iff_eq] at h
  split at h
  ·rename_i he; cases h; rw [he]; exact List.mem_cons_self
  ·exact List.mem_cons_of_mem _ (ih h)
theorem Nm {js : List (Nat × Nat)} {j i : Nat} (h : (j, i) ∈ js) : ∃ i', look js j = some i' := by
 induction js with
 | nil => cases h
 | cons q r ih =>
  obtain ⟨a, b⟩ := q
  simp only [look, aP, beq_iff_eq]
  split
  ·exact ⟨_, rfl⟩
  ·rename_i hn
   rcases List.mem_cons.1 h with h | h
   ·cases h; exact absurd rfl hn
   ·exact ih h
theorem Gh {js : List (Nat × Nat)} (hj : da js = true) {j i : Nat} : look js j = some i ↔ (j, i) ∈ js := by
 refine ⟨cY, fun h => ?_⟩
 obtain ⟨i', h'⟩ := Nm h
 rw [h', pq hj (cY h') h]
theorem ja {js : List (Nat × Nat)} (hj : da js = true) {j i : Nat} : dO js i = some j ↔ (j, i) ∈ js := by
 refine ⟨mf, fun h => ?_⟩
 obtain ⟨j', h'⟩ := vE h
 rw [h', AU hj (mf h') h]
theorem l5 {f : Nat -> Option Nat} : ∀ {js l : List Nat}, wj f js = some l -> aO (fun j i => f j = some i) js l
 | [], l, h => by cases h; exact .nil
 | j :: r, l, h => by
  simp only [wj] at h
  split at h
  ·rename_i i l' h1 h2
   cases h
   exact .cons h1 (l5 h2)
  ·cases h
theorem aO.comp {α β γ : Type} {R : α -> β -> Prop} {S : α -> γ -> Prop} {T : β -> γ -> Prop} (hc : ∀ a b c, R a b -> S a c -> T b c) : ∀ {l : List α} {m : List β} {n : List γ}, aO R l m -> aO S l n -> aO T m n
 | [], [], [], .nil, .nil => .nil
 | _ :: _, _ :: _, _ :: _, .cons h1 h2, .cons h3 h4 => .cons (hc _ _ _ h1 h3) (aO.comp hc h2 h4)
theorem IE {ρ ρ' : aE} {w : World} {f : Nat -> Option Nat} (hl : ∀ j i, f j = some i -> ρ'.loc i = ρ.loc j) (ho : ρ'.ok = ρ.ok) {c : Cell} {v : Value} (h : rc ρ w c v) : rc ρ' w (c.ren f) v := by
 obtain ⟨l', o'⟩ := ρ'
 simp only at hl ho
 subst ho
 cases c with
 | int k n => exact h
 | bool b => exact h
 | str s => exact h
 | nil => exact h
 | cap0 => exact h
 | nul f => exact h
 | emb e t l b => exact h
 | eptr t x c b => exact h
 | fn f caps => exact h
 | und => exact h
 | sl j =>
  simp only [Cell.ren]
  split
  ·rename_i i hi
   obtain ⟨g, sz, h⟩ := h
   exact ⟨g, sz, (hl j i hi).trans h⟩
  ·trivial
 | sub j o n =>
  simp only [Cell.ren]
  split
  ·rename_i i hi
   obtain ⟨A, m, c, g, sz, h, h1⟩ := h
   exact ⟨A, m, c, g, sz, (hl j i hi).trans h, h1⟩
  ·trivial
 | ptr j k c =>
  simp only [Cell.ren]
  split
  ·rename_i i hi
   rcases h with ⟨h0, g, h, h1⟩ | ⟨a, m, cp, g, sz, h, h1⟩
   ·exact .inl ⟨h0, g, (hl j i hi).trans h, h1⟩
   ·exact .inr ⟨a, m, cp, g, sz, (hl j i hi).trans h, h1⟩
  ·trivial
 | fnp g js =>
  simp only [Cell.ren]
  split
  ·rename_i l hi
   obtain ⟨vs, h, h1⟩ := h
   refine ⟨vs, h, aO.comp (fun j i v h1 h2 => ?_) (l5 hi) h1⟩
   obtain ⟨g, h2, h3⟩ := h2
   exact ⟨g, (hl j i h1).trans h2, h3⟩
  ·trivial
theorem sT {ρ ρ' : aE} {w : World} {f : Nat -> Option Nat} (hl : ∀ j i, f j = some i -> ρ'.loc i = ρ.loc j) (ho : ρ'.ok = ρ.ok) {cs : List Cell} {vs : List Value} (h : aO (rc ρ w) cs vs) : aO (rc ρ' w) (cs.map (·.ren f)) vs :=
 h.dD _ fun c v _ h => IE hl ho h
theorem wz {ρ ρ' : aE} {w : World} {f : Nat -> Option Nat} (hl : ∀ j i, f j = some i -> ρ'.loc i = ρ.loc j) (ho : ρ'.ok = ρ.ok) {x : AV} {v : Value} (h : rav ρ w x v) : rav ρ' w (x.ren f) v := by
 cases x with
 | one c => exact IE hl ho h
 | agg cs =>
  obtain ⟨vs, h, h1⟩ := h
  exact ⟨vs, h, sT hl ho h1⟩
 | tup ps =>
  obtain ⟨vs, h, h1⟩ := h
  refine ⟨vs, h, h1.dD _ fun p v _ h => ?_⟩
  obtain ⟨g, cs⟩ := p
  cases g with
  | true =>
   obtain ⟨vs, h, h1⟩ := h
   exact ⟨vs, h, sT hl ho h1⟩
  | false =>
   obtain ⟨c, rfl, h⟩ := h
   exact ⟨_, rfl, IE hl ho h⟩
theorem Ie {f : Nat -> Option Nat} {c : Cell} {d : Nat} (h : (c.ren f).ak d = true) : ∃ j, f j = some d /\ c.ak j = true := by
 cases c with
 | sl j =>
  simp only [Cell.ren] at h
  split at h
  ·rename_i i hi
   have := eq_of_beq h; subst this
   exact ⟨j, hi, by simp [Cell.ak]⟩
  ·cases h
 | sub j o n =>
  simp only [Cell.ren] at h
  split at h
  ·rename_i i hi
   have := eq_of_beq h; subst this
   exact ⟨j, hi, by simp [Cell.ak]⟩
  ·cases h
 | ptr j k c =>
  simp only [Cell.ren] at h
  split at h
  ·rename_i i hi
   have := eq_of_beq h; subst this
   exact ⟨j, hi, by simp [Cell.ak]⟩
  ·cases h
 | fnp g js =>
  simp only [Cell.ren] at h
  split at h
  ·rename_i l hi
   have h : l.contains d = true := h
   rw [List.contains_iff_mem] at h
   have key : ∀ {js l : List Nat}, aO (fun j i => f j = some i) js l -> d ∈ l -> ∃ j ∈ js, f j = some d := by
    intro js l hl
    induction hl with
    | nil => intro h; cases h
    | cons h0 _ ih =>
     intro h
     rcases List.mem_cons.1 h with rfl | h
     ·exact ⟨_, List.mem_cons_self, h0⟩
     ·obtain ⟨j, h1, h2⟩ := ih h
      exact ⟨j, List.mem_cons_of_mem _ h1, h2⟩
   obtain ⟨j, h1, h2⟩ := key (l5 hi) h
   exact ⟨j, h2, by simp [Cell.ak, h1]⟩
  ·cases h
 | _ => cases h
theorem Di {f : Nat -> Option Nat} {cs : List Cell} {d : Nat} (h : (cs.map (·.ren f)).any (·.ak d) = true) : ∃ j, f j = some d /\ cs.any (·.ak j) = true := by
 obtain ⟨c', hc', hd⟩ := List.any_eq_true.1 h
 obtain ⟨c, hc, rfl⟩ := List.mem_map.1 hc'
 obtain ⟨j, h1, h2⟩ := Ie hd
 exact ⟨j, h1, List.any_eq_true.2 ⟨c, hc, h2⟩⟩
theorem D9 {f : Nat -> Option Nat} {x : AV} {d : Nat} (h : (x.ren f).ak d = true) : ∃ j, f j = some d /\ x.ak j = true := by
 cases x with
 | one c => exact Ie h
 | agg cs => exact Di h
 | tup ps =>
  obtain ⟨q, hq, hd⟩ := List.any_eq_true.1 h
  obtain ⟨p, hp, rfl⟩ := List.mem_map.1 hq
  obtain ⟨j, h1, h2⟩ := Di hd
  exact ⟨j, h1, List.any_eq_true.2 ⟨p, hp, h2⟩⟩
theorem Ur {f : Nat -> Option Nat} {b : Blk} {d : Nat} (h : (b.ren f).ak d = true) : ∃ j, f j = some d /\ b.ak j = true := by
 cases b with
 | box t cs => exact Di h
 | _ => cases h
theorem QQ {ρ ρ' : aE} {w : World} {f : Nat -> Option Nat} (hl : ∀ j i, f j = some i -> ρ'.loc i = ρ.loc j) (ho : ρ'.ok = ρ.ok) {j i : Nat} {b : Blk} (hi : ρ'.loc i = ρ.loc j) (h : ku ρ w j b) : ku ρ' w i (b.ren f) := by
 cases b with
 | box t cs =>
  obtain ⟨g, vs, h1, h2, h3⟩ := h
  exact ⟨g, vs, hi.trans h1, h2, sT hl ho h3⟩
 | arr e t l b =>
  obtain ⟨v, g, xs, h1, h2, h3⟩ := h
  exact ⟨v, g, xs, hi.trans h1, by rw [ho]; exact h2, h3⟩
 | fro e t l b =>
  obtain ⟨v, g, h1, h2⟩ := h
  exact ⟨v, g, hi.trans h1, by rw [ho]; exact h2⟩
theorem pr {f : Nat -> Option Nat} {sg : Sig} : ∀ {js : List (Nat × Nat)}, da js = true -> ∀ {i : Nat} {b : Blk}, (sg.sel f js).get i = some b -> ∃ j b0, (j, i) ∈ js /\ sg.get j = some b0 /\ b = b0.ren f
 | [], _, i, b, h => by cases h
 | (j, k) :: r, hj, i, b, h => by
  have hr : da r = true := by
   simp only [da, List.map_cons, nodup, Bool.and_eq_true] at hj ⊢
   exact ⟨hj.1.2, hj.2.2⟩
  simp only [Sig.sel] at h
  split at h
  ·rename_i b0 hb
   simp only [Sig.get, aP, beq_iff_eq] at h
   split at h
   ·rename_i he
    cases h
    subst he
    exact ⟨j, b0, List.mem_cons_self, hb, rfl⟩
   ·obtain ⟨j', b', h1, h2, h3⟩ := pr hr h
    exact ⟨j', b', List.mem_cons_of_mem _ h1, h2, h3⟩
  ·obtain ⟨j', b', h1, h2, h3⟩ := pr hr h
   exact ⟨j', b', List.mem_cons_of_mem _ h1, h2, h3⟩
theorem lE {f : Nat -> Option Nat} {sg : Sig} : ∀ {js : List (Nat × Nat)} {j i : Nat}, (j, i) ∈ js -> (sg.get j).isSome = true -> ((sg.sel f js).get i).isSome = true
 | [], _, _, h, _ => by cases h
 | (a, k) :: r, j, i, h, hs => by
  simp only [Sig.sel]
  rcases List.mem_cons.1 h with h | h
  ·cases h
   obtain ⟨b, hb⟩ := Option.isSome_iff_exists.1 hs
   rw [hb]
   simp [Sig.get]
  ·have ih := lE (f := f) h hs
   split
   ·simp only [Sig.get, aP]
    split
    ·rfl
    ·exact ih
   ·exact ih
section
variable {P : Program} {E : Env} {B : Nat} {O O' : Ow} {w0 w w' : World} {ρ ρ' : aE} {a : Act} {R : Type} {r : R} {sg sg' : Sig} {st : St} {call : bh}
theorem nf {js : List (Nat × Nat)} (hj : da js = true) {f : Nat -> Option Nat} (hl : ∀ j i, (j, i) ∈ js -> ρ'.loc i = ρ.loc j) {i g : Nat} (h : bE ρ' (sg.sel f js) i g) : ∃ j, (j, i) ∈ js /\ bE ρ sg j g := by
 obtain ⟨b, h1, h2, h3⟩ := aC.1 h
 obtain ⟨j, b0, h4, h5, rfl⟩ := pr hj h1
 refine ⟨j, h4, aC.2 ⟨b0, h5, ?_, ?_⟩⟩
 ·rintro e t l q rfl; exact h2 _ _ _ _ rfl
 ·rw [hl j i h4] at h3
  cases b0 with
  | box ty cs =>
   rcases h3 with ⟨_, _, _, h3⟩ | ⟨_, _, _, _, h3, _⟩
   ·exact .inl ⟨_, _, rfl, h3⟩
   ·cases h3
  | arr e t l q =>
   rcases h3 with ⟨_, _, h3, _⟩ | ⟨_, _, _, _, _, h3⟩
   ·cases h3
   ·exact .inr ⟨_, _, _, _, rfl, h3⟩
  | fro e t l q => exact absurd rfl (h2 e t l q)
theorem Mem.sel (h : Mem B O ρ sg w) {js : List (Nat × Nat)} (hj : da js = true) (hs : ∀ j i, (j, i) ∈ js -> (sg.get j).isSome = true) (hl : ∀ j i, (j, i) ∈ js -> ρ'.loc i = ρ.loc j) (ho : ρ'.ok = ρ.ok) : Mem B O ρ' (sg.sel (look js) js) w := by
 have hl' : ∀ j i, look js j = some i -> ρ'.loc i = ρ.loc j := fun j i h => hl j i (cY h)
 refine ⟨fun i b hi => ?_, fun i k g hi hk => ?_, fun i g hi => ?_, fun b g hg => h.okb b g (by rw [← ho]; exact hg), fun b g hg i hi => ?_, fun g hg => (by rw [ho] at hg ⊢; exact h.okm g hg), fun b g hg => h.okx b g (by rw [← ho]; exact hg), fun b g hg => (by rw [ho]; exact h.oky b g hg), fun i b d hi hd => ?_⟩
 ·obtain ⟨j, b0, h1, h2, rfl⟩ := pr hj hi
  exact QQ hl' ho (hl j i h1) (h.blk j b0 h2)
 ·obtain ⟨j, h1, h2⟩ := nf hj hl hi
  obtain ⟨j', h3, h4⟩ := nf hj hl hk
  have := h.inj j j' g h2 h4
  subst this
  exact pq hj h1 h3
 ·obtain ⟨j, h1, h2⟩ := nf hj hl hi
  exact h.old j g h2
 ·obtain ⟨j, h1, h2⟩ := nf hj hl hi
  exact h.oko b g (by rw [← ho]; exact hg) j h2
 ·obtain ⟨j, b0, h1, h2, rfl⟩ := pr hj hi
  obtain ⟨k, h3, h4⟩ := Ur hd
  exact lE (cY h3) (hs k d (cY h3))
def eJ (ρ : aE) (js : List (Nat × Nat)) : Nat -> Loc := fun i => match dO js i with | some j => ρ.loc j | none => ρ.loc i
theorem dI {js : List (Nat × Nat)} (hj : da js = true) {j i : Nat} (h : (j, i) ∈ js) : eJ ρ js i = ρ.loc j := by
 unfold eJ
 rw [(ja hj).2 h]
end
end Go.Proofs.YtahlaccdpmddbaaGreat.Lib
namespace Go.Proofs.YtahlaccdpmddbaaGreat.Lib
open Go Go.RowKit
set_option linter.unusedVariables false
set_option linter.unusedSimpArgs false
theorem Qu (s : Sig) (f : Nat -> Blk -> Blk) (i : Nat) : Sig.get i (s.map fun p => (p.1, f p.1 p.2)) = (s.get i).map (f i) := by
 induction s with
 | nil => rfl
 | cons q r ih =>
  obtain ⟨a, c⟩ := q
  simp only [List.map_cons, Sig.get, ih, aP, beq_iff_eq]
  split
  ·rename_i he; subst he; rfl
  ·rfl
theorem gY {sg : Sig} : ∀ {gs : List (Nat × GP)} {j : Nat} {b : Blk}, (jV sg gs).get j = some b -> sg.get j = none /\ j < PIN /\ ∃ e t, b = .arr e t [] false
 | [], j, b, h => by cases h
 | (i, g) :: r, j, b, h => by
  simp only [jV] at h
  split at h
  ·rename_i e t q
   simp only [aP] at h
   split at h
   ·rename_i hc
    simp only [Bool.and_eq_true, Option.isNone_iff_eq_none, Nat.blt_eq] at hc
    simp only [Sig.get, aP, beq_iff_eq] at h
    split at h
    ·rename_i he
     subst he
     cases h
     exact ⟨hc.1, hc.2, _, _, rfl⟩
    ·exact gY h
   ·exact gY h
  ·exact gY h
def cn (ρ : aE) (add : Sig) (i : Nat) : Loc := match add.get i with | some (.arr _ t _ _) => .arr (.slice none 0 0) none t.sz | _ => ρ.loc i
section
variable {P : Program} {E : Env} {B : Nat} {O O' : Ow} {w0 w w' : World} {ρ ρ' : aE} {a : Act} {R : Type} {r : R} {sg sg' : Sig} {st : St} {call : bh}
theorem BR {add : Sig} (hadd : ∀ j b, add.get j = some b -> ∃ e t, b = .arr e t [] false) {p : CP} {c : Cell} {v : Value} (h : rc ⟨cn ρ add, ρ.ok⟩ w c v) : rc ⟨cn ρ add, ρ.ok⟩ w (tq add p c) v := by
 unfold tq
 split
 ·rename_i j
  rw [aP]
  split
  ·rename_i hj
   obtain ⟨b, hb⟩ := Option.isSome_iff_exists.1 hj
   obtain ⟨e, t, rfl⟩ := hadd j b hb
   have h : v = .slice none 0 0 := h
   subst h
   exact ⟨none, t.sz, by simp only [cn, hb]⟩
  ·exact h
 ·exact h
theorem vI {add : Sig} {p : CP} {c : Cell} {d : Nat} (h : (tq add p c).ak d = true) : c.ak d = true ∨ (add.get d).isSome = true := by
 unfold tq at h
 split at h
 ·rename_i j
  rw [aP] at h
  split at h
  ·rename_i hj
   have := eq_of_beq h; subst this
   exact .inr hj
  ·cases h
 ·exact .inl h
theorem pc {add : Sig} (hadd : ∀ j b, add.get j = some b -> ∃ e t, b = .arr e t [] false) : ∀ {ps : List CP} {cs : List Cell} {vs : List Value}, aO (rc ⟨cn ρ add, ρ.ok⟩ w) cs vs -> aO (rc ⟨cn ρ add, ρ.ok⟩ w) (nU add ps cs) vs
 | [], cs, vs, h => h
 | p :: r, cs, vs, h => by
  simp only [nU]
  split
  ·rename_i t b
   have h1 := h.take t.sz
   have h2 := pc hadd (ps := r) (h.drop t.sz)
   have := h1.append h2
   rwa [List.take_append_drop] at this
  ·split
   ·rename_i c cs
    cases h with
    | cons h0 h1 => exact .cons (BR hadd h0) (pc hadd h1)
   ·exact h
theorem jT {add : Sig} : ∀ {ps : List CP} {cs : List Cell} {d : Nat}, (nU add ps cs).any (·.ak d) = true -> cs.any (·.ak d) = true ∨ (add.get d).isSome = true
 | [], cs, d, h => .inl h
 | p :: r, cs, d, h => by
  simp only [nU] at h
  split at h
  ·rename_i t b
   rw [List.any_append, Bool.or_eq_true] at h
   rcases h with h | h
   ·left
    obtain ⟨c, hc, hd⟩ := List.any_eq_true.1 h
    exact List.any_eq_true.2 ⟨c, List.mem_of_mem_take hc, hd⟩
   ·rcases jT h with h | h
    ·left
     obtain ⟨c, hc, hd⟩ := List.any_eq_true.1 h
     exact List.any_eq_true.2 ⟨c, List.mem_of_mem_drop hc, hd⟩
    ·exact .inr h
  ·split at h
   ·rename_i c cs
    rw [List.any_cons, Bool.or_eq_true] at h ⊢
    rcases h with h | h
    ·exact (vI h).imp .inl id
    ·exact (jT h).imp .inr id
   ·exact .inl h
theorem JN {add : Sig} (hadd : ∀ j b, add.get j = some b -> ∃ e t, b = .arr e t [] false) {s : SP} {x : AV} {v : Value} (h : rav ⟨cn ρ add, ρ.ok⟩ w x v) : rav ⟨cn ρ add, ρ.ok⟩ w (tB add s x) v := by
 unfold tB
 split
 ·exact BR hadd h
 ·obtain ⟨vs, h, h1⟩ := h
  exact ⟨vs, h, pc hadd h1⟩
 ·exact h
theorem ES {add : Sig} {s : SP} {x : AV} {d : Nat} (h : (tB add s x).ak d = true) : x.ak d = true ∨ (add.get d).isSome = true := by
 unfold tB at h
 split at h
 ·exact vI h
 ·exact jT h
 ·exact .inl h
theorem qX {add : Sig} : ∀ {ss : List SP} {vs : List AV} {i : Nat} {x : AV}, (lA add ss vs)[i]? = some x -> ∃ v, vs[i]? = some v /\ (x = v ∨ ∃ s, x = tB add s v)
 | [], vs, i, x, h => ⟨x, h, .inl rfl⟩
 | s :: ss, [], i, x, h => ⟨x, h, .inl rfl⟩
 | s :: ss, v :: vs, i, x, h => by
  cases i with
  | zero =>
   simp only [lA, List.getElem?_cons_zero, Option.some.injEq] at h
   exact ⟨v, rfl, .inr ⟨s, h.symm⟩⟩
  | succ i =>
   simp only [lA, List.getElem?_cons_succ] at h ⊢
   exact qX h
theorem w3 {add : Sig} : ∀ {ss : List SP} {vs : List AV}, (lA add ss vs).length = vs.length
 | [], vs => by simp [lA]
 | s :: ss, [] => by simp [lA]
 | s :: ss, v :: vs => by simp [lA, w3]
theorem Sim.fresh (h : Sim P B O w0 ρ st a w) (ss : List SP) (gs : List (Nat × GP)) :
  ∃ ρ', Sim P B O w0 ρ' (st.fresh ss gs) a w /\ ρ'.ok = ρ.ok /\ (∀ i, PIN <= i -> ρ'.loc i = ρ.loc i) /\ ∀ j g, bE ρ' (st.fresh ss gs).sg j g -> bE ρ st.sg j g := by
 unfold St.fresh
 split
 ·exact ⟨ρ, h, rfl, fun _ _ => rfl, fun _ _ h => h⟩
 ·rename_i q0 r0 hq
  rw [← hq]
  have hspec : ∀ j b, (jV st.sg gs).get j = some b -> st.sg.get j = none /\ j < PIN /\ ∃ e t, b = .arr e t [] false := fun j b h => gY h
  generalize jV st.sg gs = add at hspec
  clear hq
  have hadd : ∀ j b, add.get j = some b -> ∃ e t, b = .arr e t [] false := fun j b h => (hspec j b h).2.2
  have hnone : ∀ j, (st.sg.get j).isSome = true -> add.get j = none := fun j hj => by
   cases hb : add.get j with
   | none => rfl
   | some b => rw [(hspec j b hb).1] at hj; cases hj
  have hloc : ∀ j, (st.sg.get j).isSome = true -> cn ρ add j = ρ.loc j := fun j hj => by simp only [cn, hnone j hj]
  have hst : Step (fun j => (st.sg.get j).isSome = true) ρ ⟨cn ρ add, ρ.ok⟩ w w := ⟨hloc, fun _ _ h => h, fun _ _ _ => rfl⟩
  have hget : ∀ j, (add ++ st.sg.map fun p => (p.1, jS add gs p.1 p.2)).get j = (add.get j).or ((st.sg.get j).map (jS add gs j)) := fun j => by rw [Sig.get_append, Qu]
  have hown : ∀ j g, bE ⟨cn ρ add, ρ.ok⟩ (add ++ st.sg.map fun p => (p.1, jS add gs p.1 p.2)) j g -> bE ρ st.sg j g := by
   intro j g ho
   obtain ⟨b, h1, h2, h3⟩ := aC.1 ho
   rw [hget] at h1
   cases hb : add.get j with
   | some b0 =>
    obtain ⟨e, t, rfl⟩ := hadd j b0 hb
    rw [hb] at h1
    simp only [Option.some_or, Option.some.injEq] at h1
    subst h1
    rcases h3 with ⟨_, _, h3, _⟩ | ⟨_, _, _, _, _, v, sz, h3⟩
    ·cases h3
    ·simp only [cn, hb] at h3
     cases h3
   | none =>
    rw [hb, Option.none_or, Option.map_eq_some_iff] at h1
    obtain ⟨b0, h4, rfl⟩ := h1
    simp only [hloc j (by rw [h4]; rfl)] at h3
    cases b0 with
    | box ty cs =>
     refine aC.2 ⟨_, h4, by simp, .inl ⟨_, _, rfl, ?_⟩⟩
     rcases h3 with ⟨_, _, _, h3⟩ | ⟨_, _, _, _, h3, _⟩
     ·exact h3
     ·simp only [jS] at h3
      split at h3 <;> cases h3
    | arr e t l q =>
     refine aC.2 ⟨_, h4, by simp, .inr ⟨_, _, _, _, rfl, ?_⟩⟩
     rcases h3 with ⟨_, _, h3, _⟩ | ⟨_, _, _, _, _, h3⟩
     ·cases h3
     ·exact h3
    | fro e t l q => exact absurd rfl (h2 e t l q)
  have hsome : ∀ d, (st.sg.get d).isSome = true ∨ (add.get d).isSome = true -> ((add ++ st.sg.map fun p => (p.1, jS add gs p.1 p.2)).get d).isSome = true := by
   intro d hd
   rw [hget]
   cases hb : add.get d with
   | some b => rfl
   | none =>
    rw [hb] at hd
    rw [Option.none_or, Option.isSome_map]
    rcases hd with hd | hd
    ·exact hd
    ·cases hd
  refine ⟨⟨cn ρ add, ρ.ok⟩, ⟨⟨fun j b hj => ?_, fun i j g hi hj => h.mem.inj i j g (hown i g hi) (hown j g hj), fun j g hj => h.mem.old j g (hown j g hj), h.mem.okb, fun b g hg j hj => h.mem.oko b g hg j (hown j g hj), h.mem.okm, h.mem.okx, h.mem.oky, fun j b d hj hd => ?_⟩, by rw [h.len]; exact w3.symm, fun i v hi => ?_, fun i v d hi hd => ?_, h.defers, h.fr, h.base, fun j hj => ?_, h.glo⟩, rfl, fun i hi => ?_, hown⟩
  ·rw [hget] at hj
   cases hb : add.get j with
   | some b0 =>
    obtain ⟨e, t, rfl⟩ := hadd j b0 hb
    rw [hb] at hj
    simp only [Option.some_or, Option.some.injEq] at hj
    subst hj
    exact ⟨.slice none 0 0, none, [], by simp only [cn, hb], ⟨by simp, fun j p hp => by simp at hp⟩, rfl, none, rfl⟩
   | none =>
    rw [hb, Option.none_or, Option.map_eq_some_iff] at hj
    obtain ⟨b0, h4, rfl⟩ := hj
    have hr := dC hst (by rw [h4]; rfl) (fun x hx => h.mem.dom j b0 x h4 hx) (fun _ _ _ => rfl) (h.mem.blk j b0 h4)
    cases b0 with
    | arr e t l q => exact hr
    | fro e t l q => exact hr
    | box ty cs =>
     simp only [jS]
     split
     ·obtain ⟨g, vs, a1, a2, a3⟩ := hr
      exact ⟨g, vs, a1, a2, pc hadd a3⟩
     ·exact hr
  ·rw [hget] at hj
   cases hb : add.get j with
   | some b0 =>
    obtain ⟨e, t, rfl⟩ := hadd j b0 hb
    rw [hb] at hj
    simp only [Option.some_or, Option.some.injEq] at hj
    subst hj
    cases hd
   | none =>
    rw [hb, Option.none_or, Option.map_eq_some_iff] at hj
    obtain ⟨b0, h4, rfl⟩ := hj
    cases b0 with
    | arr e t l q => cases hd
    | fro e t l q => cases hd
    | box ty cs =>
     simp only [jS] at hd
     split at hd
     ·exact hsome d ((jT hd).imp (fun hd => h.mem.dom j _ d h4 hd) id)
     ·exact hsome d (.inl (h.mem.dom j _ d h4 hd))
  ·obtain ⟨x, h1, h2⟩ := qX hi
   obtain ⟨u, h3, h4⟩ := h.sl i x h1
   have h5 := cK hst (fun d hd => h.dom i x d h1 hd) h4
   rcases h2 with rfl | ⟨s, rfl⟩
   ·exact ⟨u, h3, h5⟩
   ·exact ⟨u, h3, JN hadd h5⟩
  ·obtain ⟨x, h1, h2⟩ := qX hi
   rcases h2 with rfl | ⟨s, rfl⟩
   ·exact hsome d (.inl (h.dom i _ d h1 hd))
   ·exact hsome d ((ES hd).imp (fun hd => h.dom i x d h1 hd) id)
  ·refine Eq.trans ?_ (h.pin j hj)
   simp only [cn]
   split
   ·rename_i hb
    have := (hspec j _ hb).2.1
    omega
   ·rfl
  ·simp only [cn]
   split
   ·rename_i hb
    have := (hspec i _ hb).2.1
    omega
   ·rfl
theorem DA (h : Mem B O ρ sg w) {c : Cell} {v : Value} (hr : rc ρ w c v) : rc ρ w (c.er sg) v := by
 unfold Cell.er
 split
 ·rename_i j
  split
  ·rename_i e t l b hj
   obtain ⟨g, sz, hl⟩ := hr
   obtain ⟨v', g', hl', hp⟩ := h.blk j _ hj
   rw [hl] at hl'; cases hl'
   exact hp
  ·exact hr
 ·rename_i j o n
  split
  ·rename_i e t l b hj
   obtain ⟨A, N, c, g, sz, hl, hle, hsub⟩ := hr
   obtain ⟨v', g', hl', hp⟩ := h.blk j _ hj
   rw [hl] at hl'; cases hl'
   have hp0 := hp
   simp only [Rp] at hp0
   obtain ⟨A', c', h1, _⟩ := hp0
   simp only [List.cons.injEq, Value.slice.injEq, and_true] at h1
   obtain ⟨rfl, rfl, rfl⟩ := h1
   exact I2 hp hle hsub
  ·exact hr
 ·exact hr
theorem A6 {c : Cell} {d : Nat} (h : (c.er sg).ak d = true) : c.ak d = true := by
 unfold Cell.er at h
 split at h
 ·split at h
  ·cases h
  ·exact h
 ·split at h
  ·cases h
  ·exact h
 ·exact h
theorem Ff {cs : List Cell} {d : Nat} (h : (cs.map (·.er sg)).any (·.ak d) = true) : cs.any (·.ak d) = true := by
 obtain ⟨c', hc', hd⟩ := List.any_eq_true.1 h
 obtain ⟨c, hc, rfl⟩ := List.mem_map.1 hc'
 exact List.any_eq_true.2 ⟨c, hc, A6 hd⟩
theorem Sim.er (h : Sim P B O w0 ρ st a w) : Sim P B O w0 ρ st.er a w := by
 unfold St.er
 rw [aP]
 split
 ·have hget : ∀ j, Sig.get j (st.sg.map fun q => (q.1, q.2.er st.sg)) = (st.sg.get j).map (·.er st.sg) := fun j => Sig.get_map _ _ _
  have hown : ∀ j g, bE ρ (st.sg.map fun q => (q.1, q.2.er st.sg)) j g -> bE ρ st.sg j g := by
   intro j g ho
   obtain ⟨b, h1, h2, h3⟩ := aC.1 ho
   rw [hget, Option.map_eq_some_iff] at h1
   obtain ⟨b0, h4, rfl⟩ := h1
   refine aC.2 ⟨b0, h4, ?_, ?_⟩
   ·rintro e t l q rfl; exact h2 _ _ _ _ rfl
   ·cases b0 with
    | box ty cs =>
     rcases h3 with ⟨_, _, _, h3⟩ | ⟨_, _, _, _, h3, _⟩
     ·exact .inl ⟨_, _, rfl, h3⟩
     ·cases h3
    | arr e t l q =>
     rcases h3 with ⟨_, _, h3, _⟩ | ⟨_, _, _, _, _, h3⟩
     ·cases h3
     ·exact .inr ⟨_, _, _, _, rfl, h3⟩
    | fro e t l q => exact absurd rfl (h2 e t l q)
  refine ⟨⟨fun j b hj => ?_, fun i j g hi hj => h.mem.inj i j g (hown i g hi) (hown j g hj), fun j g hj => h.mem.old j g (hown j g hj), h.mem.okb, fun b g hg j hj => h.mem.oko b g hg j (hown j g hj), h.mem.okm, h.mem.okx, h.mem.oky, fun j b d hj hd => ?_⟩, by simpa using h.len, fun i v hi => ?_, fun i v d hi hd => ?_, h.defers, h.fr, h.base, h.pin, h.glo⟩
  ·rw [hget, Option.map_eq_some_iff] at hj
   obtain ⟨b0, h4, rfl⟩ := hj
   have hr := h.mem.blk j b0 h4
   cases b0 with
   | box ty cs =>
    obtain ⟨g, vs, h1, h2, h3⟩ := hr
    exact ⟨g, vs, h1, h2, h3.dD _ fun c v _ hc => DA h.mem hc⟩
   | arr e t l q => exact hr
   | fro e t l q => exact hr
  ·rw [hget, Option.map_eq_some_iff] at hj
   obtain ⟨b0, h4, rfl⟩ := hj
   rw [hget, Option.isSome_map]
   cases b0 with
   | box ty cs => exact h.mem.dom j _ d h4 (Ff hd)
   | arr e t l q => cases hd
   | fro e t l q => cases hd
  ·rw [List.getElem?_map, Option.map_eq_some_iff] at hi
   obtain ⟨v0, h1, rfl⟩ := hi
   obtain ⟨u, h2, h3⟩ := h.sl i v0 h1
   refine ⟨u, h2, ?_⟩
   cases v0 with
   | one c => exact DA h.mem h3
   | agg cs =>
    obtain ⟨vs, h3, h4⟩ := h3
    exact ⟨vs, h3, h4.dD _ fun c v _ hc => DA h.mem hc⟩
   | tup ps => exact h3
  ·rw [List.getElem?_map, Option.map_eq_some_iff] at hi
   obtain ⟨v0, h1, rfl⟩ := hi
   show (Sig.get d (st.sg.map fun q => (q.1, q.2.er st.sg))).isSome = true
   rw [hget, Option.isSome_map]
   refine h.dom i v0 d h1 ?_
   cases v0 with
   | one c => exact A6 hd
   | agg cs => exact Ff hd
   | tup ps => exact hd
 ·exact h
theorem R2 (s : St) : s.er.sl.length = s.sl.length := by
 unfold St.er
 rw [aP]
 split
 ·simp
 ·rfl
theorem CJ (h : Mem B O ρ sg w) {p : SP} {v v' : AV} {u : Value} (hr : rav ρ w v u) (hs : Dj p sg v = (sg', v')) :
  ∃ ρ', en ρ ρ' /\ Mem B O ρ' sg' w /\ cX sg sg' /\ rav ρ' w v' u /\ ∀ d, v'.ak d = true -> v.ak d = true := by
 have same : ∀ {sg' : Sig} {v' : AV}, (sg, v) = (sg', v') -> ∃ ρ', en ρ ρ' /\ Mem B O ρ' sg' w /\ cX sg sg' /\ rav ρ' w v' u /\ ∀ d, v'.ak d = true -> v.ak d = true := by
  intro sg' v' he
  cases he
  exact ⟨ρ, en.refl _, h, cX.refl _, hr, fun _ h => h⟩
 have set : ∀ {sg' : Sig} {v' : AV}, (dw sg v).getD (sg, v) = (sg', v') -> ∃ ρ', en ρ ρ' /\ Mem B O ρ' sg' w /\ cX sg sg' /\ rav ρ' w v' u /\ ∀ d, v'.ak d = true -> v.ak d = true := by
  intro sg' v' he
  cases hx : dw sg v with
  | none => rw [hx] at he; exact same he
  | some q =>
   rw [hx] at he
   obtain ⟨sg1, v1⟩ := q
   cases he
   exact jC h hr hx
 unfold Dj at hs
 split at hs
 ·exact set hs
 ·exact set hs
 ·rw [aP] at hs
  split at hs
  ·exact set hs
  ·exact same hs
 ·exact same hs
theorem sK : ∀ (ps : List SP) (sg : Sig) (ρ : aE) (vs : List AV) (us : List Value) (sg' : Sig) (vs' : List AV), Mem B O ρ sg w -> (∀ (i : Nat) (v : AV), vs[i]? = some v -> ∃ u : Value, us[i]? = some u /\ rav ρ w v u) -> oB ps sg vs = (sg', vs') ->
  ∃ ρ', en ρ ρ' /\ Mem B O ρ' sg' w /\ cX sg sg' /\ vs'.length = vs.length /\ (∀ (i : Nat) (v : AV), vs'[i]? = some v -> ∃ u : Value, us[i]? = some u /\ rav ρ' w v u) /\ ∀ (i : Nat) (v' : AV) (d : Nat), vs'[i]? = some v' -> v'.ak d = true -> ∃ v, vs[i]? = some v /\ v.ak d = true
 | [], sg, ρ, vs, us, sg', vs', h, hr, hs => by
  simp only [oB, Prod.mk.injEq] at hs
  obtain ⟨rfl, rfl⟩ := hs
  exact ⟨ρ, en.refl _, h, cX.refl _, rfl, hr, fun i v d hi hd => ⟨v, hi, hd⟩⟩
 | p :: ps, sg, ρ, [], us, sg', vs', h, hr, hs => by
  simp only [oB, Prod.mk.injEq] at hs
  obtain ⟨rfl, rfl⟩ := hs
  exact ⟨ρ, en.refl _, h, cX.refl _, rfl, hr, fun i v d hi hd => ⟨v, hi, hd⟩⟩
 | p :: ps, sg, ρ, v :: vs, us, sg', vs', h, hr, hs => by
  simp only [oB] at hs
  obtain ⟨u0, hu0, hr0⟩ := hr 0 v rfl
  obtain ⟨us, rfl⟩ : ∃ t, us = u0 :: t := by
   cases us with
   | nil => simp at hu0
   | cons x t => simp only [List.getElem?_cons_zero, Option.some.injEq] at hu0; subst hu0; exact ⟨t, rfl⟩
  generalize hx : Dj p sg v = q1 at hs
  obtain ⟨sg1, v1⟩ := q1
  simp only at hs
  generalize hy : oB ps sg1 vs = q2 at hs
  obtain ⟨sg2, vs2⟩ := q2
  simp only [Prod.mk.injEq] at hs
  obtain ⟨rfl, rfl⟩ := hs
  obtain ⟨ρ1, a1, a2, a3, a4, a5⟩ := CJ h hr0 hx
  obtain ⟨ρ2, b1, b2, b3, b4, b5, b6⟩ := sK ps sg1 ρ1 vs us _ _ a2 (fun i x hi => by
   obtain ⟨u, h1, h2⟩ := hr (i + 1) x (by simpa using hi)
   exact ⟨u, by simpa using h1, cK (a1.step w) (fun _ _ => trivial) h2⟩) hy
  refine ⟨ρ2, a1.trans b1, b2, a3.trans b3, by simp [b4], fun i x hi => ?_, fun i x d hi hd => ?_⟩
  ·cases i with
   | zero => simp only [List.getElem?_cons_zero, Option.some.injEq] at hi; subst hi; exact ⟨u0, rfl, cK (b1.step w) (fun _ _ => trivial) a4⟩
   | succ i => simpa using b5 i x (by simpa using hi)
  ·cases i with
   | zero => simp only [List.getElem?_cons_zero, Option.some.injEq] at hi; subst hi; exact ⟨v, rfl, a5 d hd⟩
   | succ i =>
    obtain ⟨y, h1, h2⟩ := b6 i x d (by simpa using hi) hd
    exact ⟨y, by simpa using h1, h2⟩
theorem cX.owns (hf : cX sg sg') (hl : ρ'.loc = ρ.loc) {j g : Nat} (h : bE ρ' sg' j g) : bE ρ sg j g := by
 obtain ⟨b, h1, h2, h3⟩ := aC.1 h
 rw [hl] at h3
 exact aC.2 ⟨b, hf.same j b h1 h2, h2, h3⟩
theorem Sim.L9 (h : Sim P B O w0 ρ st a w) (ss : List SP) : ∃ ρ', Sim P B O w0 ρ' (st.L9 ss) a w /\ en ρ ρ' /\ ∀ j g, bE ρ' (st.L9 ss).sg j g -> bE ρ st.sg j g := by
 unfold St.L9
 generalize hx : oB ss st.sg st.sl = q
 obtain ⟨sg1, sl1⟩ := q
 obtain ⟨ρ1, a1, a2, a3, a4, a5, a6⟩ := sK ss st.sg ρ st.sl a.tmps.toList sg1 sl1 h.mem (fun i v hi => by
  obtain ⟨u, h1, h2⟩ := h.sl i v hi
  exact ⟨u, by simpa using h1, h2⟩) hx
 refine ⟨ρ1, ⟨a2, by simp [a4, h.len], fun i v hi => ?_, fun i v d hi hd => ?_, h.defers, h.fr, h.base, fun j hj => (congrFun a1.loc j).trans (h.pin j hj), h.glo⟩, a1, fun j g hj => a3.owns a1.loc hj⟩
 ·obtain ⟨u, h1, h2⟩ := a5 i v hi
  exact ⟨u, by simpa using h1, h2⟩
 ·obtain ⟨x, h1, h2⟩ := a6 i v d hi hd
  show (sg1.get d).isSome = true
  rw [a3.some]
  exact h.dom i x d h1 h2
theorem MR {j g : Nat} (h : bE ρ st.er.sg j g) : bE ρ st.sg j g := by
 unfold St.er at h
 rw [aP] at h
 split at h
 ·obtain ⟨b, h1, h2, h3⟩ := aC.1 h
  rw [show Sig.get j (st.sg.map fun q => (q.1, q.2.er st.sg)) = _ from Sig.get_map _ _ _, Option.map_eq_some_iff] at h1
  obtain ⟨b0, h4, rfl⟩ := h1
  refine aC.2 ⟨b0, h4, ?_, ?_⟩
  ·rintro e t l q rfl; exact h2 _ _ _ _ rfl
  ·cases b0 with
   | box ty cs =>
    rcases h3 with ⟨_, _, _, h3⟩ | ⟨_, _, _, _, h3, _⟩
    ·exact .inl ⟨_, _, rfl, h3⟩
    ·cases h3
   | arr e t l q =>
    rcases h3 with ⟨_, _, h3, _⟩ | ⟨_, _, _, _, _, h3⟩
    ·cases h3
    ·exact .inr ⟨_, _, _, _, rfl, h3⟩
   | fro e t l q => exact absurd rfl (h2 e t l q)
 ·exact h
theorem Mem.fresh (h : Mem B O ρ sg w) {add : Sig} (hspec : ∀ j b, add.get j = some b -> sg.get j = none /\ j < PIN /\ ∃ e t, b = .arr e t [] false) :
  Mem B O ⟨cn ρ add, ρ.ok⟩ (add ++ sg) w /\ Step (fun j => (sg.get j).isSome = true) ρ ⟨cn ρ add, ρ.ok⟩ w w /\ ∀ i, PIN <= i -> cn ρ add i = ρ.loc i := by
 have hnone : ∀ j, (sg.get j).isSome = true -> add.get j = none := fun j hj => by
  cases hb : add.get j with
  | none => rfl
  | some b => rw [(hspec j b hb).1] at hj; cases hj
 have hloc : ∀ j, (sg.get j).isSome = true -> cn ρ add j = ρ.loc j := fun j hj => by simp only [cn, hnone j hj]
 have hst : Step (fun j => (sg.get j).isSome = true) ρ ⟨cn ρ add, ρ.ok⟩ w w := ⟨hloc, fun _ _ h => h, fun _ _ _ => rfl⟩
 have hown : ∀ j g, bE ⟨cn ρ add, ρ.ok⟩ (add ++ sg) j g -> bE ρ sg j g := by
  intro j g ho
  obtain ⟨b, h1, h2, h3⟩ := aC.1 ho
  rw [Sig.get_append] at h1
  cases hb : add.get j with
  | some b0 =>
   obtain ⟨_, _, e, t, rfl⟩ := hspec j b0 hb
   rw [hb] at h1
   simp only [Option.some_or, Option.some.injEq] at h1
   subst h1
   rcases h3 with ⟨_, _, h3, _⟩ | ⟨_, _, _, _, _, v, sz, h3⟩
   ·cases h3
   ·simp only [cn, hb] at h3
    cases h3
  | none =>
   rw [hb, Option.none_or] at h1
   simp only [hloc j (by rw [h1]; rfl)] at h3
   exact aC.2 ⟨b, h1, h2, h3⟩
 refine ⟨⟨fun j b hj => ?_, fun i j g hi hj => h.inj i j g (hown i g hi) (hown j g hj), fun j g hj => h.old j g (hown j g hj), h.okb, fun b g hg j hj => h.oko b g hg j (hown j g hj), h.okm, h.okx, h.oky, fun j b d hj hd => ?_⟩, hst, fun i hi => ?_⟩
 ·rw [Sig.get_append] at hj
  cases hb : add.get j with
  | some b0 =>
   obtain ⟨_, _, e, t, rfl⟩ := hspec j b0 hb
   rw [hb] at hj
   simp only [Option.some_or, Option.some.injEq] at hj
   subst hj
   exact ⟨.slice none 0 0, none, [], by simp only [cn, hb], ⟨by simp, fun j p hp => by simp at hp⟩, rfl, none, rfl⟩
  | none =>
   rw [hb, Option.none_or] at hj
   exact dC hst (by show _ = _; rw [hj]; rfl) (fun x hx => h.dom j b x hj hx) (fun _ _ _ => rfl) (h.blk j b hj)
 ·rw [Sig.get_append] at hj ⊢
  cases hb : add.get j with
  | some b0 =>
   obtain ⟨_, _, e, t, rfl⟩ := hspec j b0 hb
   rw [hb] at hj
   simp only [Option.some_or, Option.some.injEq] at hj
   subst hj
   cases hd
  | none =>
   rw [hb, Option.none_or] at hj
   have := h.dom j b d hj hd
   obtain ⟨b1, hb1⟩ := Option.isSome_iff_exists.1 this
   cases add.get d with
   | some b2 => rfl
   | none => rw [Option.none_or, hb1]; rfl
 ·simp only [cn]
  split
  ·rename_i hb
   have := (hspec i _ hb).2.1
   omega
  ·rfl
theorem fD {add0 : Sig} (hl : ∀ q ∈ add0, ρ'.loc q.1 = .arr (.slice none 0 0) none (match q.2 with | .arr _ t _ _ => t.sz | _ => 0)) : ∀ {ks : List (Option (TypeId × Ty))} {p : Nat} {cs cs' : List Cell} {add : Sig} {vs : List Value}, dt ks p cs = (cs', add) -> (∀ q ∈ add, q ∈ add0) -> aO (rc ρ' w) cs vs -> aO (rc ρ' w) cs' vs
 | [], p, cs, cs', add, vs, h, hs, hr => by
  simp only [dt, Prod.mk.injEq] at h
  obtain ⟨rfl, rfl⟩ := h
  exact hr
 | q :: ks, p, [], cs', add, vs, h, hs, hr => by
  simp only [dt, Prod.mk.injEq] at h
  obtain ⟨rfl, rfl⟩ := h
  exact hr
 | q :: ks, p, c :: cs, cs', add, vs, h, hs, hr => by
  simp only [dt] at h
  generalize hn : dt ks (p + 1) cs = r at h
  obtain ⟨cs1, add1⟩ := r
  simp only at h
  cases hr with
  | @cons _ v _ vs hr0 hr1 =>
  split at h
  ·rename_i e t
   simp only [Prod.mk.injEq] at h
   obtain ⟨rfl, rfl⟩ := h
   have hv : v = .slice none 0 0 := hr0
   subst hv
   exact .cons ⟨none, t.sz, hl _ (hs _ List.mem_cons_self)⟩ (fD hl hn (fun x hx => hs x (List.mem_cons_of_mem _ hx)) hr1)
  ·simp only [Prod.mk.injEq] at h
   obtain ⟨rfl, rfl⟩ := h
   exact .cons hr0 (fD hl hn hs hr1)
theorem gU : ∀ {ks : List (Option (TypeId × Ty))} {p : Nat} {cs cs' : List Cell} {add : Sig}, dt ks p cs = (cs', add) -> ∀ q ∈ add, ∃ e t, q.2 = .arr e t [] false
 | [], p, cs, cs', add, h => by
  simp only [dt, Prod.mk.injEq] at h
  obtain ⟨rfl, rfl⟩ := h
  intro q hq; cases hq
 | q :: ks, p, [], cs', add, h => by
  simp only [dt, Prod.mk.injEq] at h
  obtain ⟨rfl, rfl⟩ := h
  intro q hq; cases hq
 | q :: ks, p, c :: cs, cs', add, h => by
  simp only [dt] at h
  generalize hn : dt ks (p + 1) cs = r at h
  obtain ⟨cs1, add1⟩ := r
  simp only at h
  split at h
  ·simp only [Prod.mk.injEq] at h
   obtain ⟨rfl, rfl⟩ := h
   intro x hx
   rcases List.mem_cons.1 hx with rfl | hx
   ·exact ⟨_, _, rfl⟩
   ·exact gU hn x hx
  ·simp only [Prod.mk.injEq] at h
   obtain ⟨rfl, rfl⟩ := h
   exact gU hn
theorem G1 {add0 : Sig} (hl : ∀ q ∈ add0, ρ'.loc q.1 = .arr (.slice none 0 0) none (match q.2 with | .arr _ t _ _ => t.sz | _ => 0)) {ks : List (Option (TypeId × Ty))} {p : Nat} {v v' : AV} {add : Sig} {u : Value} (h : yO ks p v = (v', add)) (hs : ∀ q ∈ add, q ∈ add0) (hr : rav ρ' w v u) : rav ρ' w v' u := by
 unfold yO at h
 split at h
 ·split at h
  ·rename_i c add1 hn
   simp only [Prod.mk.injEq] at h
   obtain ⟨rfl, rfl⟩ := h
   obtain ⟨u', h1, h2⟩ := (fD hl hn hs (.cons hr .nil)).single
   cases h1
   exact h2
  ·simp only [Prod.mk.injEq] at h
   obtain ⟨rfl, rfl⟩ := h
   exact hr
 ·rename_i cs
  generalize hn : dt ks p cs = r at h
  obtain ⟨cs1, add1⟩ := r
  simp only [Prod.mk.injEq] at h
  obtain ⟨rfl, rfl⟩ := h
  obtain ⟨vs, h1, h2⟩ := hr
  exact ⟨vs, h1, fD hl hn hs h2⟩
 ·simp only [Prod.mk.injEq] at h
  obtain ⟨rfl, rfl⟩ := h
  exact hr
theorem MZ {ks : List (Option (TypeId × Ty))} {p : Nat} {v v' : AV} {add : Sig} (h : yO ks p v = (v', add)) : ∀ q ∈ add, ∃ e t, q.2 = .arr e t [] false := by
 unfold yO at h
 split at h
 ·split at h
  ·rename_i c add1 hn
   simp only [Prod.mk.injEq] at h
   obtain ⟨rfl, rfl⟩ := h
   exact gU hn
  ·simp only [Prod.mk.injEq] at h
   obtain ⟨rfl, rfl⟩ := h
   intro q hq; cases hq
 ·rename_i cs
  generalize hn : dt ks p cs = r at h
  obtain ⟨cs1, add1⟩ := r
  simp only [Prod.mk.injEq] at h
  obtain ⟨rfl, rfl⟩ := h
  exact gU hn
 ·simp only [Prod.mk.injEq] at h
  obtain ⟨rfl, rfl⟩ := h
  intro q hq; cases hq
theorem ri : ∀ {ts : List TypeId} {p : Nat} {vs vs' : List AV} {add : Sig}, fM E ts p vs = (vs', add) -> ∀ q ∈ add, ∃ e t, q.2 = .arr e t [] false
 | [], p, vs, vs', add, h => by
  simp only [fM, Prod.mk.injEq] at h
  obtain ⟨rfl, rfl⟩ := h
  intro q hq; cases hq
 | t :: ts, p, [], vs', add, h => by
  simp only [fM, Prod.mk.injEq] at h
  obtain ⟨rfl, rfl⟩ := h
  intro q hq; cases hq
 | t :: ts, p, v :: vs, vs', add, h => by
  simp only [fM] at h
  generalize h1 : yO (EL E t) p v = r1 at h
  generalize h2 : fM E ts (p + 64) vs = r2 at h
  obtain ⟨v1, add1⟩ := r1
  obtain ⟨vs1, add2⟩ := r2
  simp only [Prod.mk.injEq] at h
  obtain ⟨rfl, rfl⟩ := h
  intro q hq
  rcases List.mem_append.1 hq with hq | hq
  ·exact MZ h1 q hq
  ·exact ri h2 q hq
theorem sE {add0 : Sig} (hl : ∀ q ∈ add0, ρ'.loc q.1 = .arr (.slice none 0 0) none (match q.2 with | .arr _ t _ _ => t.sz | _ => 0)) : ∀ {ts : List TypeId} {p : Nat} {vs vs' : List AV} {add : Sig} {us : List Value}, fM E ts p vs = (vs', add) -> (∀ q ∈ add, q ∈ add0) -> aO (rav ρ' w) vs us -> aO (rav ρ' w) vs' us
 | [], p, vs, vs', add, us, h, hs, hr => by
  simp only [fM, Prod.mk.injEq] at h
  obtain ⟨rfl, rfl⟩ := h
  exact hr
 | t :: ts, p, [], vs', add, us, h, hs, hr => by
  simp only [fM, Prod.mk.injEq] at h
  obtain ⟨rfl, rfl⟩ := h
  exact hr
 | t :: ts, p, v :: vs, vs', add, us, h, hs, hr => by
  simp only [fM] at h
  generalize h1 : yO (EL E t) p v = r1 at h
  generalize h2 : fM E ts (p + 64) vs = r2 at h
  obtain ⟨v1, add1⟩ := r1
  obtain ⟨vs1, add2⟩ := r2
  simp only [Prod.mk.injEq] at h
  obtain ⟨rfl, rfl⟩ := h
  cases hr with
  | cons hr0 hr1 => exact .cons (G1 hl h1 (fun q hq => hs q (List.mem_append_left _ hq)) hr0) (sE hl h2 (fun q hq => hs q (List.mem_append_right _ hq)) hr1)
theorem rA : ∀ {s : Sig}, nodup (s.map (·.1)) = true -> ∀ {x : Nat × Blk}, x ∈ s -> s.get x.1 = some x.2
 | [], _, x, hx => by cases hx
 | (j, b) :: r, h, x, hx => by
  simp only [List.map_cons, nodup, Bool.and_eq_true, Bool.not_eq_true'] at h
  simp only [Sig.get, aP, beq_iff_eq]
  rcases List.mem_cons.1 hx with rfl | hx
  ·rw [if_pos rfl]
  ·rw [if_neg, rA h.2 hx]
   intro he
   have : (List.map (fun x => x.1) r).contains j = true := List.contains_iff_mem.2 (List.mem_map.2 ⟨x, hx, he.symm⟩)
   rw [this] at h
   cases h.1
theorem pX (h : Mem B O ρ sg w) {ts : List TypeId} {vs vs' : List AV} {us : List Value} (hr : aO (rav ρ w) vs us) (hu : ∀ v ∈ vs, ∀ d, v.ak d = true -> (sg.get d).isSome = true) (hn : jX E ts sg vs = (sg', vs')) :
  ∃ ρ', Mem B O ρ' sg' w /\ aO (rav ρ' w) vs' us /\ ∀ i, PIN <= i -> ρ'.loc i = ρ.loc i := by
 unfold jX at hn
 generalize hx : fM E ts 0 vs = r at hn
 obtain ⟨vs1, add⟩ := r
 cases add with
 | nil =>
  simp only [Prod.mk.injEq] at hn
  obtain ⟨rfl, rfl⟩ := hn
  exact ⟨ρ, h, hr, fun _ _ => rfl⟩
 | cons q r =>
  simp only [aP] at hn
  split at hn
  ·rename_i hall
   rw [Bool.and_eq_true] at hall
   simp only [Prod.mk.injEq] at hn
   obtain ⟨rfl, rfl⟩ := hn
   have hspec : ∀ j b, Sig.get j (q :: r) = some b -> sg.get j = none /\ j < PIN /\ ∃ e t, b = .arr e t [] false := fun j b hj => by
    have hm := Sig.get_mem hj
    have h1 := Sig.bP.1 (List.all_eq_true.1 hall.2 _ hm)
    exact ⟨h1.1, h1.2, ri hx _ hm⟩
   obtain ⟨a1, a2, a3⟩ := h.fresh hspec
   refine ⟨_, a1, sE (add0 := q :: r) (fun x hx => ?_) hx (fun x hx => hx) (hr.imp fun v u hv hq => cK a2 (fun d hd => hu v hv d hd) hq), a3⟩
   have hg := rA hall.1 hx
   obtain ⟨e, t, he⟩ := ri (by assumption) x hx
   simp only [cn, hg, he]
  ·simp only [Prod.mk.injEq] at hn
   obtain ⟨rfl, rfl⟩ := hn
   exact ⟨ρ, h, hr, fun _ _ => rfl⟩
theorem Sim.sel (h : Sim P B O w0 ρ st a w) {js : List (Nat × Nat)} (hok : PK st.sg js = true) : Sim P B O w0 ⟨eJ ρ js, ρ.ok⟩ (st.sel js) a w := by
 simp only [PK, Bool.and_eq_true, List.all_eq_true, Bool.or_eq_true, Nat.blt_eq, beq_iff_eq] at hok
 obtain ⟨hj, hall⟩ := hok
 have hjs : ∀ j i, (j, i) ∈ js -> (st.sg.get j).isSome = true := fun j i hji => (hall (j, i) hji).1
 have hl : ∀ j i, look js j = some i -> (⟨eJ ρ js, ρ.ok⟩ : aE).loc i = ρ.loc j := fun j i hi => dI hj (cY hi)
 have hM := h.mem.sel hj hjs (ρ' := ⟨eJ ρ js, ρ.ok⟩) (fun j i hji => dI hj hji) rfl
 refine ⟨hM, by simpa [St.sel] using h.len, fun i v hi => ?_, fun i v d hi hd => ?_, h.defers, h.fr, h.base, fun n hn => ?_, h.glo⟩
 ·simp only [St.sel, List.getElem?_map, Option.map_eq_some_iff] at hi
  obtain ⟨x, hx, rfl⟩ := hi
  obtain ⟨u, h1, h2⟩ := h.sl i x hx
  exact ⟨u, h1, wz hl rfl h2⟩
 ·simp only [St.sel, List.getElem?_map, Option.map_eq_some_iff] at hi
  obtain ⟨x, hx, rfl⟩ := hi
  obtain ⟨j, h3, h4⟩ := D9 hd
  exact lE (cY h3) (hjs j d (cY h3))
 ·refine Eq.trans ?_ (h.pin n hn)
  show eJ ρ js n = ρ.loc n
  unfold eJ
  cases hb : dO js n with
  | none => rfl
  | some i =>
   have hin := (ja hj).1 hb
   rcases (hall (i, n) hin).2 with h0 | h0
   ·simp only at h0; omega
   ·simp only at h0; subst h0; rfl
theorem Sim.named (h : Sim P B O w0 ρ st a w) (ss : List SP) (gs : List (Nat × GP)) : ∃ ρ', Sim P B O w0 ρ' (st.named ss gs) a w := by
 unfold St.named
 rw [aP]
 split
 ·rename_i hok
  exact ⟨_, h.sel hok⟩
 ·exact ⟨ρ, h⟩
theorem oc : ∀ (vs : List AV) (hs : List Bool) (sg : Sig) (ρ : aE) (us : List Value) (sg' : Sig) (vs' : List AV), Mem B O ρ sg w -> aO (rav ρ w) vs us -> rq sg hs vs = some (sg', vs') ->
  ∃ ρ', en ρ ρ' /\ Mem B O ρ' sg' w /\ cX sg sg' /\ aO (rav ρ' w) vs' us /\ ∀ v' ∈ vs', ∀ d, v'.ak d = true -> ∃ v ∈ vs, v.ak d = true
 | [], hs, sg, ρ, us, sg', vs', h, hr, hg => by
  have hg : some (sg, ([] : List AV)) = some (sg', vs') := by cases hs <;> exact hg
  cases hg
  exact ⟨ρ, en.refl _, h, cX.refl _, hr, fun v hv => by cases hv⟩
 | v :: vs, hs, sg, ρ, us, sg', vs', h, hr, hg => by
  cases hr with
  | @cons _ u0 _ us h0 h1 =>
  have step : ∀ sg1 v1, (match hs with | true :: _ => some (sg, v) | _ => dw sg v) = some (sg1, v1) -> ∃ ρ', en ρ ρ' /\ Mem B O ρ' sg1 w /\ cX sg sg1 /\ rav ρ' w v1 u0 /\ ∀ d, v1.ak d = true -> v.ak d = true := by
   intro sg1 v1 hx
   split at hx
   ·cases hx
    exact ⟨ρ, en.refl _, h, cX.refl _, h0, fun _ h => h⟩
   ·exact jC h h0 hx
  simp only [rq] at hg
  split at hg
  ·rename_i sg1 v1 hx
   split at hg
   ·rename_i sg2 vs2 hy
    cases hg
    obtain ⟨ρ1, a1, a2, a3, a4, a5⟩ := step _ _ hx
    obtain ⟨ρ2, b1, b2, b3, b4, b5⟩ := oc vs hs.tail sg1 ρ1 us _ _ a2 (h1.imp fun x u _ hq => cK (a1.step w) (fun _ _ => trivial) hq) hy
    refine ⟨ρ2, a1.trans b1, b2, a3.trans b3, .cons (cK (b1.step w) (fun _ _ => trivial) a4) b4, fun v' hv' d hd => ?_⟩
    rcases List.mem_cons.1 hv' with rfl | hv'
    ·exact ⟨v, List.mem_cons_self, a5 d hd⟩
    ·obtain ⟨x, hx, hd⟩ := b5 v' hv' d hd
     exact ⟨x, List.mem_cons_of_mem _ hx, hd⟩
   ·cases hg
  ·cases hg
theorem oA {js : List (Nat × Nat)} {n : Nat} : (jl js sg).get n = if (look js n).isSome = true then none else (sg.get n).map (·.bF (gone js)) := by
 induction sg with
 | nil => simp [jl, Sig.get]
 | cons q r ih =>
  obtain ⟨j, b⟩ := q
  simp only [jl, aP]
  split
  ·rename_i hj
   rw [ih]
   simp only [Sig.get, aP, beq_iff_eq]
   by_cases he : j = n
   ·subst he; simp [hj]
   ·rw [if_neg he]
  ·rename_i hj
   simp only [Sig.get, aP, beq_iff_eq, ih]
   by_cases he : j = n
   ·subst he; rw [if_pos rfl, if_pos rfl, if_neg hj]; rfl
   ·rw [if_neg he, if_neg he]
theorem QJ {sl : List AV} (h : Sim P B O w0 ρ ⟨sl, sg⟩ a w) {js : List (Nat × Nat)} (hj : da js = true) (hjs : ∀ j i, (j, i) ∈ js -> (sg.get j).isSome = true)
  {ρr : aE} {fin : Sig} {G : Nat -> Prop} {L : Nat -> Loc} (hM : Mem w.heap.size ⟨G, ρ.ok, L⟩ ρr fin w') (hG : ∀ g, G g -> ∃ j i, (j, i) ∈ js /\ bE ρ sg j g)
  (hpin : ∀ i j, (j, i) ∈ js -> PIN <= i -> (fin.get i).isSome = true -> ρr.loc i = ρ.loc j) (hos : w'.os = w.os) (htape : w'.tape = w.tape) (hout : w'.output = w.output) (hsz : w.heap.size <= w'.heap.size) (hfr : ∀ g, g < w.heap.size -> (∀ j i, (j, i) ∈ js -> ¬ bE ρ sg j g) -> w'.heap[g]? = w.heap[g]?)
  {res : AV} {u : Value} (hr : rav ρr w' res u) (hu : ∀ d, res.ak d = true -> (fin.get d).isSome = true) {dst : Option Nat} {k : St -> Option R} (hk : lK sl sg js dst res fin k = some r) :
  ∃ ρ2 st2, k st2 = some r /\ Sim P B O w0 ρ2 st2 (a.put dst u) w' := by
 unfold lK at hk
 simp only [aP] at hk
 split at hk
 ·rename_i hc
  simp only [Bool.and_eq_true, List.all_eq_true, Bool.or_eq_true, Nat.blt_eq, Option.isNone_iff_eq_none] at hc
  obtain ⟨hks, hc1, hc2⟩ := hc
  have ksmem : ∀ i n, (i, n) ∈ CD js (dst.getD 0) fin -> (fin.get i).isSome = true /\ n = (match dO js i with | some j => j | none => i + dst.getD 0) := by
   intro i n hin
   obtain ⟨q, hq, he⟩ := List.mem_map.1 hin
   obtain ⟨i', b⟩ := q
   simp only [Prod.mk.injEq] at he
   obtain ⟨rfl, rfl⟩ := he
   refine ⟨?_, rfl⟩
   have key : ∀ {s : Sig}, (i', b) ∈ s -> (s.get i').isSome = true := by
    intro s hs
    induction s with
    | nil => cases hs
    | cons q r ih =>
     obtain ⟨a0, c0⟩ := q
     simp only [Sig.get, aP, beq_iff_eq]
     split
     ·rfl
     ·rename_i hne
      rcases List.mem_cons.1 hs with hs | hs
      ·cases hs; exact absurd rfl hne
      ·exact ih hs
   exact key hq
  have ksin : ∀ i, (fin.get i).isSome = true -> (i, (match dO js i with | some j => j | none => i + dst.getD 0)) ∈ CD js (dst.getD 0) fin := by
   intro i hi
   obtain ⟨b, hb⟩ := Option.isSome_iff_exists.1 hi
   exact List.mem_map.2 ⟨(i, b), Sig.get_mem hb, rfl⟩
  generalize hksd : CD js (dst.getD 0) fin = ks at hks hc1 ksmem ksin hk
  let ρ2 : aE := ⟨fun n => match dO ks n with | some i => ρr.loc i | none => ρ.loc n, ρr.ok⟩
  have F1 : ∀ i n, (i, n) ∈ ks -> ρ2.loc n = ρr.loc i := fun i n hin => by
   show (match dO ks n with | some i => ρr.loc i | none => ρ.loc n) = _
   rw [(ja hks).2 hin]
  have F2 : ∀ n, (sg.get n).isSome = true -> look js n = none -> ρ2.loc n = ρ.loc n /\ ∀ i, (i, n) ∉ ks := by
   intro n hn hl
   have hno : ∀ i, (i, n) ∉ ks := fun i hin => by
    have := (hc1 (i, n) hin).1
    rw [oA, if_neg (by rw [hl]; simp), Option.map_eq_none_iff] at this
    rw [this] at hn; cases hn
   refine ⟨?_, hno⟩
   show (match dO ks n with | some i => ρr.loc i | none => ρ.loc n) = _
   cases hb : dO ks n with
   | none => rfl
   | some i => exact absurd ((ja hks).1 hb) (hno i)
  have F3 : ∀ j i, (j, i) ∈ js -> PIN <= i -> ρ2.loc j = ρ.loc j /\ (i, j) ∈ ks := by
   intro j i hji hi
   have h1 : (fin.get i).isSome = true := by
    rcases hc2 (j, i) hji with h0 | h0
    ·simp only at h0; omega
    ·exact h0
   have h2 := ksin i h1
   rw [(ja hj).2 hji] at h2
   exact ⟨(F1 i j h2).trans (hpin i j hji hi h1), h2⟩
  have F4 : ∀ n, PIN <= n -> ρ2.loc n = ρ.loc n := by
   intro n hn
   show (match dO ks n with | some i => ρr.loc i | none => ρ.loc n) = _
   cases hb : dO ks n with
   | none => rfl
   | some i =>
    have hin := (ja hks).1 hb
    obtain ⟨h1, h2⟩ := ksmem i n hin
    have h3 := (hc1 (i, n) hin).2
    simp only at h3
    split at h3
    ·rename_i hpi
     rw [Nat.ble_eq] at hpi
     obtain ⟨j, hbj⟩ := Option.isSome_iff_exists.1 h3
     rw [hbj] at h2
     simp only at h2
     subst h2
     exact hpin i n ((ja hj).1 hbj) hpi h1
    ·rw [Nat.blt_eq] at h3; omega
  have hMs : Mem w.heap.size ⟨G, ρ.ok, L⟩ ρ2 (fin.sel (look ks) ks) w' := hM.sel hks (fun i n hin => (ksmem i n hin).1) F1 rfl
  have hU : ∀ d, (sg.get d).isSome = true -> gone js d = false -> ρ2.loc d = ρ.loc d /\ ((fin.sel (look ks) ks ++ jl js sg).get d).isSome = true := by
   intro d hd hg
   cases hl : look js d with
   | none =>
    refine ⟨(F2 d hd hl).1, ?_⟩
    rw [Sig.get_append]
    cases (fin.sel (look ks) ks).get d with
    | some b => rfl
    | none =>
     rw [Option.none_or, oA, if_neg (by rw [hl]; simp), Option.isSome_map]
     exact hd
   | some i =>
    have hpi : PIN <= i := by
     unfold gone at hg
     rw [hl] at hg
     simp only at hg
     rcases Nat.lt_or_ge i PIN with hlt | hge
     ·rw [show Nat.blt i PIN = true from by rw [Nat.blt_eq]; exact hlt] at hg; cases hg
     ·exact hge
    obtain ⟨h1, h2⟩ := F3 d i (cY hl) hpi
    refine ⟨h1, ?_⟩
    rw [Sig.get_append]
    obtain ⟨b, hb⟩ := Option.isSome_iff_exists.1 (lE (f := look ks) h2 (ksmem i d h2).1)
    rw [hb]; rfl
  have hsame : ∀ g, (∀ j i, (j, i) ∈ js -> ¬ bE ρ sg j g) -> g < w.heap.size -> w'.heap[g]? = w.heap[g]? := fun g hn hg => hfr g hg hn
  have hst : Step (fun d => (sg.get d).isSome = true /\ gone js d = false) ρ ρ2 w w' := ⟨fun d hd => (hU d hd.1 hd.2).1, fun b g hg => hM.oky b g hg, fun b g hg => hsame g (fun j i _ hj => h.mem.oko b g hg j hj) (h.mem.okb b g hg)⟩
  have hold : ∀ g, G g -> ∃ j, bE ρ sg j g /\ (look js j).isSome = true := fun g hg => by
   obtain ⟨j, i, h1, h2⟩ := hG g hg
   exact ⟨j, h2, by rw [(Gh hj).2 h1]; rfl⟩
  have hown : ∀ n g, bE ρ2 (fin.sel (look ks) ks ++ jl js sg) n g -> bE ρ2 (fin.sel (look ks) ks) n g ∨ (bE ρ sg n g /\ look js n = none) := by
   intro n g ho
   obtain ⟨b, h1, h2, h3⟩ := aC.1 ho
   rw [Sig.get_append] at h1
   cases hb : (fin.sel (look ks) ks).get n with
   | some b0 =>
    rw [hb] at h1
    simp only [Option.some_or, Option.some.injEq] at h1
    subst h1
    exact .inl (aC.2 ⟨b0, hb, h2, h3⟩)
   | none =>
    rw [hb, Option.none_or, oA] at h1
    split at h1
    ·cases h1
    ·rename_i hl
     rw [Option.map_eq_some_iff] at h1
     obtain ⟨b0, h4, rfl⟩ := h1
     have hl' : look js n = none := by cases hx : look js n with | none => rfl | some x => rw [hx] at hl; exact absurd rfl hl
     rw [(F2 n (by rw [h4]; rfl) hl').1] at h3
     refine .inr ⟨aC.2 ⟨b0, h4, ?_, ?_⟩, hl'⟩
     ·rintro e t l q rfl; exact h2 _ _ _ _ rfl
     ·cases b0 with
      | box ty cs =>
       rcases h3 with ⟨_, _, _, h3⟩ | ⟨_, _, _, _, h3, _⟩
       ·exact .inl ⟨_, _, rfl, h3⟩
       ·cases h3
      | arr e t l q =>
       rcases h3 with ⟨_, _, h3, _⟩ | ⟨_, _, _, _, _, h3⟩
       ·cases h3
       ·exact .inr ⟨_, _, _, _, rfl, h3⟩
      | fro e t l q => exact absurd rfl (h2 e t l q)
  have hmix : ∀ n m g, bE ρ2 (fin.sel (look ks) ks) n g -> bE ρ sg m g -> look js m = none -> False := by
   intro n m g h1 h2 h3
   rcases hMs.old n g h1 with h4 | h4
   ·exact absurd (h.mem.lt h2) (by omega)
   ·obtain ⟨j, h5, h6⟩ := hold g h4
    have := h.mem.inj j m g h5 h2
    subst this
    rw [h3] at h6; cases h6
  have hS : Sim P B O w0 ρ2 ⟨sl.map (·.bF (gone js)), fin.sel (look ks) ks ++ jl js sg⟩ a w' := by
   refine ⟨⟨fun n b hn => ?_, fun n m g h1 h2 => ?_, fun n g h1 => ?_, hM.okb, fun q g hq n hn => ?_, hM.okm, fun q g hq => ?_, fun q g hq => hM.oky q g (h.mem.oky q g hq), fun n b d hn hd => ?_⟩, by simpa using h.len, fun i v hi => ?_, fun i v d hi hd => ?_, h.defers, ?_, Nat.le_trans h.base hsz, fun n hn => (F4 n hn).trans (h.pin n hn), h.glo⟩
   ·rw [Sig.get_append] at hn
    cases hb : (fin.sel (look ks) ks).get n with
    | some b0 =>
     rw [hb] at hn
     simp only [Option.some_or, Option.some.injEq] at hn
     subst hn
     exact hMs.blk n b0 hb
    | none =>
     rw [hb, Option.none_or, oA] at hn
     split at hn
     ·cases hn
     ·rename_i hl
      rw [Option.map_eq_some_iff] at hn
      obtain ⟨b0, h4, rfl⟩ := hn
      have hl' : look js n = none := by cases hx : look js n with | none => rfl | some x => rw [hx] at hl; exact absurd rfl hl
      refine dC hst ⟨by rw [h4]; rfl, by unfold gone; rw [hl']⟩ (fun x hx => ?_) (fun g hg hnf => ?_) (vS (h.mem.blk n b0 h4))
      ·obtain ⟨h5, h6⟩ := jv hx
       exact ⟨h.mem.dom n b0 x h4 h5, h6⟩
      ·have ho : bE ρ sg n g := by
        have hr := h.mem.blk n b0 h4
        refine aC.2 ⟨b0, h4, fun e t l q he => hnf e t l q (by rw [he]; rfl), ?_⟩
        cases b0 with
        | fro e t l q => exact absurd rfl (hnf e t l q)
        | box ty cs =>
         refine .inl ⟨ty, cs, rfl, ?_⟩
         rcases hg with hg | ⟨v, sz, hg⟩
         ·exact hg
         ·obtain ⟨g', vs, h3, _⟩ := hr
          rw [hg] at h3; cases h3
        | arr e t l q =>
         refine .inr ⟨e, t, l, q, rfl, ?_⟩
         rcases hg with hg | hg
         ·obtain ⟨v', g', xs, h3, _⟩ := hr
          rw [hg] at h3; cases h3
         ·exact hg
       refine hsame g (fun j i hji hjo => ?_) (h.mem.lt ho)
       have := h.mem.inj j n g hjo ho
       subst this
       rw [(Gh hj).2 hji] at hl'
       cases hl'
   ·rcases hown n g h1 with h3 | ⟨h3, h4⟩ <;> rcases hown m g h2 with h5 | ⟨h5, h6⟩
    ·exact hMs.inj n m g h3 h5
    ·exact (hmix n m g h3 h5 h6).elim
    ·exact (hmix m n g h5 h3 h4).elim
    ·exact h.mem.inj n m g h3 h5
   ·rcases hown n g h1 with h3 | ⟨h3, h4⟩
    ·rcases hMs.old n g h3 with h5 | h5
     ·exact .inl (Nat.le_trans h.base h5)
     ·obtain ⟨j, h6, _⟩ := hold g h5
      exact h.mem.old j g h6
    ·exact h.mem.old n g h3
   ·rcases hown n g hn with h3 | ⟨h3, h4⟩
    ·exact hMs.oko q g hq n h3
    ·rcases hM.okx q g hq with h5 | h5 | h5
     ·exact h.mem.oko q g h5 n h3
     ·exact absurd (h.mem.lt h3) (by omega)
     ·obtain ⟨j, h6, h7⟩ := hold g h5
      have := h.mem.inj j n g h6 h3
      subst this
      rw [h4] at h7; cases h7
   ·rcases hM.okx q g hq with h5 | h5 | h5
    ·exact h.mem.okx q g h5
    ·exact .inr (.inl (Nat.le_trans h.base h5))
    ·obtain ⟨j, h6, _⟩ := hold g h5
     exact .inr (h.mem.old j g h6)
   ·rw [Sig.get_append] at hn
    cases hb : (fin.sel (look ks) ks).get n with
    | some b0 =>
     rw [hb] at hn
     simp only [Option.some_or, Option.some.injEq] at hn
     subst hn
     have := hMs.dom n b0 d hb hd
     obtain ⟨b1, hb1⟩ := Option.isSome_iff_exists.1 this
     show ((fin.sel (look ks) ks ++ jl js sg).get d).isSome = true
     rw [Sig.get_append, hb1]; rfl
    | none =>
     rw [hb, Option.none_or, oA] at hn
     split at hn
     ·cases hn
     ·rw [Option.map_eq_some_iff] at hn
      obtain ⟨b0, h4, rfl⟩ := hn
      obtain ⟨h5, h6⟩ := jv hd
      exact (hU d (h.mem.dom n b0 d h4 h5) h6).2
   ·rw [List.getElem?_map, Option.map_eq_some_iff] at hi
    obtain ⟨x, hx, rfl⟩ := hi
    obtain ⟨u, h1, h2⟩ := h.sl i x hx
    refine ⟨u, h1, cK hst (fun d hd => ?_) (qo h2)⟩
    obtain ⟨h5, h6⟩ := hX hd
    exact ⟨h.dom i x d hx h5, h6⟩
   ·rw [List.getElem?_map, Option.map_eq_some_iff] at hi
    obtain ⟨x, hx, rfl⟩ := hi
    obtain ⟨h5, h6⟩ := hX hd
    exact (hU d (h.dom i x d hx h5) h6).2
   ·refine h.fr.trans ⟨hos, htape, hout, hsz, fun g hg hn => hsame g (fun j i _ hjo => ?_) (Nat.lt_of_lt_of_le hg h.base)⟩
    rcases h.mem.old j g hjo with h1 | h1
    ·omega
    ·exact hn h1
  have hfin := hS.put dst (v := res.ren (look ks)) (u := u) (wz (fun i n hin => F1 i n (cY hin)) rfl hr) (fun d hd => by
   obtain ⟨i, h1, h2⟩ := D9 hd
   have h3 := cY h1
   obtain ⟨b, hb⟩ := Option.isSome_iff_exists.1 (lE (f := look ks) h3 (ksmem i d h3).1)
   show ((fin.sel (look ks) ks ++ jl js sg).get d).isSome = true
   rw [Sig.get_append, hb]; rfl)
  exact ⟨_, _, hk, hfin⟩
 ·cases hk
end
end Go.Proofs.YtahlaccdpmddbaaGreat.Lib
namespace Go.Proofs.YtahlaccdpmddbaaGreat.Lib
open Go Go.RowKit
set_option linter.unusedVariables false
set_option linter.unusedSimpArgs false
section
variable {P : Program} {E : Env} {B : Nat} {O O' : Ow} {w0 w w' : World} {ρ ρ' : aE} {a : Act} {R : Type} {r : R} {sg sg' : Sig} {st : St} {call : bh}
theorem OA (h : Sim P B O w0 ρ st a w) {g : FuncId} {m : Gen} {avs : List AV} {us : List Value} (hm : bu P g m) (hav : aO (rav ρ w) avs us) (huse : ∀ v ∈ avs, ∀ d, v.ak d = true -> (st.sg.get d).isSome = true)
  {sg1 : Sig} {js : List (Nat × Nat)} {v : StT m.ss m.gs} (hin : K7 st.sg m avs = some (sg1, js, v)) {res : AV} {fin : Sig} (hF : (m.F v).run some = some (res, fin)) {dst : Option Nat} {k : St -> Option R} (hk : lK st.sl sg1 js dst res fin k = some r) :
  Calls P g us.toArray w fun e w' => ∃ u ρ2 st2, e = .returned u /\ k st2 = some r /\ Sim P B O w0 ρ2 st2 (a.put dst u) w' := by
 unfold K7 at hin
 split at hin
 ·rename_i sg1' args1 hgive
  simp only [aP] at hin
  split at hin
  ·rename_i hok
   split at hin
   ·rename_i v' hcap
    simp only [Option.some.injEq, Prod.mk.injEq] at hin
    obtain ⟨rfl, rfl, rfl⟩ := hin
    obtain ⟨ρ1, b1, b2, b3, b4, b5⟩ := oc avs m.hand st.sg ρ us _ _ h.mem hav hgive
    have h1 : Sim P B O w0 ρ1 ⟨st.sl, sg1'⟩ a w := h.more b1 b2 b3
    generalize Lf sg1' args1 = js at hok hcap hk ⊢
    simp only [U1, Bool.and_eq_true, List.all_eq_true] at hok
    obtain ⟨hj, hjs0⟩ := hok
    have hjs : ∀ j i, (j, i) ∈ js -> (sg1'.get j).isSome = true := fun j i hji => hjs0 (j, i) hji
    obtain ⟨hwf, hfn, hcalls⟩ := hm
    have hl : ∀ j i, look js j = some i -> (⟨eJ ρ1 js, ρ1.ok⟩ : aE).loc i = ρ1.loc j := fun j i hi => dI hj (cY hi)
    have hS : Sim P B ⟨O.o, O.ok0, eJ ρ1 js⟩ w ⟨eJ ρ1 js, ρ1.ok⟩ ⟨args1.map (·.ren (look js)), sg1'.sel (look js) js⟩ { tmps := us.toArray, defers := [] } w := by
     have hM := h1.mem.sel hj hjs (ρ' := ⟨eJ ρ1 js, ρ1.ok⟩) (fun j i hji => dI hj hji) rfl
     have hal : aO (rav ⟨eJ ρ1 js, ρ1.ok⟩ w) (args1.map (·.ren (look js))) us := b4.dD _ fun x u _ hx => wz hl rfl hx
     refine ⟨hM.ow rfl rfl, by simp [← hal.length], fun i x hi => ?_, fun i x d hi hd => ?_, rfl, gr.refl _ _ _, h.base, fun _ _ => rfl, h.Yo⟩
     ·obtain ⟨u, h3, h4⟩ := hal.get i hi
      exact ⟨u, by simpa using h3, h4⟩
     ·rw [List.getElem?_map, Option.map_eq_some_iff] at hi
      obtain ⟨y, hy, rfl⟩ := hi
      obtain ⟨j, h3, h4⟩ := D9 hd
      exact lE (cY h3) (hjs j d (cY h3))
    obtain ⟨ρP, hP, c1, c2, c3⟩ := hS.er.fresh m.ss m.gs
    have hcl := hcalls _ res fin hF _ _ _ _ _ (hP.cap hwf hcap)
    refine hcl.mono fun e w' hh => ?_
    obtain ⟨u, ρr, rfl, hr, hM, hpin, hu, hos, htape, hout, hsz, hfr⟩ := hh
    have hH : ∀ g, (∃ j, bE ρP (ax m.ss m.gs v').sg j g) -> ∃ j i, (j, i) ∈ js /\ bE ρ1 sg1' j g := by
     rintro g ⟨i, hi⟩
     obtain ⟨j, h3, h4⟩ := nf hj (fun j i hji => dI hj hji) (MR (c3 i g (FT w hP.mem.okm hcap hi)))
     exact ⟨j, i, h3, h4⟩
    rw [show ρP.ok = ρ1.ok from c1] at hM
    obtain ⟨ρ2, st2, d1, d2⟩ := QJ h1 hj hjs hM hH (fun i j hji hi hs => by
      rw [hpin i hi hs, c2 i hi]; exact dI hj hji) hos htape hout hsz (fun g hg hn => hfr g hg fun i hi => by
      obtain ⟨j, i', h3, h4⟩ := hH g ⟨i, hi⟩
      exact hn j i' h3 h4) hr hu hk
    exact ⟨u, ρ2, st2, rfl, d1, d2⟩
   ·cases hin
  ·cases hin
 ·cases hin
theorem ox {args : List AV} {g : FuncId} {q : (m : Gen) × (Sig × List (Nat × Nat) × StT m.ss m.gs)} : ∀ {l : List (FuncId × Gen)}, ma sg args g l = some q -> (g, q.1) ∈ l /\ K7 sg q.1 args = some q.2
 | [], h => by cases h
 | (f, m) :: l, h => by
  simp only [ma, aP, beq_iff_eq] at h
  split at h
  ·rename_i hf
   subst hf
   split at h
   ·rename_i q' hq
    cases h
    exact ⟨List.mem_cons_self, hq⟩
   ·obtain ⟨h1, h2⟩ := ox h
    exact ⟨List.mem_cons_of_mem _ h1, h2⟩
  ·obtain ⟨h1, h2⟩ := ox h
   exact ⟨List.mem_cons_of_mem _ h1, h2⟩
theorem Ip (hE : Env.Ok P E) (h : Sim P B O w0 ρ st a w) {o : Oper} {c : Call} {f : Operand} (ho : o.op = .call c) (hc : c.callee = .value f) {k : St -> Option R} {other : Option R} (hk : m6 E st o.dst (aF st.sl f) (c.args.toList.map (aF st.sl)) k other = some r)
  {next : Act -> World -> Prop} {Q : Exit -> Act -> World -> Prop} (hother : other = some r -> o.wp P a w next Q) (hnext : ∀ ρ' st' a' w', k st' = some r -> Sim P B O w0 ρ' st' a' w' -> next a' w') : o.wp P a w next Q := by
 have hav : aO (rav ρ w) (c.args.toList.map (aF st.sl)) (c.args.toList.map a.eval) := by
  induction c.args.toList with
  | nil => exact .nil
  | cons x xs ih => exact .cons (h.eval x).1 ih
 have huse : ∀ v ∈ c.args.toList.map (aF st.sl), ∀ d, v.ak d = true -> (st.sg.get d).isSome = true := fun v hv d hd => by
  obtain ⟨x, _, rfl⟩ := List.mem_map.1 hv
  exact (h.eval x).2 d hd
 have go : ∀ (g : FuncId) (avs : List AV) (cvs : List Value) (q : (m : Gen) × (Sig × List (Nat × Nat) × StT m.ss m.gs)), a.eval f = .func (.func g) #[] cvs.toArray -> aO (rav ρ w) avs (c.args.toList.map a.eval ++ cvs) -> (∀ v ∈ avs, ∀ d, v.ak d = true -> (st.sg.get d).isSome = true) -> ma st.sg avs g E.gen = some q ->
   (q.1.F q.2.2.2).run (fun x => lK st.sl q.2.1 q.2.2.1 o.dst x.1 x.2 k) = some r -> o.wp P a w next Q := by
  intro g avs cvs q hfe hall huse hq hrunk
  obtain ⟨hmem, hin⟩ := ox hq
  have hm := hE.gen _ hmem
  rw [aJ.run_bind, Option.bind_eq_some_iff] at hrunk
  obtain ⟨⟨res, fin⟩, hF, hk⟩ := hrunk
  obtain ⟨m, sg1, js, v⟩ := q
  have hcl := OA h hm hall huse hin hF hk
  obtain ⟨fn, hfn, hbody, hname⟩ := hm.2.1
  have hrun : (execOp a.eval o).run P w = .ok (.enter g (c.args.toList.map a.eval ++ cvs).toArray) w := by
   have hargs : (c.args.toList.map a.eval ++ cvs).toArray = c.args.map a.eval ++ cvs.toArray := by
    apply Array.ext'
    simp
   rw [hargs]
   unfold execOp
   have hbn : ¬ (fn.body = none) := by intro hb; rw [hb] at hbody; cases hbody
   have hnn : ¬ (fn.name = "runtime.NumGoroutine") := by intro hn; rw [hn] at hname; simp at hname
   simp only [] at hfn
   simp [ho, hc, resolve, hfe, Deferred.ofValue, Sem.run_bind, invoke, callFunc, hfn]
   rw [if_neg hnn, if_neg hbn]
  unfold Oper.wp
  rw [hrun, Oper.upon_enter]
  refine hcl.mono fun e w' hh => ?_
  obtain ⟨u, ρ2, st2, rfl, h1, h2⟩ := hh
  exact hnext ρ2 st2 _ w' h1 h2
 unfold m6 at hk
 split at hk
 ·rename_i g hf
  split at hk
  ·rename_i q hq
   have hfv := (h.eval f).1
   rw [hf] at hfv
   obtain ⟨cvs, hfe, hcaps⟩ := hfv
   cases hcaps
   exact go g _ [] q hfe (by rw [List.append_nil]; exact hav) huse hq hk
  ·exact hother hk
 ·rename_i g js hf
  split at hk
  ·rename_i q hq
   have hfv := (h.eval f).1
   rw [hf] at hfv
   obtain ⟨cvs, hfe, hcaps⟩ := hfv
   refine go g _ cvs q hfe (hav.append (hcaps.dD (fun j => AV.one (.ptr j 0 0)) fun j u _ ⟨g, h1, h2⟩ => (show rc ρ w (.ptr j 0 0) u from Or.inl ⟨rfl, g, h1, h2⟩))) (fun v hv d hd => ?_) hq hk
   rcases List.mem_append.1 hv with hv | hv
   ·exact huse v hv d hd
   ·obtain ⟨j, hj, rfl⟩ := List.mem_map.1 hv
    refine (h.eval f).2 d ?_
    rw [hf]
    have := eq_of_beq hd
    subst this
    exact List.contains_iff_mem.2 hj
  ·exact hother hk
 ·exact hother hk
end
end Go.Proofs.YtahlaccdpmddbaaGreat.Lib
namespace Go.Proofs.YtahlaccdpmddbaaGreat.Lib
open Go Go.RowKit
set_option linter.unusedVariables false
set_option linter.unusedSimpArgs false
section
variable {P : Program} {E : Env} {B : Nat} {O : Ow} {w0 w w' : World} {ρ ρ' : aE} {a : Act} {R : Type} {r : R} {sg sg' : Sig} {st : St} {call : bh}
theorem DP (out : Sig) (d i : Nat) : (out.shift d).get i = if d <= i then (out.get (i - d)).map (·.shift d) else none := by
 split
 ·rename_i h
  have := Sig.MK out d (i - d)
  rwa [Nat.sub_add_cancel h] at this
 ·exact Sig.za out d i (by omega)
theorem Sim.below (h : Sim P B O w0 ρ st a w) (hb : Below w.heap.size w w') : Sim P B O w0 ρ st a w' := by
 have hst : Step (fun _ => True) ρ ρ w w' := ⟨fun _ _ => rfl, fun _ _ h => h, fun b g hg => hb.block g (h.mem.okb b g hg)⟩
 refine ⟨⟨fun j b hj => ?_, h.mem.inj, h.mem.old, fun b g hg => Nat.lt_of_lt_of_le (h.mem.okb b g hg) hb.size, h.mem.oko, h.mem.okm, h.mem.okx, h.mem.oky, h.mem.dom⟩, h.len, fun i v hi => ?_, h.dom, h.defers,
  h.fr.trans ⟨hb.os, hb.tape, hb.output, hb.size, fun g h1 _ => hb.block g (Nat.lt_of_lt_of_le h1 h.base)⟩, Nat.le_trans h.base hb.size, h.pin, h.glo⟩
 ·refine dC hst trivial (fun _ _ => trivial) (fun g hg hf => ?_) (h.mem.blk j b hj)
  have ho : bE ρ st.sg j g := by
   refine aC.2 ⟨b, hj, hf, ?_⟩
   have hr := h.mem.blk j b hj
   cases b with
   | fro e t l q => exact absurd rfl (hf e t l q)
   | box ty cs =>
    refine .inl ⟨ty, cs, rfl, ?_⟩
    rcases hg with hg | ⟨v, sz, hg⟩
    ·exact hg
    ·obtain ⟨g', vs, h3, _⟩ := hr
     rw [hg] at h3; cases h3
   | arr e t l q =>
    refine .inr ⟨e, t, l, q, rfl, ?_⟩
    rcases hg with hg | hg
    ·obtain ⟨v', g', xs, h3, _⟩ := hr
     rw [hg] at h3; cases h3
    ·exact hg
  exact hb.block g (h.mem.lt ho)
 ·obtain ⟨u, hu, hr⟩ := h.sl i v hi
  exact ⟨u, hu, cK hst (fun _ _ => trivial) hr⟩
theorem Sim.import (h : Sim P B O w0 ρ st a w) (hb : Below w.heap.size w w') {ρr : aE} {out : Sig} {res : AV} {v : Value} {d : Nat} (hM : Mem w.heap.size ⟨fun _ => False, ρ.ok, ρ.loc⟩ ρr out w') (hr : rav ρr w' res v) (hu : ∀ x, res.ak x = true -> (out.get x).isSome = true)
  (hfr : ∀ q ∈ out, st.sg.free (q.1 + d) = true) :
  ∃ ρ', Sim P B O w0 ρ' ⟨st.sl.set d (res.shift d), out.shift d ++ st.sg⟩ (a.put (some d) v) w' := by
 have hok := hM.oky
 have hold : ∀ b g, ρr.ok b g -> ρ.ok b g ∨ w.heap.size <= g := fun b g hg => by
  rcases hM.okx b g hg with h1 | h1 | h1
  ·exact .inl h1
  ·exact .inr h1
  ·exact h1.elim
 let ρ2 : aE := ⟨fun i => if d <= i /\ (out.get (i - d)).isSome = true then ρr.loc (i - d) else ρ.loc i, ρr.ok⟩
 have hin : ∀ j, (out.get j).isSome = true -> ρ2.loc (j + d) = ρr.loc j := by
  intro j hj
  show (if _ then _ else _) = _
  rw [if_pos ⟨by omega, by rw [Nat.add_sub_cancel]; exact hj⟩, Nat.add_sub_cancel]
 have hdis : ∀ i, (st.sg.get i).isSome = true -> ¬ (d <= i /\ (out.get (i - d)).isSome = true) := by
  rintro i hi ⟨h1, h2⟩
  obtain ⟨b, hb⟩ := Option.isSome_iff_exists.1 h2
  have := hfr _ (Sig.get_mem hb)
  rw [Nat.sub_add_cancel h1] at this
  have hpp := (Sig.bP.1 this).2
  have this := (Sig.bP.1 this).1
  rw [this] at hi
  cases hi
 have hout : ∀ i, (st.sg.get i).isSome = true -> ρ2.loc i = ρ.loc i := fun i hi => by
  show (if _ then _ else _) = _
  rw [if_neg (hdis i hi)]
 have hget : ∀ i, (out.shift d ++ st.sg).get i = if d <= i /\ (out.get (i - d)).isSome = true then (out.get (i - d)).map (·.shift d) else st.sg.get i := by
  intro i
  rw [Sig.get_append, DP]
  by_cases h1 : d <= i
  ·rw [if_pos h1]
   cases h2 : out.get (i - d) with
   | none => simp
   | some b => simp [h1]
  ·rw [if_neg h1, if_neg (fun h => h1 h.1)]; rfl
 have hb' := h.below hb
 have hst : Step (fun i => (st.sg.get i).isSome = true) ρ ρ2 w' w' := ⟨hout, hok, fun _ _ _ => rfl⟩
 have hown : ∀ i g, bE ρ2 (out.shift d ++ st.sg) i g -> (∃ j, i = j + d /\ bE ρr out j g) ∨ bE ρ st.sg i g := by
  intro i g ho
  obtain ⟨b, h1, h2, h3⟩ := aC.1 ho
  rw [hget] at h1
  split at h1
  ·rename_i hc
   rw [Option.map_eq_some_iff] at h1
   obtain ⟨b0, h4, rfl⟩ := h1
   have hl := hin (i - d) hc.2
   rw [Nat.sub_add_cancel hc.1] at hl
   rw [hl] at h3
   refine .inl ⟨i - d, by omega, aC.2 ⟨b0, h4, ?_, ?_⟩⟩
   ·rintro e t l q rfl; exact h2 e t l q rfl
   ·cases b0 with
    | box ty cs =>
     rcases h3 with ⟨_, _, _, h3⟩ | ⟨_, _, _, _, h3, _⟩
     ·exact .inl ⟨_, _, rfl, h3⟩
     ·cases h3
    | arr e t l q =>
     rcases h3 with ⟨_, _, h3, _⟩ | ⟨_, _, _, _, _, h3⟩
     ·cases h3
     ·exact .inr ⟨_, _, _, _, rfl, h3⟩
    | fro e t l q => exact absurd rfl (h2 e t l q)
  ·rw [hout i (by rw [h1]; rfl)] at h3
   exact .inr (aC.2 ⟨b, h1, h2, h3⟩)
 have hsome : ∀ i, (st.sg.get i).isSome = true -> ((out.shift d ++ st.sg).get i).isSome = true := fun i hi => by rw [hget, if_neg (hdis i hi)]; exact hi
 have hsome' : ∀ j, (out.get j).isSome = true -> ((out.shift d ++ st.sg).get (j + d)).isSome = true := fun j hj => by
  rw [hget, if_pos ⟨by omega, by rw [Nat.add_sub_cancel]; exact hj⟩, Nat.add_sub_cancel, Option.isSome_map]; exact hj
 have hpn : ∀ i, PIN <= i -> ρ2.loc i = ρ.loc i := fun i hi => by
  show (if _ then _ else _) = _
  rw [if_neg]
  rintro ⟨h1, h2⟩
  obtain ⟨b, hb⟩ := Option.isSome_iff_exists.1 h2
  have := (Sig.bP.1 (hfr _ (Sig.get_mem hb))).2
  simp only at this
  omega
 have hS : Sim P B O w0 ρ2 ⟨st.sl, out.shift d ++ st.sg⟩ a w' := by
  refine ⟨⟨fun i b hi => ?_, fun i j g hi hj => ?_, fun i g hi => ?_, hM.okb, fun q g hq i hi => ?_, hM.okm, fun q g hq => ?_, fun q g hq => hok q g (h.mem.oky q g hq), fun i b x hi hx => ?_⟩, h.len, fun i v hi => ?_, fun i v x hi hx => ?_, h.defers, hb'.fr, hb'.base, fun i hi => (hpn i hi).trans (h.pin i hi), h.glo⟩
  ·rw [hget] at hi
   split at hi
   ·rename_i hc
    rw [Option.map_eq_some_iff] at hi
    obtain ⟨b0, h4, rfl⟩ := hi
    have := Iw (ρ' := ρ2) (d := d) (hin (i - d) hc.2) (fun x hx => hin x (hM.dom (i - d) b0 x h4 hx)) rfl (hM.blk (i - d) b0 h4)
    rwa [Nat.sub_add_cancel hc.1] at this
   ·exact dC hst (by show _ = _; rw [hi]; rfl) (fun x hx => h.mem.dom i b x hi hx) (fun _ _ _ => rfl) (hb'.mem.blk i b hi)
  ·rcases hown i g hi with ⟨i', rfl, h1⟩ | h1 <;> rcases hown j g hj with ⟨j', rfl, h2⟩ | h2
   ·rw [hM.inj i' j' g h1 h2]
   ·rcases hM.old i' g h1 with h3 | h3
    ·exact absurd (h.mem.lt h2) (by omega)
    ·exact h3.elim
   ·rcases hM.old j' g h2 with h3 | h3
    ·exact absurd (h.mem.lt h1) (by omega)
    ·exact h3.elim
   ·exact h.mem.inj i j g h1 h2
  ·rcases hown i g hi with ⟨i', rfl, h1⟩ | h1
   ·rcases hM.old i' g h1 with h3 | h3
    ·exact .inl (Nat.le_trans h.base h3)
    ·exact h3.elim
   ·exact h.mem.old i g h1
  ·rcases hown i g hi with ⟨i', rfl, h1⟩ | h1
   ·exact hM.oko q g hq i' h1
   ·rcases hold q g hq with h3 | h3
    ·exact h.mem.oko q g h3 i h1
    ·exact absurd (h.mem.lt h1) (by omega)
  ·rcases hold q g hq with h3 | h3
   ·exact h.mem.okx q g h3
   ·exact .inr (.inl (Nat.le_trans h.base h3))
  ·rw [hget] at hi
   split at hi
   ·rename_i hc
    rw [Option.map_eq_some_iff] at hi
    obtain ⟨b0, h4, rfl⟩ := hi
    have hx' : ∃ j, x = j + d /\ b0.ak j = true := by
     cases b0 with
     | box t cs => exact vc hx
     | _ => cases hx
    obtain ⟨j, rfl, hj⟩ := hx'
    exact hsome' j (hM.dom (i - d) b0 j h4 hj)
   ·exact hsome x (h.mem.dom i b x hi hx)
  ·obtain ⟨u, h1, h2⟩ := hb'.sl i v hi
   exact ⟨u, h1, cK hst (fun x hx => h.dom i v x hi hx) h2⟩
  ·exact hsome x (h.dom i v x hi hx)
 exact ⟨ρ2, hS.put (some d) (L4 (fun x hx => hin x (hu x hx)) rfl hr) (fun x hx => by
  obtain ⟨j, rfl, hj⟩ := Sk hx
  exact hsome' j (hu j hj))⟩
theorem pG (hE : Env.Ok P E) (hC : eb P call) (h : Sim P B O w0 ρ st a w) {o : Oper} {c : Call} {f : Operand} (ho : o.op = .call c) (hc : c.callee = .value f) {k : St -> Option R} (hk : gS E call st o.dst (aF st.sl f) (c.args.toList.map (aF st.sl)) k = some r)
  {next : Act -> World -> Prop} {Q : Exit -> Act -> World -> Prop} (hnext : ∀ ρ' st' a' w', k st' = some r -> Sim P B O w0 ρ' st' a' w' -> next a' w') : o.wp P a w next Q := by
 unfold gS at hk
 split at hk
 ·rename_i g caps hf
  split at hk
  ·rename_i args own hargs
   rw [wT] at hk
   obtain ⟨⟨res, out⟩, pQ, hk⟩ := Option.bind_eq_some_iff.1 hk
   simp only [aP] at hk
   split at hk
   ·rename_i hnb
    have hfv := (h.eval f).1
    rw [hf] at hfv
    obtain ⟨cvs, hfe, hcaps⟩ := hfv
    have hav : aO (rav ρ w) (c.args.toList.map (aF st.sl)) (c.args.toList.map a.eval) := by
     induction c.args.toList with
     | nil => exact .nil
     | cons x xs ih => exact .cons (h.eval x).1 ih
    obtain ⟨hl1, hl2⟩ := pW hE h.mem (own := own) hav hargs (fun h => h)
    have hcap2 : aO (rav (ρ.wh st.sg own) w) (caps.map fun c => AV.one (.eptr c.1 c.2 0 true)) cvs := hcaps.dD _ fun p u _ ⟨ad, h1, h2⟩ => ⟨ad, h1.step (fun g hg => .inl hg) (fun _ _ => rfl), by rw [h2]; simp [Addr.add]⟩
    have hall := hl1.append hcap2
    obtain ⟨⟨fn, hfn, hbody, hname⟩, hcalls⟩ := QO hE hC pQ (ρ.wh st.sg own) w _ (fun b k hk => by
      rcases hk with hk | ⟨_, _, j, hj⟩
      ·exact h.mem.okb b k hk
      ·exact h.mem.lt hj) (fun k hk => by
      rcases hk with hk | ⟨hk, _⟩
      ·exact .inl (h.mem.okm k hk)
      ·cases hk) (fun G hG => ⟨.inl (h.gh G hG).1, (h.gh G hG).2⟩) hall (fun v hv d => by
      rcases List.mem_append.1 hv with hv | hv
      ·exact hl2 v hv d
      ·obtain ⟨p, _, rfl⟩ := List.mem_map.1 hv; rfl)
    have hrun : (execOp a.eval o).run P w = .ok (.enter g (c.args.toList.map a.eval ++ cvs).toArray) w := by
     have hargs : (c.args.toList.map a.eval ++ cvs).toArray = c.args.map a.eval ++ cvs.toArray := by
      apply Array.ext'
      simp
     rw [hargs]
     unfold execOp
     have hbn : ¬ (fn.body = none) := by intro hb; rw [hb] at hbody; cases hbody
     have hnn : ¬ (fn.name = "runtime.NumGoroutine") := by intro hn; rw [hn] at hname; simp at hname
     simp [ho, hc, resolve, hfe, Deferred.ofValue, Sem.run_bind, invoke, callFunc, hfn]
     rw [if_neg hnn, if_neg hbn]
    unfold Oper.wp
    rw [hrun, Oper.upon_enter]
    refine hcalls.mono fun e w' hh => ?_
    obtain ⟨v, ρr, rfl, hr, hM, hu, hb⟩ := hh
    have hok := hM.oky
    have hold : ∀ b g, ρr.ok b g -> (ρ.wh st.sg own).ok b g ∨ w.heap.size <= g := fun b g hg => by
     rcases hM.okx b g hg with h1 | h1 | h1
     ·exact .inl h1
     ·exact .inr h1
     ·exact h1.elim
    have fin : ∃ ρf : aE, rav ρf w' res v /\ Mem w.heap.size ⟨fun _ => False, ρ.ok, ρ.loc⟩ ρf out w' := by
     cases own with
     | false =>
      refine ⟨ρr, hr, ⟨hM.blk, hM.inj, hM.old, hM.okb, hM.oko, hM.okm, fun b g hg => ?_, fun b g hg => hok b g (.inl hg), hM.dom⟩⟩
      rcases hold b g hg with (h1 | ⟨_, h1, _⟩) | h1
      ·exact .inl h1
      ·cases h1
      ·exact .inr (.inl h1)
     | true =>
      simp only [Bool.not_true, Bool.false_or, Bool.and_eq_true] at hnb
      let ρk : aE := ⟨ρr.loc, fun q g => ρr.ok false g ∨ ρ.ok q g⟩
      have hsk : Step (fun _ => True) ρr.strict ρk w' w' := ⟨fun _ _ => rfl, fun _ _ h => Or.inl h, fun _ _ _ => rfl⟩
      refine ⟨ρk, cK hsk (fun _ _ => trivial) (M0 hnb.1 hr), ⟨fun j b hj => ?_, fun i j g hi hj => hM.inj i j g hi hj, fun j g hj => hM.old j g hj, fun b g hg => ?_, fun b g hg j hj => ?_, fun g hg => ?_, fun b g hg => ?_, fun b g hg => .inr hg, hM.dom⟩⟩
      ·have hb0 := Nj (List.all_eq_true.1 hnb.2 _ (Sig.get_mem hj)) (hM.blk j b hj)
       exact dC hsk trivial (fun _ _ => trivial) (fun _ _ _ => rfl) hb0
      ·rcases hg with hg | hg
       ·exact hM.okb false g hg
       ·exact Nat.lt_of_lt_of_le (h.mem.okb b g hg) hb.size
      ·rcases hg with hg | hg
       ·exact hM.oko false g hg j hj
       ·rcases hM.old j g hj with h1 | h1
        ·exact absurd (h.mem.okb b g hg) (by omega)
        ·exact h1.elim
      ·rcases hg with hg | hg
       ·exact .inl hg
       ·exact .inr (h.mem.okm g hg)
      ·rcases hg with hg | hg
       ·rcases hold false g hg with (h1 | ⟨h1, _⟩) | h1
        ·cases b with
         | false => exact .inl h1
         | true => exact .inl (h.mem.okm g h1)
        ·cases h1
        ·exact .inr (.inl h1)
       ·exact .inl hg
    obtain ⟨ρf, f1, f2⟩ := fin
    cases hd : o.dst with
    | none =>
     simp only [hd] at hk
     exact hnext ρ st a w' hk (h.below hb)
    | some d =>
     simp only [hd] at hk
     split at hk
     ·rename_i hfr
      obtain ⟨ρ2, hS⟩ := h.import hb f2 f1 hu (d := d) (fun q hq => List.all_eq_true.1 hfr q hq)
      exact hnext ρ2 _ _ w' hk hS
     ·cases hk
   ·cases hk
  ·cases hk
 ·cases hk
theorem jy (hE : Env.Ok P E) (hC : eb P call) (h : Sim P B O w0 ρ st a w) (o : Oper) {k : St -> Option R} (hk : exec E call o st k = some r)
  {next : Act -> World -> Prop} {Q : Exit -> Act -> World -> Prop} (hnext : ∀ ρ' st' a' w', k st' = some r -> Sim P B O w0 ρ' st' a' w' -> next a' w') : o.wp P a w next Q := by
 have quiet : qop E st.sg (aF st.sl) o.dst o.op (fun v add => k (St.put o.dst v ⟨st.sl, add ++ st.sg⟩)) = some r -> o.wp P a w next Q := by
  intro hk
  obtain ⟨v, add, u, w', h1, h2, h3⟩ := BP hE h o hk
  obtain ⟨ρ2, hS⟩ := h.Wu h3
  unfold Oper.wp
  rw [h2, Oper.upon_value]
  exact hnext ρ2 _ _ w' h1 hS
 unfold exec at hk
 split at hk
 ·rename_i t p v ho
  obtain ⟨ρ2, st2, w', h1, h2, h3⟩ := Dk hE h ho hk
  unfold Oper.wp
  rw [h2, Oper.upon_skip]
  exact hnext ρ2 _ _ w' h1 (h3.put o.dst trivial (fun d hd => by cases hd))
 ·rename_i c ho
  split at hk
  ·rename_i s x t t' hc ha hat
   simp only [aP] at hk
   split at hk
   ·rename_i ht
    have ht : t' = t := by simpa using ht
    subst ht
    obtain ⟨ρ2, st2, w', v, h1, h2, h3⟩ := Ar hE h ho hc ha hat hk
    unfold Oper.wp
    rw [h2, Oper.upon_value]
    exact hnext ρ2 _ _ w' h1 h3
   ·cases hk
  ·rename_i x t hc ha hat
   obtain ⟨ρ2, st2, w', h1, h2, h3⟩ := CK hE h ho hc ha hat hk
   unfold Oper.wp
   rw [h2, Oper.upon_value]
   exact hnext ρ2 _ _ w' h1 (h3.put o.dst (v := .tup []) (u := .tuple #[]) ⟨[], rfl, .nil⟩ (fun d hd => by cases hd))
  ·rename_i f hc
   split at hk
   ·rename_i m hm
    unfold JF at hm
    split at hm
    ·exact EV h ho hc (hE.mark _ _ hm) hk hnext
    ·cases hm
   ·split at hk
    ·exact pG hE hC h ho hc hk hnext
    ·exact Ip hE h ho hc hk (fun hk => pG hE hC h ho hc hk hnext) hnext
  ·exact quiet hk
 ·rename_i t n ps ho
  split at hk
  ·rename_i sg ps' hset
   split at hk
   ·rename_i d e sz by_ ty hd ht
    split at hk
    ·rename_i td sz' by' τ he
     simp only [aP] at hk
     split at hk
     ·rename_i hcond
      simp only [Bool.and_eq_true, Sig.bP, beq_iff_eq, Nat.ble_eq] at hcond
      split at hk
      ·rename_i l hl
       obtain ⟨ρ2, w', v, h1, h2⟩ := rr hE h ho hd hset ht he hcond.1.1 hcond.1.2 hcond.2 hl
       unfold Oper.wp
       rw [h1, Oper.upon_value]
       exact hnext ρ2 _ _ w' hk h2
      ·split at hk
       ·rename_i l hl
        obtain ⟨ρ2, w', v, h1, h2⟩ := rr hE h ho hd hset ht he hcond.1.1 hcond.1.2 hcond.2 hl
        unfold Oper.wp
        rw [h1, Oper.upon_value]
        exact hnext ρ2 _ _ w' hk h2
       ·cases hk
     ·cases hk
    ·cases hk
   ·cases hk
  ·cases hk
 ·exact quiet hk
end
end Go.Proofs.YtahlaccdpmddbaaGreat.Lib
namespace Go.Proofs.YtahlaccdpmddbaaGreat.Lib
open Go Go.RowKit
set_option linter.unusedVariables false
set_option linter.unusedSimpArgs false
section
variable {P : Program} {E : Env} {B : Nat} {O : Ow} {w0 w w' : World} {ρ ρ' : aE} {a : Act} {R : Type} {r : R} {sg sg' : Sig} {st : St} {call : bh}
theorem sb {t : Nat} {v : AV} (h : st.sl[t]? = some v) : st.put (some t) v = st := by
 obtain ⟨sl, sg⟩ := st
 simp only [St.put, St.mk.injEq, and_true]
 apply List.ext_getElem?
 intro i
 rw [List.getElem?_set]
 split
 ·rename_i hi
  subst hi
  split
  ·exact h.symm
  ·rename_i hn
   have := (List.getElem?_eq_some_iff.1 h).1
   exact absurd this hn
 ·rfl
theorem hO (hE : Env.Ok P E) (hC : eb P call) {ops : Array Oper} {k : St -> Option R} {Q : Exit -> Act -> World -> Prop}
  (hnext : ∀ ρ' st' a' w', k st' = some r -> Sim P B O w0 ρ' st' a' w' -> Q .normal a' w') : ∀ (l : List Oper) (st : St) (ρ : aE) (a : Act) (w : World), Sim P B O w0 ρ st a w -> bJ E call ops.toList l st k = some r -> wpList P ops Q l a w
 | [], st, ρ, a, w, h, hk => hnext ρ st a w hk h
 | o :: l, st, ρ, a, w, h, hk => by
  have run : ∀ (st : St), Sim P B O w0 ρ st a w -> exec E call o st (fun st => bJ E call ops.toList l st k) = some r -> Region.wanted o (yielded ops a.tmps) = true -> wpList P ops Q (o :: l) a w := by
   intro st h hk hw
   unfold wpList
   rw [if_pos hw]
   exact .inl (jy hE hC h o hk fun ρ' st' a' w' hk' h' => hO hE hC hnext l st' ρ' a' w' h' hk')
  have skip : ∀ (st : St), Sim P B O w0 ρ st a w -> bJ E call ops.toList l (st.put o.dst (.tup [])) k = some r -> Region.wanted o (yielded ops a.tmps) = false -> wpList P ops Q (o :: l) a w := by
   intro st h hk hw
   unfold wpList
   rw [if_neg (by rw [hw]; simp)]
   exact hO hE hC hnext l _ ρ _ w (h.put o.dst (v := .tup []) (u := undef) ⟨[], rfl, .nil⟩ (fun d hd => by cases hd)) hk
  simp only [bJ] at hk
  split at hk
  ·rename_i hg
   exact run st h hk (by simp [Region.wanted, hg])
  ·rename_i j want hg
   split at hk
   ·rename_i t ht
    split at hk
    ·rename_i v hv
     obtain ⟨u, hu, hr⟩ := h.sl t _ hv
     have hr : u = .bool v := hr
     subst hr
     have ht' : (ops[j]?).bind (·.dst) = some t := by rw [← Array.getElem?_toList]; exact ht
     have hy : yielded ops a.tmps j = some v := by
      unfold yielded
      rw [ht']
      simp [hu]
     have hw : Region.wanted o (yielded ops a.tmps) = (v == want) := by
      unfold Region.wanted
      rw [hg]
      simp only [hy]
      cases v <;> cases want <;> rfl
     cases v with
     | true =>
      simp only [sb hv, aP] at hk
      split at hk
      ·rename_i h1; subst h1; exact run st h hk (by rw [hw]; rfl)
      ·rename_i h1; have : want = false := by simpa using h1
       subst this; exact skip st h hk (by rw [hw]; rfl)
     | false =>
      simp only [sb hv, aP] at hk
      split at hk
      ·rename_i h1; subst h1; exact skip st h hk (by rw [hw]; rfl)
      ·rename_i h1; have : want = false := by simpa using h1
       subst this; exact run st h hk (by rw [hw]; rfl)
    ·rename_i hv
     obtain ⟨u, hu, hr⟩ := h.sl t _ hv
     obtain ⟨us, rfl, hus⟩ := hr
     have ht' : (ops[j]?).bind (·.dst) = some t := by rw [← Array.getElem?_toList]; exact ht
     have hy : yielded ops a.tmps j = none := by
      unfold yielded
      rw [ht']
      simp [hu]
     have hw : Region.wanted o (yielded ops a.tmps) = false := by
      unfold Region.wanted
      rw [hg]
      simp only [hy]
      rfl
     exact skip st h hk hw
    ·cases hk
   ·cases hk
theorem Sig.OP (p : Nat -> Bool) (sg : Sig) (keep : List Nat) (i : Nat) : (sg.only p keep).get i = if (!keep.contains i) = true then none else (sg.get i).map (·.bF p) := by
 induction keep with
 | nil => rfl
 | cons j r ih =>
  simp only [Sig.only]
  by_cases he : j = i
  ·subst he
   have hc : (!(j :: r).contains j) = false := by simp
   rw [hc]
   cases hb : sg.get j with
   | some b => simp [Sig.get]
   | none =>
    rw [ih, hb]
    simp
  ·have hc : (!(j :: r).contains i) = !r.contains i := by
    rw [List.contains_cons]
    have : (i == j) = false := beq_eq_false_iff_ne.2 (Ne.symm he)
    rw [this, Bool.false_or]
   rw [hc]
   cases hb : sg.get j with
   | some b => simp only [Sig.get, beq_eq_false_iff_ne.2 he, cond_false]; exact ih
   | none => exact ih
theorem Sim.vF (h : Sim P B O w0 ρ st a w) {m : List Bool} (hm : m.length = st.sl.length) (keep : List Nat) : Sim P B O w0 ρ (st.vF m keep) a w := by
 have hget : ∀ i, (st.vF m keep).sg.get i = if (!keep.contains i) = true then none else (st.sg.get i).map (·.bF fun j => !keep.contains j) := fun i => Sig.OP _ _ _ _
 have hsl : ∀ (i : Nat) (v : AV), (st.vF m keep).sl[i]? = some v -> ∃ v0, st.sl[i]? = some v0 /\ (v = .one .und ∨ v = v0.bF fun j => !keep.contains j) := by
  intro i v hi
  simp only [St.vF, List.getElem?_zipWith] at hi
  split at hi
  ·rename_i b v0 hb hv0
   cases hi
   exact ⟨v0, hv0, by cases b <;> simp⟩
  ·cases hi
 refine ⟨h.mem.bF (p := fun j => !keep.contains j) (fun i b' hi => ?_) (fun d hd hp => ?_), by simp [St.vF, h.len, hm], fun i v hi => ?_, fun i v d hi hd => ?_, h.defers, h.fr, h.base, h.pin, h.glo⟩
 ·rw [hget] at hi
  split at hi
  ·cases hi
  ·rw [Option.map_eq_some_iff] at hi
   obtain ⟨b, h1, h2⟩ := hi
   exact ⟨b, h1, h2.symm⟩
 ·rw [hget, if_neg (by simpa using hp), Option.isSome_map]; exact hd
 ·obtain ⟨v0, h1, h2⟩ := hsl i v hi
  obtain ⟨u, h3, h4⟩ := h.sl i v0 h1
  rcases h2 with rfl | rfl
  ·exact ⟨u, h3, trivial⟩
  ·exact ⟨u, h3, qo h4⟩
 ·obtain ⟨v0, h1, h2⟩ := hsl i v hi
  rcases h2 with rfl | rfl
  ·cases hd
  ·obtain ⟨h3, h4⟩ := hX hd
   rw [hget, if_neg (by simpa using h4), Option.isSome_map]
   exact h.dom i v0 d h1 h3
theorem Sim.dead (h : Sim P B O w0 ρ st a w) {m : List Bool} (hm : m.length = st.sl.length) : Sim P B O w0 ρ (st.dead m) a w := by
 have hsl : ∀ (i : Nat) (v : AV), (st.dead m).sl[i]? = some v -> ∃ v0, st.sl[i]? = some v0 /\ (v = .one .und ∨ v = v0) := by
  intro i v hi
  simp only [St.dead, List.getElem?_zipWith] at hi
  split at hi
  ·rename_i b v0 hb hv0
   cases hi
   exact ⟨v0, hv0, by cases b <;> simp⟩
  ·cases hi
 refine ⟨h.mem, by simp [St.dead, h.len, hm], fun i v hi => ?_, fun i v d hi hd => ?_, h.defers, h.fr, h.base, h.pin, h.glo⟩
 ·obtain ⟨v0, h1, h2⟩ := hsl i v hi
  obtain ⟨u, h3, h4⟩ := h.sl i v0 h1
  rcases h2 with rfl | rfl
  ·exact ⟨u, h3, trivial⟩
  ·exact ⟨u, h3, h4⟩
 ·obtain ⟨v0, h1, h2⟩ := hsl i v hi
  rcases h2 with rfl | rfl
  ·cases hd
  ·exact h.dom i _ d h1 hd
theorem Sim.A3 (h : Sim P B O w0 ρ st a w) (i : Nat) : ∃ ρ', Sim P B O w0 ρ' (ev st i) a w /\ ∀ k, (∀ e t l b, st.sg.get k ≠ some (.arr e t l b)) -> ρ'.loc k = ρ.loc k := by
 unfold Lib.ev
 split
 ·rename_i j o n hi
  split
  ·rename_i e t l b hj
   rw [aP]
   split
   ·rename_i hpin
    rw [Nat.blt_eq] at hpin
    obtain ⟨u, hu, hr⟩ := h.sl i _ hi
    obtain ⟨A, N, c, g, sz, hloc, hle, hsub⟩ := hr
    have hv : u = .slice A n c := by
     rcases hsub with ⟨_, hv⟩ | ⟨_, _, ad, rfl, hv⟩ | ⟨_, h0, _⟩
     ·exact hv
     ·rw [hv, Nat.zero_mul, BA]; rfl
     ·exact absurd rfl h0
    have hL := h.bK j
    have hgL : Sig.get j (st.bK j).sg = some (.arr e t l b) := by
     rw [show Sig.get j (st.bK j).sg = _ from Sig.get_map _ _ _, hj]; rfl
    obtain ⟨v, g', xs, hl', hel, hrow⟩ := hL.mem.blk j _ hgL
    rw [hloc] at hl'
    cases hl'
    have hno : ∀ d b', (st.bK j).sg.get d = some b' -> b'.ak j = true -> False := by
     intro d b' hd hb'
     rw [show Sig.get d (st.bK j).sg = _ from Sig.get_map _ _ _, Option.map_eq_some_iff] at hd
     obtain ⟨b0, _, rfl⟩ := hd
     have := (jv hb').2
     simp at this
    have hnos : ∀ (k : Nat) (v : AV), (st.bK j).sl[k]? = some v -> v.ak j = true -> False := by
     intro k v hk hv
     simp only [St.bK, List.getElem?_map, Option.map_eq_some_iff] at hk
     obtain ⟨v0, _, rfl⟩ := hk
     have := (hX hv).2
     simp at this
    let ρ' : aE := ρ.upd j (.arr (.slice A n c) g t.sz)
    have hst : Step (fun d => d ≠ j) ρ ρ' w w := ⟨fun d hd => aE.gQ ρ _ hd, fun _ _ h => h, fun _ _ _ => rfl⟩
    have hown : ∀ d k, bE ρ' ((st.bK j).sg.put j (.arr e t (l.take n) b)) d k -> bE ρ (st.bK j).sg d k := by
     intro d k ho
     obtain ⟨b0, h1, h2, h3⟩ := aC.1 ho
     rw [Sig.cA] at h1
     split at h1
     ·rename_i hjd
      subst hjd
      cases h1
      refine aC.2 ⟨_, hgL, by simp, .inr ⟨_, _, _, _, rfl, ?_⟩⟩
      rcases h3 with ⟨_, _, h3, _⟩ | ⟨_, _, _, _, _, v0, sz0, h3⟩
      ·cases h3
      ·rw [aE.cR] at h3
       cases h3
       exact ⟨_, _, hloc⟩
     ·rename_i hjd
      rw [show ρ'.loc d = ρ.loc d from aE.gQ ρ _ (Ne.symm hjd)] at h3
      exact aC.2 ⟨b0, h1, h2, h3⟩
    have hsome : ∀ d, ((st.bK j).sg.get d).isSome = true -> (((st.bK j).sg.put j (.arr e t (l.take n) b)).get d).isSome = true := by
     intro d hd
     rw [Sig.cA]
     split
     ·rfl
     ·exact hd
    have hNl : N = l.length := by
     cases g with
     | none =>
      obtain ⟨rfl, A', h0⟩ := hrow
      cases h0
      rfl
     | some g =>
      rcases hrow.1.2 with ⟨h0, hn0⟩ | ⟨_, cap, cur, h0, _⟩
      ·rw [h0] at hrow; cases hrow.2
      ·cases h0; rfl
    have hn : n <= l.length := by omega
    refine ⟨ρ', ⟨⟨fun d b' hd => ?_, fun d d' k h1 h2 => hL.mem.inj d d' k (hown d k h1) (hown d' k h2), fun d k h1 => hL.mem.old d k (hown d k h1), h.mem.okb, fun q k hq d h1 => hL.mem.oko q k hq d (hown d k h1), h.mem.okm, h.mem.okx, h.mem.oky, fun d b' x hd hx => ?_⟩, by simp [hL.len], fun k v hk => ?_, fun k v x hk hx => ?_, h.defers, h.fr, h.base, fun d hd => ?_, h.glo⟩, fun k hk => aE.gQ ρ _ (fun e => hk _ _ _ _ (e ▸ hj))⟩
    ·rw [Sig.cA] at hd
     split at hd
     ·rename_i hjd
      subst hjd
      cases hd
      refine ⟨.slice A n c, g, xs.take (n * t.sz), aE.cR _ _ _, ⟨?_, fun q p hp => ?_⟩, ?_⟩
      ·rw [List.length_take, hel.1, List.length_take, Nat.min_eq_left hn, Nat.min_eq_left (Nat.mul_le_mul_right _ hn)]
      ·rw [List.getElem?_take] at hp
       split at hp
       ·rename_i hq
        have := hel.2 q p hp
        have hq' : q * t.sz + t.sz <= n * t.sz := by rw [← Nat.succ_mul]; exact Nat.mul_le_mul_right _ hq
        rwa [List.drop_take, List.take_take, Nat.min_eq_left (by omega)]
       ·cases hp
      ·cases g with
       | none =>
        obtain ⟨rfl, A', h0⟩ := hrow
        cases h0
        have : n = 0 := by simpa using hn
        subst this
        exact ⟨rfl, A, rfl⟩
       | some g =>
        refine ⟨⟨?_, ?_⟩, ?_⟩
        ·rw [List.length_take, hel.1, List.length_take, Nat.min_eq_left hn, Nat.min_eq_left (Nat.mul_le_mul_right _ hn)]
        ·rcases hrow.1.2 with ⟨h0, hn0⟩ | ⟨g1, cap, cur, h0, h1, h2, h3, h4, h5, h6⟩
         ·rw [h0] at hrow; cases hrow.2
         ·cases h0
          refine .inr ⟨g1, c, cur, ?_, h1, h2, ?_, h4, h5, ?_⟩
          ·rw [List.length_take, Nat.min_eq_left hn]
          ·rw [List.length_take, Nat.min_eq_left hn]; omega
          ·rw [← h6, List.take_take, List.length_take, Nat.min_eq_left hn, Nat.min_eq_left (Nat.mul_le_mul_right _ hn)]
        ·have := hrow.2
         cases A with
         | none => cases this
         | some ad => exact this
     ·rename_i hjd
      exact dC hst (Ne.symm hjd) (fun x hx he => hno d b' hd (by rw [← he]; exact hx)) (fun _ _ _ => rfl) (hL.mem.blk d b' hd)
    ·rw [Sig.cA] at hd
     split at hd
     ·cases hd; cases hx
     ·exact hsome x (hL.mem.dom d b' x hd hx)
    ·rw [List.getElem?_set] at hk
     split at hk
     ·rename_i hik
      subst hik
      split at hk
      ·cases hk
       exact ⟨u, hu, g, t.sz, by rw [hv]; exact aE.cR _ _ _⟩
      ·cases hk
     ·obtain ⟨u', h1, h2⟩ := hL.sl k v hk
      exact ⟨u', h1, cK hst (fun x hx he => hnos k v hk (by rw [← he]; exact hx)) h2⟩
    ·rw [List.getElem?_set] at hk
     split at hk
     ·split at hk
      ·cases hk
       simp only [AV.ak, Cell.ak, beq_iff_eq] at hx
       subst hx
       show (((st.bK j).sg.put j (.arr e t (l.take n) b)).get j).isSome = true
       rw [Sig.cA, if_pos rfl]; rfl
      ·cases hk
     ·exact hsome x (hL.dom k v x hk hx)
    ·exact (aE.gQ ρ _ (by omega)).trans (h.pin d hd)
   ·exact ⟨ρ, h, fun _ _ => rfl⟩
  ·exact ⟨ρ, h, fun _ _ => rfl⟩
 ·exact ⟨ρ, h, fun _ _ => rfl⟩
theorem Sim.ev (h : Sim P B O w0 ρ st a w) (i : Nat) : ∃ ρ', Sim P B O w0 ρ' (ev st i) a w := let ⟨ρ', h1, _⟩ := h.A3 i; ⟨ρ', h1⟩
theorem Ds (s : St) (i : Nat) : (ev s i).sl.length = s.sl.length := by
 unfold Lib.ev
 split
 ·split
  ·rw [aP]; split
   ·simp [St.bK]
   ·rfl
  ·rfl
 ·rfl
theorem Sim.gN : ∀ (l : List Nat) {ρ : aE} {st : St}, Sim P B O w0 ρ st a w -> ∃ ρ', Sim P B O w0 ρ' (gN l st) a w
 | [], ρ, st, h => ⟨ρ, h⟩
 | i :: r, ρ, st, h => by
  obtain ⟨ρ1, h1⟩ := h.ev i
  exact Sim.gN r h1
theorem ye : ∀ (l : List Nat) (s : St), (gN l s).sl.length = s.sl.length
 | [], s => rfl
 | i :: r, s => by rw [gN, ye r, Ds]
theorem Sim.mask (h : Sim P B O w0 ρ st a w) {m : List Bool} (hm : m.length = st.sl.length) (keep : List Nat) : ∃ ρ', Sim P B O w0 ρ' (st.mask m keep) a w := by
 have h1 := h.dead hm
 obtain ⟨ρ', h2⟩ := Sim.gN (It (st.dead m).sl 0) h1
 refine ⟨ρ', (h2.er).vF ?_ keep⟩
 rw [R2]
 have : (Lib.gN (It (st.dead m).sl 0) (st.dead m)).sl.length = (st.dead m).sl.length := ye _ _
 rw [this]
 simp [St.dead, hm]
theorem Sim.eo : ∀ (l : List Nat) {ρ : aE} {st : St}, Sim P B O w0 ρ st a w -> ∃ ρ', Sim P B O w0 ρ' ⟨st.sl, eo l st.sg⟩ a w
 | [], ρ, st, h => ⟨ρ, h⟩
 | j :: r, ρ, st, h => by
  rw [Lib.eo]
  split
  ·rename_i e t l b hj
   obtain ⟨ρ1, hm, hM⟩ := h.mem.freeze hj
   have h1 : Sim P B O w0 ρ1 ⟨st.sl, st.sg.put j (.fro e t l b)⟩ a w := by
    refine ⟨hM, h.len, fun i v hi => ?_, fun i v d hi hd => ?_, h.defers, h.fr, h.base, fun k hk => (congrFun hm.loc k).trans (h.pin k hk), h.glo⟩
    ·obtain ⟨u, h1, h2⟩ := h.sl i v hi
     exact ⟨u, h1, cK (hm.step w) (fun _ _ => trivial) h2⟩
    ·have := h.dom i v d hi hd
     show (Sig.get d (st.sg.put j (.fro e t l b))).isSome = true
     rw [Sig.cA]
     split
     ·rfl
     ·exact this
   exact Sim.eo r h1
  ·exact Sim.eo r h
theorem Sim.GL (h : Sim P B O w0 ρ st a w) (ss : List SP) (gs : List (Nat × GP)) : ∃ ρ', Sim P B O w0 ρ' (st.GL ss gs) a w := by
 unfold St.GL
 split
 ·exact ⟨ρ, h⟩
 ·rename_i j r _
  obtain ⟨ρ1, h1⟩ := h.eo (j :: r)
  exact ⟨ρ1, h1.er⟩
theorem Sim.zN (h : Sim P B O w0 ρ st a w) {ss : List SP} {gs : List (Nat × GP)} {v : StT ss gs} (hwf : vp ss gs) (hc : Lib.zN ss gs st = some v) : ∃ ρ', Sim P B O w0 ρ' (ax ss gs v) a w := by
 unfold Lib.zN at hc
 split at hc
 ·rename_i v' hv
  cases hc
  exact ⟨ρ, h.cap hwf hv⟩
 ·rw [aP] at hc
  split at hc
  ·rename_i hl
   have hl : (ss.map (·.jI)).length = st.sl.length := by simpa using hl
   have h1 := h.dead hl
   obtain ⟨ρ2, h2⟩ := Sim.gN (It (st.dead (ss.map (·.jI))).sl 0) h1
   obtain ⟨ρ3, h3, _⟩ := h2.er.L9 ss
   obtain ⟨ρ6, h6⟩ := h3.GL ss gs
   obtain ⟨ρ4, h4⟩ := h6.named ss gs
   obtain ⟨ρ5, h5, _⟩ := h4.fresh ss gs
   exact ⟨ρ5, h5.cap hwf hc⟩
  ·cases hc
theorem Sim.norm (h : Sim P B O w0 ρ st a w) (ss : List SP) (gs : List (Nat × GP)) : ∃ ρ', Sim P B O w0 ρ' (st.norm ss gs) a w := by
 unfold St.norm
 rw [aP]
 split
 ·rename_i hc
  split
  ·rename_i v hv
   exact h.zN (az hc) hv
  ·exact ⟨ρ, h⟩
 ·exact ⟨ρ, h⟩
theorem Sim.nz (h : Sim P B O w0 ρ st a w) {z : Nz} (hz : z.len = st.sl.length) : ∃ ρ', Sim P B O w0 ρ' (z.run st) a w := by
 cases z with
 | mask m keep => exact h.mask hz keep
 | norm ss gs => exact h.norm ss gs
theorem Sim.Ym (h : Sim P B O w0 ρ st a w) {d : Nat} {ty : TypeId} {cs : List Cell} (hd : st.sg.get d = some (.box ty cs)) {q : Nat} {c : Cell}
  (hc : ∀ g (vs : List Value), ρ.loc d = .box g -> w.heap[g]? = some (.cells vs.toArray ty (0, 0)) -> ∀ u, vs[q]? = some u -> rc ρ w c u) (hu : ∀ x, c.ak x = true -> (st.sg.get x).isSome = true) : Sim P B O w0 ρ ⟨st.sl, st.sg.put d (.box ty (cs.set q c))⟩ a w := by
 have hown : ∀ j g, bE ρ (st.sg.put d (.box ty (cs.set q c))) j g -> bE ρ st.sg j g := by
  intro j g ho
  obtain ⟨b, h1, h2, h3⟩ := aC.1 ho
  rw [Sig.cA] at h1
  split at h1
  ·rename_i hjd
   subst hjd
   cases h1
   refine aC.2 ⟨_, hd, by simp, ?_⟩
   rcases h3 with ⟨_, _, _, h3⟩ | ⟨_, _, _, _, h3, _⟩
   ·exact .inl ⟨_, _, rfl, h3⟩
   ·cases h3
  ·exact aC.2 ⟨b, h1, h2, h3⟩
 have hsome : ∀ x, (st.sg.get x).isSome = true -> (Sig.get x (st.sg.put d (.box ty (cs.set q c)))).isSome = true := by
  intro x hx
  rw [Sig.cA]
  split
  ·rfl
  ·exact hx
 refine ⟨⟨fun j b hj => ?_, fun i j g h1 h2 => h.mem.inj i j g (hown i g h1) (hown j g h2), fun j g h1 => h.mem.old j g (hown j g h1), h.mem.okb, fun b g hg j h1 => h.mem.oko b g hg j (hown j g h1), h.mem.okm, h.mem.okx, h.mem.oky, fun j b x hj hx => ?_⟩, h.len, h.sl, fun i v x hi hx => hsome x (h.dom i v x hi hx), h.defers, h.fr, h.base, h.pin, h.glo⟩
 ·rw [Sig.cA] at hj
  split at hj
  ·rename_i hjd
   subst hjd
   cases hj
   obtain ⟨g, vs, h1, h2, h3⟩ := h.mem.blk _ _ hd
   refine ⟨g, vs, h1, h2, ?_⟩
   have key := hc g vs h1 h2
   clear hc hown hsome h2 hd
   induction h3 generalizing q with
   | nil => exact .nil
   | @cons x y l m hx hl ih =>
    cases q with
    | zero => exact .cons (key _ rfl) hl
    | succ q => exact .cons hx (ih (fun u hu => key u (by simpa using hu)))
  ·exact h.mem.blk j b hj
 ·rw [Sig.cA] at hj
  split at hj
  ·cases hj
   have hx : (cs.set q c).any (·.ak x) = true := hx
   obtain ⟨y, hy, hyx⟩ := List.any_eq_true.1 hx
   rcases List.mem_or_eq_of_mem_set hy with hy | rfl
   ·exact hsome x (h.mem.dom d _ x hd (List.any_eq_true.2 ⟨y, hy, hyx⟩))
   ·exact hsome x (hu x hyx)
  ·exact hsome x (h.mem.dom j b x hj hx)
theorem Sim.push (h : Sim P B O w0 ρ st a w) {v : AV} {u : Value} (hv : rav ρ w v u) (hu : ∀ x, v.ak x = true -> (st.sg.get x).isSome = true) : Sim P B O w0 ρ ⟨st.sl ++ [v], st.sg⟩ { a with tmps := a.tmps.push u } w := by
 refine ⟨h.mem, by simp [h.len], fun i x hi => ?_, fun i x d hi hd => ?_, h.defers, h.fr, h.base, h.pin, h.glo⟩
 ·by_cases hlt : i < st.sl.length
  ·rw [List.getElem?_append_left hlt] at hi
   obtain ⟨u', h1, h2⟩ := h.sl i x hi
   refine ⟨u', ?_, h2⟩
   show (a.tmps.push u)[i]? = _
   rw [Array.getElem?_push, if_neg (by rw [h.len]; omega)]
   exact h1
  ·have hi' := (List.getElem?_eq_some_iff.1 hi).1
   have : i = st.sl.length := by simp at hi'; omega
   subst this
   rw [List.getElem?_append_right (Nat.le_refl _)] at hi
   simp at hi
   subst hi
   refine ⟨u, ?_, hv⟩
   show (a.tmps.push u)[st.sl.length]? = _
   rw [Array.getElem?_push, if_pos h.len.symm]
 ·by_cases hlt : i < st.sl.length
  ·rw [List.getElem?_append_left hlt] at hi
   exact h.dom i x d hi hd
  ·have hi' := (List.getElem?_eq_some_iff.1 hi).1
   have : i = st.sl.length := by simp at hi'; omega
   subst this
   rw [List.getElem?_append_right (Nat.le_refl _)] at hi
   simp at hi
   subst hi
   exact hu d hd
theorem Sim.pop {sl : List AV} {v : AV} {sg : Sig} {u : Value} (h : Sim P B O w0 ρ ⟨sl ++ [v], sg⟩ { a with tmps := a.tmps.push u } w) : Sim P B O w0 ρ ⟨sl, sg⟩ a w := by
 have hl : a.tmps.size = sl.length := by have := h.len; simpa using this
 refine ⟨h.mem, hl, fun i x hi => ?_, fun i x d hi hd => ?_, h.defers, h.fr, h.base, h.pin, h.glo⟩
 ·have hlt := (List.getElem?_eq_some_iff.1 hi).1
  obtain ⟨u', h1, h2⟩ := h.sl i x (by show (sl ++ [v])[i]? = _; rw [List.getElem?_append_left hlt]; exact hi)
  refine ⟨u', ?_, h2⟩
  have h1 : (a.tmps.push u)[i]? = some u' := h1
  rw [Array.getElem?_push, if_neg (by have : i < sl.length := hlt; omega)] at h1
  exact h1
 ·have hlt := (List.getElem?_eq_some_iff.1 hi).1
  exact h.dom i x d (by show (sl ++ [v])[i]? = _; rw [List.getElem?_append_left hlt]; exact hi) hd
theorem Sim.nw (h : Sim P B O w0 ρ st a w) (d q : Nat) : ∃ ρ', Sim P B O w0 ρ' (nw st d q) a w := by
 unfold Lib.nw
 split
 ·rename_i ty0 cs0 hd
  split
  ·rename_i j o n hq
   split
   ·rename_i e t l b hj
    rw [aP]
    split
    ·rename_i hpin
     split
     ·rename_i ty cs' hd'
      obtain ⟨g, vs, hloc, hheap, hall⟩ := h.mem.blk _ _ hd
      obtain ⟨u, hu1, hu2⟩ := hall.get q hq
      have hdom : ∀ x, (AV.one (.sub j 0 n)).ak x = true -> (st.sg.get x).isSome = true := fun x hx => by
       have hx : (j == x) = true := hx
       have := eq_of_beq hx
       subst this
       rw [hj]; rfl
      have h1 := h.push (v := .one (.sub j 0 n)) (u := u) hu2 hdom
      obtain ⟨ρ', h2, hl2⟩ := h1.A3 st.sl.length
      have e0 : Lib.ev ⟨st.sl ++ [.one (.sub j 0 n)], st.sg⟩ st.sl.length = ⟨(st.bK j).sl ++ [.one (.sl j)], (st.bK j).sg.put j (.arr e t (l.take n) b)⟩ := by
       unfold Lib.ev
       simp only [List.getElem?_append_right (Nat.le_refl _), Nat.sub_self, List.getElem?_cons_zero]
       rw [hj]
       simp only [hpin, cond_true]
       congr 1
       simp only [St.bK, List.map_append, List.map_cons, List.map_nil]
       rw [List.set_append_right _ _ (by simp)]
       simp
      rw [e0] at h2
      have hslot := h2.sl st.sl.length (.one (.sl j)) (by
       show ((st.bK j).sl ++ [AV.one (.sl j)])[st.sl.length]? = _
       rw [List.getElem?_append_right (by simp [St.bK])]
       simp [St.bK])
      obtain ⟨u', hu3, hu4⟩ := hslot
      have hu3 : (a.tmps.push u)[st.sl.length]? = some u' := hu3
      rw [Array.getElem?_push, if_pos h.len.symm] at hu3
      cases hu3
      have h3 := h2.pop
      have hjd : ¬ j = d := fun e => by rw [e, hd] at hj; cases hj
      have hlocd : ρ'.loc d = .box g := (hl2 d (fun e t l b he => by have he : st.sg.get d = _ := he; rw [hd] at he; cases he)).trans hloc
      have hdd : Sig.get d ((st.bK j).sg.put j (.arr e t (l.take n) b)) = some (.box ty cs') := by rw [Sig.cA, if_neg hjd]; exact hd'
      have hty : ty = ty0 := by
       have : Sig.get d (st.bK j).sg = _ := Sig.get_map _ _ _
       rw [hd', hd] at this
       cases this
       rfl
      subst hty
      have h4 := h3.Ym hdd (q := q) (c := .sl j) (fun g' vs' e1 e2 u' hu' => by
       rw [hlocd] at e1; cases e1
       rw [hheap] at e2
       have hvs : vs' = vs := by
        have := Option.some.inj e2
        injection this with h1 h2 h3
        have := congrArg Array.toList h1
        simpa using this.symm
       subst hvs
       rw [hu1] at hu'; cases hu'
       exact hu4) (fun x hx => by
       have hx : (j == x) = true := hx
       have := eq_of_beq hx
       subst this
       rw [Sig.cA, if_pos rfl]; rfl)
      exact ⟨ρ', h4⟩
     ·exact ⟨ρ, h⟩
    ·exact ⟨ρ, h⟩
   ·exact ⟨ρ, h⟩
  ·exact ⟨ρ, h⟩
 ·exact ⟨ρ, h⟩
theorem Sim.fU (d : Nat) : ∀ (k : Nat) {ρ : aE} {st : St}, Sim P B O w0 ρ st a w -> ∃ ρ', Sim P B O w0 ρ' (fU d k st) a w
 | 0, ρ, st, h => ⟨ρ, h⟩
 | k + 1, ρ, st, h => by
  obtain ⟨ρ1, h1⟩ := Sim.fU d k h
  exact h1.nw d k
theorem Sim.dL : ∀ (l : List ResultVar) {ρ : aE} {st : St}, Sim P B O w0 ρ st a w -> ∃ ρ', Sim P B O w0 ρ' (dL l st) a w
 | [], ρ, st, h => ⟨ρ, h⟩
 | .tmp _ :: r, ρ, st, h => Sim.dL r h
 | .cell t ty :: r, ρ, st, h => by
  rw [Lib.dL]
  split
  ·split
   ·obtain ⟨ρ1, h1⟩ := Sim.fU _ _ h
    exact Sim.dL r h1
   ·exact Sim.dL r h
  ·exact Sim.dL r h
theorem Sim.ends (h : Sim P B O w0 ρ st a w) (fn : Func) : ∃ ρ', Sim P B O w0 ρ' (st.ends fn) a w := by
 obtain ⟨ρ1, h1⟩ := Sim.gN (sP st.sl fn.results.toList) h
 exact Sim.dL _ h1
theorem rU {c : Code} {Q : Exit -> Act -> World -> Prop} (I : Nat -> Act -> World -> Prop)
  (round : ∀ n a w, I n a w -> c.wp P (Exit.then (fun a' w' => ∃ m, m < n /\ I m a' w') Q) a w) : ∀ n a w, I n a w -> (Code.loop c).wp P Q a w := by
 intro n a w hI b k cs
 have key : ∀ n a w, I n a w -> ∃ e a' w', Q e a' w' /\ Arrives P (lone (b.at a (.code c :: .inLoop c :: k)) cs w) b k cs e a' w' := by
  intro n
  induction n using Nat.strongRecOn with
  | _ n ih =>
   intro a w hI
   obtain ⟨e, a₁, w₁, hq, harr⟩ := round n a w hI b (.inLoop c :: k) cs
   cases e with
   | normal =>
    obtain ⟨m, hlt, hI₁⟩ := hq
    obtain ⟨e₂, a₂, w₂, hq₂, harr₂⟩ := ih m hlt a₁ w₁ hI₁
    exact ⟨e₂, a₂, w₂, hq₂, .of_steps (Steps.trans harr (.one step_inLoop)) harr₂⟩
   | exit id => exact ⟨_, a₁, w₁, hq, .pass (x := .inLoop c) rfl (fun _ _ => .inl (by simp)) harr⟩
   | goto l => exact ⟨_, a₁, w₁, hq, .pass (x := .inLoop c) rfl (fun _ _ => .inl (by simp)) harr⟩
   | ret => exact ⟨_, a₁, w₁, hq, .pass (x := .inLoop c) rfl (fun _ _ => .inl (by simp)) harr⟩
   | panic ch => exact ⟨_, a₁, w₁, hq, .pass (x := .inLoop c) rfl (fun _ _ => .inl (by simp)) harr⟩
   | outgrown => exact ⟨_, a₁, w₁, hq, .pass (x := .inLoop c) rfl (fun _ _ => .inl (by simp)) harr⟩
 obtain ⟨e, a', w', hq, harr⟩ := key n a w hI
 exact ⟨e, a', w', hq, .of_steps (.one step_loop) harr⟩
def kq (P : Program) (E : Env) (call : bh) (draw : Env -> bh -> List Oper -> St -> Bool) : Prop :=
 ∀ (R : Type) (r : R) (B : Nat) (O : Ow) (w0 w : World) (ρ : aE) (st : St) (a : Act) (id : Nat) (ops : Array Oper) (k : St -> Option R) (Q : Exit -> Act -> World -> Prop), draw E call ops.toList st = true -> Sim P B O w0 ρ st a w -> bJ E call ops.toList ops.toList st k = some r ->
  (∀ ρ' st' a' w', k st' = some r -> Sim P B O w0 ρ' st' a' w' -> Q .normal a' w') -> (Code.region id ops true).wp P Q a w
theorem cz (hE : Env.Ok P E) (hC : eb P call) {draw : Env -> bh -> List Oper -> St -> Bool} (hD : kq P E call draw) (fuel : Nat) : ∀ (c : Code) (lt : LT) (st : St) (ρ : aE) (a : Act) (w : World) (k : Ex -> St -> Option R) (Q : Exit -> Act -> World -> Prop), ah P c lt -> Sim P B O w0 ρ st a w -> dy E call draw fuel c lt st k = some r ->
  (∀ e ρ' st' a' w', k e st' = some r -> Sim P B O w0 ρ' st' a' w' -> Q e.to a' w') -> c.wp P Q a w
 | .skip, lt, st, ρ, a, w, k, Q, hl, h, hk, hn => wp_skip (hn .normal ρ st a w hk h)
 | .label l, lt, st, ρ, a, w, k, Q, hl, h, hk, hn => wp_label (hn .normal ρ st a w hk h)
 | .exit id, lt, st, ρ, a, w, k, Q, hl, h, hk, hn => wp_exit (hn (.exit id) ρ st a w hk h)
 | .ret, lt, st, ρ, a, w, k, Q, hl, h, hk, hn => wp_ret (hn .ret ρ st a w hk h)
 | .goto _, lt, st, ρ, a, w, k, Q, hl, h, hk, hn => by simp only [dy] at hk; cases hk
 | .scope _, lt, st, ρ, a, w, k, Q, hl, h, hk, hn => by simp only [dy] at hk; cases hk
 | .refuse _, lt, st, ρ, a, w, k, Q, hl, h, hk, hn => by simp only [dy] at hk; cases hk
 | .rangeFunc _ _ _ _, lt, st, ρ, a, w, k, Q, hl, h, hk, hn => by simp only [dy] at hk; cases hk
 | .region id ops d, lt, st, ρ, a, w, k, Q, hl, h, hk, hn => by
  simp only [dy] at hk
  have go : (bif !d || draw E call ops.toList st then bJ E call ops.toList ops.toList st (k .normal) else none) = some r -> (Code.region id ops d).wp P Q a w := by
   clear hk
   intro hk
   simp only [aP] at hk
   split at hk
   ·rename_i hd
    cases d with
    | false => exact wp_region_list (hO hE hC (fun ρ' st' a' w' hk' h' => hn .normal ρ' st' a' w' hk' h') _ st ρ a w h hk)
    | true => exact hD R r B O w0 w ρ st a id ops (k .normal) Q (by simpa using hd) h hk (fun ρ' st' a' w' hk' h' => hn .normal ρ' st' a' w' hk' h')
   ·cases hk
  cases lt with
  | sum ss gs F =>
   simp only at hk
   split at hk
   ·rename_i v hv
    rw [aJ.run_bind, Option.bind_eq_some_iff] at hk
    obtain ⟨q, hq, hk⟩ := hk
    simp only [ah] at hl
    obtain ⟨ρP, hP⟩ := h.zN hl.1 hv
    exact hl.2 B O w0 w ρP a v q.1 q.2 Q hq hP fun ρ' a' w' h' => hn _ ρ' _ a' w' hk h'
   ·cases hk
  | none => exact go hk
  | node p q => exact go hk
 | .seq x y, lt, st, ρ, a, w, k, Q, hl, h, hk, hn => by
  simp only [dy] at hk
  refine wp_seq (cz hE hC hD fuel x lt.l st ρ a w _ _ hl.1 h hk fun e ρ' st' a' w' hk' h' => ?_)
  cases e with
  | normal => exact cz hE hC hD fuel y lt.r st' ρ' a' w' k Q hl.2 h' hk' hn
  | exit i => exact hn (.exit i) ρ' st' a' w' hk' h'
  | ret => exact hn .ret ρ' st' a' w' hk' h'
 | .cond c x y, lt, st, ρ, a, w, k, Q, hl, h, hk, hn => by
  simp only [dy] at hk
  have go : ah P x lt.l -> ah P y lt.r -> (match aF st.sl c with
    | .one (.bool v) => (match v with
     | true => dy E call draw fuel x lt.l st k
     | false => dy E call draw fuel y lt.r st k)
    | _ => none) = some r -> (Code.cond c x y).wp P Q a w := by
   intro hl1 hl2 hk
   split at hk
   ·rename_i v hv
    have hc := (h.eval c).1
    rw [hv] at hc
    have hc : a.eval c = .bool v := hc
    cases v with
    | true => exact wp_cond_true hc (cz hE hC hD fuel x lt.l st ρ a w k Q hl1 h hk hn)
    | false => exact wp_cond_false hc (cz hE hC hD fuel y lt.r st ρ a w k Q hl2 h hk hn)
   ·cases hk
  cases lt with
  | sum ss gs F =>
   simp only at hk
   split at hk
   ·rename_i v hv
    rw [aJ.run_bind, Option.bind_eq_some_iff] at hk
    obtain ⟨q, hq, hk⟩ := hk
    simp only [ah] at hl
    obtain ⟨ρP, hP⟩ := h.zN hl.1 hv
    exact hl.2 B O w0 w ρP a v q.1 q.2 Q hq hP fun ρ' a' w' h' => hn _ ρ' _ a' w' hk h'
   ·cases hk
  | none => exact go hl.1 hl.2 hk
  | node p q => exact go hl.1 hl.2 hk
 | .block id b, lt, st, ρ, a, w, k, Q, hl, h, hk, hn => by
  simp only [dy] at hk
  refine wp_block (cz hE hC hD fuel b lt.l st ρ a w _ _ hl h hk fun e ρ' st' a' w' hk' h' => ?_)
  cases e with
  | normal => exact hn .normal ρ' st' a' w' hk' h'
  | exit i =>
   simp only [aP, beq_iff_eq] at hk'
   show (if i = id then Q .normal a' w' else Q (.exit i) a' w')
   split at hk'
   ·rename_i hi; rw [if_pos hi]; exact hn .normal ρ' st' a' w' hk' h'
   ·rename_i hi; rw [if_neg hi]; exact hn (.exit i) ρ' st' a' w' hk' h'
  | ret => exact hn .ret ρ' st' a' w' hk' h'
 | .loop b, lt, st, ρ, a, w, k, Q, hl, h, hk, hn => by
  simp only [dy] at hk
  have go : ah P b lt.l -> iy (dy E call draw fuel b lt.l) (.mask (st.sl.map (·.jI)) (st.sg.map (·.1))) fuel st k = some r -> (Code.loop b).wp P Q a w := by
   intro hl0 hk
   refine rU (fun n a w => ∃ ρ st', Sim P B O w0 ρ st' a w /\ iy (dy E call draw fuel b lt.l) (.mask (st.sl.map (·.jI)) (st.sg.map (·.1))) n st' k = some r) (fun n a w hI => ?_) fuel a w ⟨ρ, st, h, hk⟩
   obtain ⟨ρ1, st1, h1, hk1⟩ := hI
   cases n with
   | zero => simp only [iy] at hk1; cases hk1
   | succ n =>
    simp only [iy] at hk1
    refine cz hE hC hD fuel b lt.l _ ρ1 a w _ _ hl0 h1 hk1 fun e ρ' st' a' w' hk' h' => ?_
    simp only [aP] at hk'
    split at hk'
    ·rename_i hl'
     simp only [beq_iff_eq] at hl'
     obtain ⟨ρm, hm⟩ := h'.nz (z := .mask (st.sl.map (·.jI)) (st.sg.map (·.1))) hl'.symm
     cases e with
     | normal => exact ⟨n, Nat.lt_succ_self n, ρm, _, hm, hk'⟩
     | exit i => exact hn (.exit i) ρm _ a' w' hk' hm
     | ret => exact hn .ret ρm _ a' w' hk' hm
    ·cases hk'
  cases lt with
  | sum ss gs F =>
   simp only at hk
   split at hk
   ·rename_i v hv
    rw [aJ.run_bind, Option.bind_eq_some_iff] at hk
    obtain ⟨q, hq, hk⟩ := hk
    simp only [ah] at hl
    obtain ⟨ρP, hP⟩ := h.zN hl.1 hv
    exact hl.2 B O w0 w ρP a v q.1 q.2 Q hq hP fun ρ' a' w' h' => hn _ ρ' _ a' w' hk h'
   ·cases hk
  | none => exact go hl hk
  | node x y => exact go hl hk
theorem Ho (hE : Env.Ok P E) (hC : eb P call) {draw : Env -> bh -> List Oper -> St -> Bool} (hD : kq P E call draw) (fuel : Nat) {b : Code} {lt : LT} (hl0 : ah P b lt) {z : Nz} (N : Nat) (st : St) (ρ : aE) (a : Act) (w : World) (k : Ex -> St -> Option R) (Q : Exit -> Act -> World -> Prop) (h : Sim P B O w0 ρ st a w)
  (hk : iy (dy E call draw fuel b lt) z N st k = some r) (hn : ∀ e ρ' st' a' w', k e st' = some r -> Sim P B O w0 ρ' st' a' w' -> Q e.to a' w') : (Code.loop b).wp P Q a w := by
 refine rU (fun n a w => ∃ ρ st', Sim P B O w0 ρ st' a w /\ iy (dy E call draw fuel b lt) z n st' k = some r) (fun n a w hI => ?_) N a w ⟨ρ, st, h, hk⟩
 obtain ⟨ρ1, st1, h1, hk1⟩ := hI
 cases n with
 | zero => simp only [iy] at hk1; cases hk1
 | succ n =>
  simp only [iy] at hk1
  refine cz hE hC hD fuel b lt _ ρ1 a w _ _ hl0 h1 hk1 fun e ρ' st' a' w' hk' h' => ?_
  simp only [aP] at hk'
  split at hk'
  ·rename_i hl'
   simp only [beq_iff_eq] at hl'
   obtain ⟨ρm, hm⟩ := h'.nz hl'.symm
   cases e with
   | normal => exact ⟨n, Nat.lt_succ_self n, ρm, _, hm, hk'⟩
   | exit i => exact hn (.exit i) ρm _ a' w' hk' hm
   | ret => exact hn .ret ρm _ a' w' hk' hm
  ·cases hk'
end
end Go.Proofs.YtahlaccdpmddbaaGreat.Lib
namespace Go.Proofs.YtahlaccdpmddbaaGreat.Lib
open Go Go.RowKit
set_option linter.unusedVariables false
set_option linter.unusedSimpArgs false
def US (tmps : Array Value) : ResultVar -> Sem Value
 | .tmp t => pure (tmps.getD t undef)
 | .cell p t => do loadVar t (← asAddr (tmps.getD p undef))
def pack : List Value -> Value
 | [u] => u | us => .tuple us.toArray
section
variable {P : Program} {E : Env} {B : Nat} {O : Ow} {w0 w w' : World} {ρ ρ' : aE} {a : Act} {R : Type} {r : R} {sg sg' : Sig} {st : St} {call : bh}
theorem rX (h : Mem B O ρ sg w) {vs : List AV} {us : List Value} {res : AV} {out : Sig} (hr : aO (rav ρ w) vs us) (hl : z8 sg vs = some (res, out)) :
  ∃ ρ', rav ρ' w res (pack us) /\ Mem B O ρ' out w /\ (∀ d, res.ak d = true -> (out.get d).isSome = true) := by
 unfold z8 at hl
 split at hl
 ·rename_i v
  obtain ⟨u, rfl, hr1⟩ := hr.single
  split at hl
  ·rename_i g cs hp
   split at hl
   ·rename_i cs1 out1 js hc
    simp only [aP] at hl
    split at hl
    ·rename_i hj
     split at hl
     ·rename_i v1 hv
      simp only [Option.some.injEq, Prod.mk.injEq] at hl
      obtain ⟨rfl, rfl⟩ := hl
      obtain ⟨vs0, a1, a2⟩ := FZ (hJ hr1 hp)
      obtain ⟨b1, b2, b3⟩ := fX h a1 hc
      obtain ⟨L, c1, c2⟩ := tO h b2 hj
      have hrp := a2 _ _ (b1 L c1)
      rcases gf hv with ⟨rfl, rfl⟩ | ⟨rfl, c, rfl, rfl⟩
      ·exact ⟨_, hrp, c2, b3⟩
      ·obtain ⟨c', hc', hrp⟩ := hrp
       cases hc'
       exact ⟨_, hrp, c2, fun d hd => b3 d (by simpa [AV.ak] using hd)⟩
     ·cases hl
    ·cases hl
   ·cases hl
  ·cases hl
 ·rename_i hne
  split at hl
  ·rename_i ps out1 js ht
   simp only [aP] at hl
   split at hl
   ·rename_i hj
    simp only [Option.some.injEq, Prod.mk.injEq] at hl
    obtain ⟨rfl, rfl⟩ := hl
    obtain ⟨b1, b2, b3⟩ := je h hr ht
    obtain ⟨L, c1, c2⟩ := tO h b2 hj
    refine ⟨⟨L, ρ.ok⟩, ?_, c2, b3⟩
    have hus : pack us = .tuple us.toArray := by
     unfold pack
     split
     ·rename_i u
      obtain ⟨v, rest, rfl⟩ : ∃ v rest, vs = v :: rest := by cases hr; exact ⟨_, _, rfl⟩
      cases hr with
      | cons _ h2 => cases h2; exact absurd rfl (hne _)
     ·rfl
    rw [hus]
    exact ⟨us, rfl, b1 L c1⟩
   ·cases hl
  ·cases hl
theorem eD (hE : Env.Ok P E) (h : Sim P B O w0 ρ st a w) : ∀ {rs : List ResultVar} {vs : List AV}, lG E st rs = some vs ->
  ∃ us : List Value, aO (rav ρ w) vs us /\ (rs.mapM (US a.tmps)).run P w = .ok us w /\ ∀ v ∈ vs, ∀ d, v.ak d = true -> (st.sg.get d).isSome = true
 | [], vs, hr => by
  simp only [lG, Option.some.injEq] at hr
  subst hr
  exact ⟨[], .nil, rfl, fun v hv => by cases hv⟩
 | x :: rs, vs, hr => by
  simp only [lG] at hr
  split at hr
  ·rename_i v vs1 hv hvs
   simp only [Option.some.injEq] at hr
   subst hr
   obtain ⟨us, h1, h2, h2u⟩ := eD hE h hvs
   have one : ∃ u : Value, rav ρ w v u /\ (US a.tmps x).run P w = .ok u w /\ ∀ d, v.ak d = true -> (st.sg.get d).isSome = true := by
    unfold Vk at hv
    split at hv
    ·rename_i t
     simp only [Option.some.injEq] at hv
     subst hv
     exact ⟨a.eval (.tmp t), (h.eval (.tmp t)).1, rfl, (h.eval (.tmp t)).2⟩
    ·rename_i p t
     split at hv
     ·rename_i j i c ti hp ht
      simp only [aP] at hv
      split at hv
      ·rename_i hz
       have hx := (h.eval (.tmp p)).1
       simp only [aF] at hx
       rw [hp] at hx
       have hn : 0 < ti.sz := by simpa [Nat.pos_iff_ne_zero] using hz
       obtain ⟨cs, ad, us0, hk, hu, hl, hr, hc, hd⟩ := mj (kk := fun cs => Cell.ofElem ti.agg cs) h.mem hv hx hn
       have hu : a.tmps.getD p undef = .pointer (some ad) := hu
       rcases gf hk with ⟨hg, rfl⟩ | ⟨hg, c, rfl, rfl⟩
       ·refine ⟨.agg us0.toArray, ⟨us0, rfl, hr⟩, ?_, fun d hd' => hd d hd'⟩
        have := yP (hE.ti _ _ ht) hl hc (v := .agg us0.toArray) (.inl ⟨hg, rfl⟩)
        show (do loadVar t (← asAddr (a.tmps.getD p undef)) : Sem Value).run P w = _
        rw [hu]
        simp only [asAddr, Sem.run_bind, Sem.run_pure, Result.andThen_ok, this]
       ·obtain ⟨u, rfl, hr1⟩ := hr.single
        refine ⟨u, hr1, ?_, fun d hd' => hd d (by simpa [AV.ak] using hd')⟩
        have := yP (hE.ti _ _ ht) hl hc (v := u) (.inr ⟨hg, rfl⟩)
        show (do loadVar t (← asAddr (a.tmps.getD p undef)) : Sem Value).run P w = _
        rw [hu]
        simp only [asAddr, Sem.run_bind, Sem.run_pure, Result.andThen_ok, this]
      ·cases hv
     ·cases hv
   obtain ⟨u, h3, h4, h4u⟩ := one
   refine ⟨u :: us, .cons h3 h1, ?_, fun x hx => ?_⟩
   ·rw [List.mapM_cons, Sem.run_bind, h4, Result.andThen_ok, Sem.run_bind, h2]
    rfl
   ·rcases List.mem_cons.1 hx with rfl | hx
    ·exact h4u
    ·exact h2u x hx
  ·cases hr
theorem kb {fn : Func} {tmps : Array Value} {us : List Value} {w : World} (h : (fn.results.toList.mapM (US tmps)).run P w = .ok us w) :
  (results fn tmps).run P w = .ok (pack us) w := by
 show (do let vs ← fn.results.mapM (US tmps); pure (if h : vs.size = 1 then vs[0] else .tuple vs) : Sem Value).run P w = _
 rw [Sem.run_bind, Array.mapM_eq_mapM_toList, Sem.run_map, h]
 simp only [Result.andThen_ok, Sem.run_pure]
 congr 1
 match us with
 | [] => rfl
 | [u] => rfl
 | u :: v :: us =>
  rw [dif_neg (by simp)]
  rfl
theorem GY (hE : Env.Ok P E) (hC : eb P call) {draw : Env -> bh -> List Oper -> St -> Bool} (hD : kq P E call draw) {fuel : Nat} {f : FuncId} {fn : Func} {c : Code} {lt : LT} {args : List AV} {res : AV} {out : Sig} (hf : P.funcs[f]? = some fn) (hb : fn.body = some c) (hlt : ah P c lt)
  (hk : Qp E call draw fuel fn c lt args [] = some (res, out)) {ρ0 : aE} {vs : List Value} (hokb : ∀ b g, ρ0.ok b g -> g < w.heap.size) (hokm : ∀ g, ρ0.ok false g -> ρ0.ok true g) (hgl : GH P ρ0 w) (hr : aO (rav ρ0 w) args vs) (hu : ∀ v ∈ args, ∀ d, v.ak d = false) :
  Calls P f vs.toArray w fun e w' => ∃ v ρ', e = .returned v /\ rav ρ' w' res v /\ Mem w.heap.size ⟨fun _ => False, ρ0.ok, ρ0.loc⟩ ρ' out w' /\ (∀ d, res.ak d = true -> (out.get d).isSome = true) /\ Below w.heap.size w w' := by
 unfold Qp at hk
 refine calls_of_wp hf hb ?_
 have hlen := hr.length
 have h0 : Sim P w.heap.size ⟨fun _ => False, ρ0.ok, ρ0.loc⟩ w ρ0 ⟨args ++ List.replicate (fn.ntmps - args.length) (.one .und), []⟩ { tmps := vs.toArray ++ Array.replicate (fn.ntmps - vs.toArray.size) undef, defers := [] } w := by
  refine ⟨⟨(fun j b hj => by cases hj), (fun i j g hi => by cases hi), (fun j g hj => by cases hj), hokb, (fun b g hg j hj => by cases hj), hokm, fun b g hg => .inl hg, fun b g hg => hg, (fun j b d hj => by cases hj)⟩, by simp [hlen], fun i v hi => ?_, fun i v d hi hd => ?_, rfl, gr.refl _ _ _, Nat.le_refl _, fun _ _ => rfl, fun G hG => ⟨(hgl G hG).1, hokb _ _ (hgl G hG).1, fun h => h, (hgl G hG).2⟩⟩
  ·rcases Nat.lt_or_ge i args.length with hlt | hge
   ·rw [List.getElem?_append_left hlt] at hi
    obtain ⟨u, h1, h2⟩ := hr.get i hi
    exact ⟨u, by rw [Array.getElem?_append_left (by simpa [← hlen] using hlt)]; simpa using h1, h2⟩
   ·rw [List.getElem?_append_right hge, List.getElem?_replicate] at hi
    split at hi
    ·rename_i hlt
     cases hi
     refine ⟨undef, ?_, trivial⟩
     rw [Array.getElem?_append_right (by simpa [← hlen] using hge), Array.getElem?_replicate, if_pos (by simpa [← hlen] using hlt)]
    ·cases hi
  ·rcases Nat.lt_or_ge i args.length with hlt | hge
   ·rw [List.getElem?_append_left hlt] at hi
    rw [hu v (List.mem_of_getElem? hi) d] at hd
    cases hd
   ·rw [List.getElem?_append_right hge, List.getElem?_replicate] at hi
    split at hi
    ·cases hi; cases hd
    ·cases hi
 refine cz hE hC hD fuel c lt _ ρ0 _ w _ _ hlt h0 hk fun e ρ' st' a' w' hk' h' => ?_
 have fin : (match lG E (st'.ends fn) fn.results.toList with | some vs => (match jX E fn.resultTypes.toList (st'.ends fn).sg vs with | (sg, vs) => z8 sg vs) | none => none) = some (res, out) -> a'.defers = [] /\ ∃ v, (results fn a'.tmps).run P w' = .ok v w' /\ ∃ v_1 ρ', Ending.returned v = .returned v_1 /\ rav ρ' w' res v_1 /\ Mem w.heap.size ⟨fun _ => False, ρ0.ok, ρ0.loc⟩ ρ' out w' /\ (∀ d, res.ak d = true -> (out.get d).isSome = true) /\ Below w.heap.size w w' := by
  intro hk
  split at hk
  ·rename_i avs hres
   obtain ⟨ρe, he⟩ := h'.ends fn
   obtain ⟨us, h1, h2, hus⟩ := eD hE he hres
   generalize hon : jX E fn.resultTypes.toList (st'.ends fn).sg avs = on at hk
   obtain ⟨sgn, avn⟩ := on
   obtain ⟨ρn, hMn, h1n, _⟩ := pX he.mem h1 hus hon
   obtain ⟨ρ2, h3, h4, h5⟩ := rX hMn h1n hk
   exact ⟨h'.defers, _, kb h2, _, ρ2, rfl, h3, h4, h5, ⟨h'.fr.os, h'.fr.tape, h'.fr.output, h'.fr.size, fun k hk => h'.fr.block k hk (fun h => h)⟩⟩
  ·cases hk
 cases e with
 | normal => exact fin hk'
 | ret => exact fin hk'
 | exit i => cases hk'
theorem eV (hE : Env.Ok P E) {draw : Env -> bh -> List Oper -> St -> Bool} (hD : ∀ call, eb P call -> kq P E call draw) : ∀ n, eb P (jo E draw n)
 | 0 => by
  intro f args res out h
  cases h
 | n + 1 => by
  have ih := eV hE hD n
  intro f args res out h ρ0 w vs h1 h2 hgl h3 h4
  simp only [jo] at h
  split at h
  ·rename_i fn hfn
   split at h
   ·rename_i c hb
    obtain ⟨hf, hn⟩ := hE.fn f fn hfn
    exact ⟨⟨fn, hf, by rw [hb]; rfl, hn⟩, GY hE ih (hD _ ih) hf hb (hE.lt f fn c hfn hb) h h1 h2 hgl h3 h4⟩
   ·cases h
  ·cases h
theorem MT (hE : Env.Ok P E) {draw : Env -> bh -> List Oper -> St -> Bool} (hD : ∀ call, eb P call -> kq P E call draw) {b : Code} {lt : LT} (hlt : ah P b lt) {ss : List SP} {gs : List (Nat × GP)} {F : StT ss gs -> aJ (Ex × St)} (n fuel : Nat) (z : Nz)
  (h : ∀ v e st', (F v).run some = some (e, st') -> ∃ N : Nat, iy (dy E (jo E draw n) draw fuel b lt) z N (ax ss gs v) (fun e st => some (e, st)) = some (e, st')) : bl P b ss gs F := by
 intro B O w0 w ρ a v e st' Q hF hS hn
 obtain ⟨N, hv⟩ := h v e st' hF
 have hC := eV hE hD n
 refine Ho (R := Ex × St) (r := (e, st')) hE hC (hD _ hC) fuel hlt N (ax ss gs v) ρ a w (fun e st => some (e, st)) Q hS hv fun e1 ρ1 st1 a1 w1 hk h1 => ?_
 cases hk
 exact hn ρ1 a1 w1 h1
theorem Nh (hE : Env.Ok P E) {draw : Env -> bh -> List Oper -> St -> Bool} (hD : ∀ call, eb P call -> kq P E call draw) {f : FuncId} {p : Prim}
  (h : ∀ v res out, (p.F v).run some = some (res, out) -> ∃ n, jo E draw n f (SPs.bld (R := Unit) p.ss v).1 [] = some (res, out)) : kp P f p := by
 intro v res out hF
 obtain ⟨n, hn⟩ := h v res out hF
 exact eV hE hD n f _ res out hn
end
end Go.Proofs.YtahlaccdpmddbaaGreat.Lib
namespace Go.Proofs.YtahlaccdpmddbaaGreat.Lib
open Go Go.RowKit
set_option linter.unusedVariables false
set_option linter.unusedSimpArgs false
def C6 (sg sg0 : Sig) (vs : List AV) : Option (AV × Sig) :=
 let js := L0 sg ((sg0.map (·.1)).filter (Nat.ble PIN ·)) vs
 bif U1 sg js && js.all (fun q => Nat.blt q.2 PIN || q.1 == q.2) then (match P5 (vs.map (·.ren (look js))) with
  | some res => some (res, sg.sel (look js) js)
  | none => none) else none
def Jy (E : Env) (call : bh) (draw : Env -> bh -> List Oper -> St -> Bool) (fuel : Nat) (fn : Func) (c : Code) (lt : LT) (st : St) : Option (AV × Sig) :=
 dy E call draw fuel c lt ⟨st.sl ++ List.replicate (fn.ntmps - st.sl.length) (.one .und), st.sg⟩ fun e st' => match e with
  | .exit _ => none
  | _ => (match lG E (st'.ends fn) fn.results.toList with
   | some vs => (match jX E fn.resultTypes.toList (st'.ends fn).sg vs with | (sg, vs) => C6 sg st.sg vs)
   | none => none)
def Kq (E : Env) (draw : Env -> bh -> List Oper -> St -> Bool) (n : Nat) (f : FuncId) (st : St) : Option (AV × Sig) :=
 match E.find f with
 | some fn => (match fn.body with
  | some c => Jy E (jo E draw n) draw n fn c (E.Oy f) st
  | none => none)
 | none => none
section
variable {P : Program} {E : Env} {B : Nat} {O : Ow} {w0 w w' : World} {ρ : aE} {a : Act} {R : Type} {r : R} {sg sg' : Sig} {st : St} {call : bh}
theorem uZ : ∀ {vs : List AV} {us : List Value} {ps : List (Bool × List Cell)}, aO (rav ρ w) vs us -> vs.mapM l9 = some ps -> aO (rp ρ w) ps us /\ ∀ d, (ps.any fun p => p.2.any (·.ak d)) = true -> ∃ v ∈ vs, v.ak d = true
 | [], us, ps, h, hp => by
  cases h
  simp only [List.mapM_nil, pure, Option.some.injEq] at hp
  subst hp
  exact ⟨.nil, fun d hd => by cases hd⟩
 | v :: vs, us, ps, h, hp => by
  cases h with
  | @cons _ u _ us h0 h1 =>
  rw [List.mapM_cons] at hp
  simp only [bind, Option.bind_eq_some_iff, pure, Option.some.injEq] at hp
  obtain ⟨p, hp, ps', hps, rfl⟩ := hp
  obtain ⟨a1, a2⟩ := uZ h1 hps
  obtain ⟨g, cs⟩ := p
  refine ⟨.cons (hJ h0 hp) a1, fun d hd => ?_⟩
  rw [List.any_cons, Bool.or_eq_true] at hd
  rcases hd with hd | hd
  ·refine ⟨v, List.mem_cons_self, ?_⟩
   cases v with
   | one c =>
    simp only [l9, Option.some.injEq, Prod.mk.injEq] at hp
    obtain ⟨rfl, rfl⟩ := hp
    simpa [AV.ak] using hd
   | agg l =>
    simp only [l9, Option.some.injEq, Prod.mk.injEq] at hp
    obtain ⟨rfl, rfl⟩ := hp
    exact hd
   | tup l => cases hp
  ·obtain ⟨x, hx, hd⟩ := a2 d hd
   exact ⟨x, List.mem_cons_of_mem _ hx, hd⟩
theorem Fa {vs : List AV} {us : List Value} {res : AV} (h : aO (rav ρ w) vs us) (hp : P5 vs = some res) : rav ρ w res (pack us) /\ ∀ d, res.ak d = true -> ∃ v ∈ vs, v.ak d = true := by
 unfold P5 at hp
 split at hp
 ·cases h
  cases hp
  exact ⟨⟨[], rfl, .nil⟩, fun d hd => by cases hd⟩
 ·rename_i v
  obtain ⟨u, rfl, h9⟩ := h.single
  split at hp
  ·rename_i p hq
   cases hp
   obtain ⟨g, cs⟩ := p
   refine ⟨Hw (hJ h9 hq), fun d hd => ⟨v, List.mem_cons_self, ?_⟩⟩
   obtain ⟨_, h2⟩ := uZ (ρ := ρ) (w := w) (vs := [v]) (us := [u]) (ps := [(g, cs)]) (.cons h9 .nil) (by simp [List.mapM_cons, hq])
   obtain ⟨x, hx, hd⟩ := h2 d (by simpa using Bv hd)
   rw [List.mem_singleton] at hx
   subst hx
   exact hd
  ·cases hp
 ·rename_i h1 h2
  split at hp
  ·rename_i ps hq
   cases hp
   obtain ⟨a1, a2⟩ := uZ h hq
   refine ⟨?_, a2⟩
   match us, h with
   | [], h => cases h; exact absurd rfl h1
   | [u], h => obtain ⟨v, rfl⟩ : ∃ v, vs = [v] := (by cases h with | cons _ h => cases h; exact ⟨_, rfl⟩); exact absurd rfl (h2 v)
   | u :: u' :: us, h => exact ⟨_, rfl, a1⟩
  ·cases hp
theorem Da (hE : Env.Ok P E) (hC : eb P call) {draw : Env -> bh -> List Oper -> St -> Bool} (hD : kq P E call draw) {fuel : Nat} {f : FuncId} {fn : Func} {c : Code} {lt : LT} {st0 : St} {res : AV} {fin : Sig} (hf : P.funcs[f]? = some fn) (hb : fn.body = some c) (hlt : ah P c lt)
  (hk : Jy E call draw fuel fn c lt st0 = some (res, fin)) (h : Sim P B O w ρ st0 a w) : Calls P f a.tmps w (C8 st0.sg ρ w res fin) := by
 unfold Jy at hk
 refine calls_of_wp hf hb ?_
 have h0 : Sim P w.heap.size ⟨fun g => ∃ j, bE ρ st0.sg j g, ρ.ok, ρ.loc⟩ w ρ ⟨st0.sl ++ List.replicate (fn.ntmps - st0.sl.length) (.one .und), st0.sg⟩ { tmps := a.tmps ++ Array.replicate (fn.ntmps - a.tmps.size) undef, defers := [] } w := by
  refine ⟨⟨h.mem.blk, h.mem.inj, fun j g hj => .inr ⟨j, hj⟩, h.mem.okb, h.mem.oko, h.mem.okm, fun b g hg => .inl hg, fun b g hg => hg, h.mem.dom⟩, by simp [h.len], fun i v hi => ?_, fun i v d hi hd => ?_, rfl, gr.refl _ _ _, Nat.le_refl _, fun _ _ => rfl, h.aej⟩
  ·rcases Nat.lt_or_ge i st0.sl.length with hlt | hge
   ·rw [List.getElem?_append_left hlt] at hi
    obtain ⟨u, h1, h2⟩ := h.sl i v hi
    exact ⟨u, by rw [Array.getElem?_append_left (by rw [h.len]; exact hlt)]; exact h1, h2⟩
   ·rw [List.getElem?_append_right hge, List.getElem?_replicate] at hi
    split at hi
    ·rename_i hlt
     cases hi
     refine ⟨undef, ?_, trivial⟩
     rw [Array.getElem?_append_right (by rw [h.len]; exact hge), Array.getElem?_replicate, if_pos (by rw [h.len]; exact hlt)]
    ·cases hi
  ·rcases Nat.lt_or_ge i st0.sl.length with hlt | hge
   ·rw [List.getElem?_append_left hlt] at hi
    exact h.dom i v d hi hd
   ·rw [List.getElem?_append_right hge, List.getElem?_replicate] at hi
    split at hi
    ·cases hi; cases hd
    ·cases hi
 refine cz hE hC hD fuel c lt _ ρ _ w _ _ hlt h0 hk fun e ρ' st' a' w' hk' h' => ?_
 have fin : (match lG E (st'.ends fn) fn.results.toList with
   | some vs => (match jX E fn.resultTypes.toList (st'.ends fn).sg vs with | (sg, vs) => C6 sg st0.sg vs)
   | none => none) = some (res, fin) -> a'.defers = [] /\ ∃ v, (results fn a'.tmps).run P w' = .ok v w' /\ C8 st0.sg ρ w res fin (Ending.returned v) w' := by
  intro hk
  split at hk
  ·rename_i avs hres
   obtain ⟨ρe, he⟩ := h'.ends fn
   obtain ⟨us, h1, h2, hus⟩ := eD hE he hres
   generalize hon : jX E fn.resultTypes.toList (st'.ends fn).sg avs = on at hk
   obtain ⟨sgn, avn⟩ := on
   obtain ⟨ρn, hMn, h1n, hpn⟩ := pX he.mem h1 hus hon
   simp only at hk
   unfold C6 at hk
   simp only [aP] at hk
   split at hk
   ·rename_i hc
    split at hk
    ·rename_i res' hp
     simp only [Option.some.injEq, Prod.mk.injEq] at hk
     obtain ⟨rfl, rfl⟩ := hk
     generalize L0 sgn ((st0.sg.map (·.1)).filter (Nat.ble PIN ·) ) avn = js at hc hp ⊢
     simp only [U1, Bool.and_eq_true, List.all_eq_true, Bool.or_eq_true, Nat.blt_eq, beq_iff_eq] at hc
     obtain ⟨⟨hj, hjs0⟩, hpin⟩ := hc
     have hjs : ∀ j i, (j, i) ∈ js -> (sgn.get j).isSome = true := fun j i hji => hjs0 (j, i) hji
     have hl : ∀ j i, look js j = some i -> (⟨eJ ρn js, ρn.ok⟩ : aE).loc i = ρn.loc j := fun j i hi => dI hj (cY hi)
     have hM := hMn.sel hj hjs (ρ' := ⟨eJ ρn js, ρn.ok⟩) (fun j i hji => dI hj hji) rfl
     obtain ⟨a1, a2⟩ := Fa (h1n.dD (·.ren (look js)) fun x u _ hx => wz hl rfl hx) hp
     refine ⟨h'.defers, _, kb h2, _, ⟨eJ ρn js, ρn.ok⟩, rfl, a1, hM, fun i hi hs => ?_, fun d hd => ?_, h'.fr.os, h'.fr.tape, h'.fr.output, h'.fr.size, fun g hg hn => h'.fr.block g hg (fun ⟨j, hj⟩ => hn j hj)⟩
     ·obtain ⟨b, hb⟩ := Option.isSome_iff_exists.1 hs
      obtain ⟨j, _, hji, _⟩ := pr hj hb
      rcases hpin (j, i) hji with h0 | h0
      ·simp only at h0; omega
      ·simp only at h0
       subst h0
       exact (dI hj hji).trans ((hpn j hi).trans (he.pin j hi))
     ·obtain ⟨v, hv, hd⟩ := a2 d hd
      obtain ⟨x, _, rfl⟩ := List.mem_map.1 hv
      obtain ⟨j, h3, _⟩ := D9 hd
      exact lE (cY h3) (hjs j d (cY h3))
    ·cases hk
   ·cases hk
  ·cases hk
 cases e with
 | normal => exact fin hk'
 | ret => exact fin hk'
 | exit i => cases hk'
theorem Ob (hE : Env.Ok P E) {draw : Env -> bh -> List Oper -> St -> Bool} (hD : ∀ call, eb P call -> kq P E call draw) {f : FuncId} {m : Gen} (hwf : vp m.ss m.gs) (hfn : ∃ fn c, E.fn.lookup f = some fn /\ fn.body = some c)
  (h : ∀ v res fin, (m.F v).run some = some (res, fin) -> ∃ n, Kq E draw n f (ax m.ss m.gs v) = some (res, fin)) : bu P f m := by
 obtain ⟨fn, c, hl, hb⟩ := hfn
 obtain ⟨hf, hn⟩ := hE.fn f fn hl
 refine ⟨hwf, ⟨fn, hf, by rw [hb]; rfl, hn⟩, fun v res fin hv B O ρ a w hS => ?_⟩
 obtain ⟨n, hv⟩ := h v res fin hv
 have hC := eV hE hD n
 unfold Kq at hv
 rw [show E.find f = some fn from hl] at hv
 simp only [hb] at hv
 exact Da hE hC (hD _ hC) hf hb (hE.lt f fn c hl hb) hv hS
end
end Go.Proofs.YtahlaccdpmddbaaGreat.Lib
namespace Go.Proofs.YtahlaccdpmddbaaGreat.Lib
open Go Go.RowKit
set_option linter.unusedVariables false
set_option linter.unusedSimpArgs false
def pQ (E : Env) (call : bh) (sg : Sig) (dst : Option Nat) (f : AV) (args : List AV) : Option (AV × Sig) :=
 match f with
 | .one (.fn g caps) => (match fv E sg args with
  | some (args, own) => (A7 E call g (args ++ caps.map fun c => .one (.eptr c.1 c.2 0 true))).bind fun r =>
   bif !own || (r.1.fy && r.2.all (·.2.fy)) then (match dst with
    | some d => bif r.2.all (fun q => sg.free (q.1 + d)) then some (r.1.shift d, r.2.shift d) else none
    | none => some (.one .und, [])) else none
  | none => none)
 | _ => none
def nG (E : Env) (sg : Sig) (dst : Option Nat) (t : TypeId) (n : Nat) (ps : List (Nat × AV)) : Option (AV × Sig) :=
 match dst, E.ti.lookup t with
 | some d, some { td := .slice e, .. } => (match E.ti.lookup e with
  | some { ty := some τ, .. } => bif τ.flat && sg.free d && (n == ps.length) && Nat.ble (n * τ.sz) 16777216 then
    (match cB false τ ps 0 with
    | some l => some (.one (.sl d), [(d, .arr e τ l false)])
    | none => none) else none
  | _ => none)
 | _, _ => none
def hop (E : Env) (call : bh) (sg : Sig) (ρ : Operand -> AV) (o : Oper) : Option (AV × Sig) :=
 match o.op with
 | .store _ _ _ => none
 | .call c => (match c.callee, c.args.toList, c.argTypes.toList with
  | .builtin .append, [_, _], [_, _] => none
  | .builtin .clear, [_], [_] => none
  | .value f, args, _ => pQ E call sg o.dst (ρ f) (args.map ρ)
  | _, _, _ => qop E sg ρ o.dst o.op fun v add => some (v, add))
 | .buildSlice t n ps => nG E sg o.dst t n (ps.toList.map fun p => (p.1, ρ p.2))
 | _ => qop E sg ρ o.dst o.op fun v add => some (v, add)
def tst (all : List Oper) (o : Oper) : List Operand :=
 match o.guard with
 | none => []
 | some (j, _) => (match (all[j]?).bind (·.dst) with | some t => [.tmp t] | none => [])
def opn (all : List Oper) (o : Oper) : List Operand := tst all o ++ o.op.operands.toList
def cT (o : Oper) : Bool := match o.op with | .store _ _ _ => true | _ => false
def hst (E : Env) (sg : Sig) (t : TypeId) (p v : AV) : Option (AV × Sig) :=
 match p, v.cells?, E.ti.lookup t with
 | .one (.ptr j i c), some cs, some ti => bif cs.length == ti.sz then (match sg.get j with
  | some (.box ty old) => (match i with
   | 0 => bif Nat.ble (c + ti.sz) old.length then some (.one .und, [(j, .box ty (old.take c ++ cs ++ old.drop (c + ti.sz)))]) else none
   | _ => none)
  | _ => none) else none
 | _, _, _ => none
def sop (E : Env) (call : bh) (sg : Sig) (ρ : Operand -> AV) (o : Oper) : Option (AV × Sig) :=
 match o.op with
 | .store t a v => hst E sg t (ρ a) (ρ v)
 | _ => hop E call sg ρ o
def Pu : Bool -> Sig -> Sig -> Sig
 | true, new, sg => (match new with | [(j, b)] => sg.put j b | _ => sg)
 | false, new, sg => new ++ sg
def aft (o : Oper) (p : AV × Sig) (s : St) : St := St.put o.dst p.1 ⟨s.sl, Pu (cT o) p.2 s.sg⟩
def gop (E : Env) (call : bh) (all : List Oper) (sg : Sig) (ρ : Operand -> AV) (o : Oper) : Option (AV × Sig) :=
 match o.guard with
 | none => sop E call sg ρ o
 | some (j, want) => (match (all[j]?).bind (·.dst) with
  | some t => (match ρ (.tmp t) with
   | .one (.bool v) => bif v == want then hop E call sg ρ o else some (.tup [], [])
   | .tup [] => some (.tup [], [])
   | _ => none)
  | none => none)
def Ot (E : Env) (f : Operand) : Bool :=
 match E.gen with
 | [] => true
 | q :: l => (match f with | .func g => (q :: l).all fun p => !(p.1 == g) | _ => false)
theorem wb {sg : Sig} {args : List AV} {g : FuncId} : ∀ {l : List (FuncId × Gen)}, (l.all fun p => !(p.1 == g)) = true -> ma sg args g l = none
 | [], _ => rfl
 | (f, m) :: l, h => by
  simp only [List.all_cons, Bool.and_eq_true, Bool.not_eq_true'] at h
  simp only [ma, h.1, cond_false]
  exact wb h.2
theorem Ac {E : Env} {f : Operand} (h : Ot E f = true) {R : Type} (st : St) (dst : Option Nat) (args : List AV) (k : St -> Option R) (other : Option R) :
  (match E.gen with | [] => other | _ :: _ => m6 E st dst (aF st.sl f) args k other) = other := by
 unfold Ot at h
 cases hg : E.gen with
 | nil => rfl
 | cons q l =>
  rw [hg] at h
  simp only at h
  split at h
  ·rename_i g
   simp only [m6, aF, hg, wb h]
  ·cases h
def dY (E : Env) (o : Oper) : Bool :=
 true && (match o.op with
 | .store _ a _ => o.guard.isNone && (match a with | .tmp _ => true | _ => false)
 | .call c => (match c.callee, c.args.toList, c.argTypes.toList with
  | .builtin .append, [_, _], [_, _] => false
  | .builtin .clear, [_], [_] => false
  | .value f, _, _ => o.dst.isSome && ((JF E f).isNone && Ot E f)
  | _, _, _ => true)
 | .buildSlice t _ _ => (match E.ti.lookup t with
  | some { td := .slice e, .. } => (match E.ti.lookup e with
   | some { ty := some τ, .. } => τ.flat
   | _ => false)
  | _ => false)
 | _ => true)
section par
variable {R : Type} {r : R}
theorem rf {op : BinOp} {k : IntKind} {x y : Int} {kk : Cell -> Option R} (h : mQ op k x y kk = some r) : ∃ c, (∀ {S : Type} (f : Cell -> Option S), mQ op k x y f = f c) /\ kk c = some r := by
 cases op <;> simp only [mQ] at h ⊢
 case quo =>
  split at h
  ·cases h
  ·rename_i h0; exact ⟨_, fun f => by rw [if_neg h0], h⟩
 case rem =>
  split at h
  ·cases h
  ·rename_i h0; exact ⟨_, fun f => by rw [if_neg h0], h⟩
 case shl =>
  split at h
  ·cases h
  ·rename_i h0; exact ⟨_, fun f => by rw [if_neg h0], h⟩
 case shr =>
  split at h
  ·cases h
  ·rename_i h0; exact ⟨_, fun f => by rw [if_neg h0], h⟩
 all_goals first | cases h | exact ⟨_, fun f => rfl, h⟩
theorem IY {op : BinOp} {x y : ByteArray} {kk : Cell -> Option R} (h : xT op x y kk = some r) : ∃ c, (∀ {S : Type} (f : Cell -> Option S), xT op x y f = f c) /\ kk c = some r := by
 cases op <;> simp only [xT] at h ⊢
 case add =>
  split at h
  ·rename_i h0; exact ⟨_, fun f => by rw [if_pos h0], h⟩
  ·cases h
 all_goals first | cases h | exact ⟨_, fun f => rfl, h⟩
theorem Eb {op : BinOp} {x y : Cell} {kk : Cell -> Option R} (h : lk op x y kk = some r) : ∃ c, (∀ {S : Type} (f : Cell -> Option S), lk op x y f = f c) /\ kk c = some r := by
 unfold lk at h
 split at h
 ·split at h
  ·obtain ⟨c, h1, h2⟩ := rf h; exact ⟨c, fun f => h1 f, h2⟩
  ·obtain ⟨c, h1, h2⟩ := rf h; exact ⟨c, fun f => h1 f, h2⟩
  ·rename_i n1 n2
   split at h
   ·rename_i hk
    obtain ⟨c, h1, h2⟩ := rf h
    refine ⟨c, fun f => ?_, h2⟩
    rw [← h1 f]
    unfold lk
    cases op <;> first | (exact absurd rfl n1; done) | (exact absurd rfl n2; done) | (simp only [if_pos hk]; done) | rfl
   ·cases h
 ·obtain ⟨c, h1, h2⟩ := IY h; exact ⟨c, fun f => h1 f, h2⟩
 ·cases h
theorem Kh {op : UnOp} {x : Cell} {kk : Cell -> Option R} (h : zF op x kk = some r) : ∃ c, (∀ {S : Type} (f : Cell -> Option S), zF op x f = f c) /\ kk c = some r := by
 unfold zF at h
 split at h
 ·exact ⟨_, fun f => rfl, h⟩
 ·exact ⟨_, fun f => rfl, h⟩
 ·cases h
def kh (sg sg' : Sig) (U : Nat -> Bool) : Prop := ∀ j b, U j = true -> sg.get j = some b -> sg'.get j = some b
theorem Gp {sg : Sig} {x : Cell} {kk : Int -> Option R} (h : jP sg x kk = some r) : ∃ n, (∀ {S : Type} (f : Int -> Option S) (sg' : Sig), kh sg sg' (fun j => x.ak j) -> jP sg' x f = f n) /\ kk n = some r := by
 unfold jP at h
 split at h
 ·exact ⟨_, fun f _ _ => rfl, h⟩
 ·exact ⟨_, fun f _ _ => rfl, h⟩
 ·exact ⟨_, fun f _ _ => rfl, h⟩
 ·exact ⟨_, fun f _ _ => rfl, h⟩
 ·rename_i j
  split at h
  ·rename_i e t l b hj
   exact ⟨_, fun f sg' ha => by simp only [jP, ha j _ (by simp [Cell.ak]) hj], h⟩
  ·rename_i e t l b hj
   exact ⟨_, fun f sg' ha => by simp only [jP, ha j _ (by simp [Cell.ak]) hj], h⟩
  ·cases h
 ·cases h
theorem IP {sg : Sig} {n : Nat} {x : Cell} {i : Int} {kk : Cell -> Option R} (h : mI sg n x i kk = some r) : ∃ c, (∀ {S : Type} (f : Cell -> Option S) (sg' : Sig), kh sg sg' (fun j => x.ak j) -> mI sg' n x i f = f c) /\ kk c = some r := by
 unfold mI at h
 split at h
 ·simp only [aP] at h
  split at h
  ·rename_i h0
   split at h
   ·rename_i h1
    split at h
    ·rename_i y hy
     exact ⟨_, fun f _ _ => by simp only [mI, h0, cond_true, if_pos h1, hy], h⟩
    ·cases h
   ·cases h
  ·cases h
 ·rename_i j
  split at h
  ·rename_i e t l b hj
   simp only [aP] at h
   split at h
   ·rename_i h0
    split at h
    ·rename_i h1
     split at h
     ·rename_i h2
      exact ⟨_, fun f sg' ha => by simp only [mI, ha j _ (by simp [Cell.ak]) hj, h0, cond_true, if_pos h1, if_pos h2], h⟩
     ·cases h
    ·cases h
   ·cases h
  ·rename_i e t l b hj
   simp only [aP] at h
   split at h
   ·rename_i h0
    split at h
    ·rename_i h1
     split at h
     ·rename_i y hy
      exact ⟨_, fun f sg' ha => by simp only [mI, ha j _ (by simp [Cell.ak]) hj, h0, cond_true, if_pos h1, hy], h⟩
     ·cases h
    ·cases h
   ·cases h
  ·cases h
 ·cases h
theorem Ao {sg : Sig} {n : Nat} {x : Cell} {lo hi : Option Int} {kk : Cell -> Option R} (h : dS sg n x lo hi kk = some r) : ∃ c, (∀ {S : Type} (f : Cell -> Option S) (sg' : Sig), kh sg sg' (fun j => x.ak j) -> dS sg' n x lo hi f = f c) /\ kk c = some r := by
 unfold dS at h
 split at h
 ·obtain ⟨p, q, _, _, h3, h4, _⟩ := dV h
  exact ⟨_, fun f _ _ => by simp only [dS]; exact h4 _, h3⟩
 ·obtain ⟨p, q, _, _, h3, h4, _⟩ := dV h
  exact ⟨_, fun f _ _ => by simp only [dS]; exact h4 _, h3⟩
 ·rw [aP] at h
  split at h
  ·rename_i h0
   obtain ⟨p, q, _, _, h3, h4, _⟩ := dV h
   exact ⟨_, fun f _ _ => by simp only [dS, h0, cond_true]; exact h4 _, h3⟩
  ·cases h
 ·rename_i j
  split at h
  ·rename_i hj
   rw [aP] at h
   split at h
   ·rename_i h0
    obtain ⟨p, q, _, _, h3, h4, _⟩ := dV h
    exact ⟨_, fun f sg' ha => by simp only [dS, ha j _ (by simp [Cell.ak]) hj, h0, cond_true]; exact h4 _, h3⟩
   ·cases h
  ·rename_i hj
   rw [aP] at h
   split at h
   ·rename_i h0
    obtain ⟨p, q, _, _, h3, h4, _⟩ := dV h
    exact ⟨_, fun f sg' ha => by simp only [dS, ha j _ (by simp [Cell.ak]) hj, h0, cond_true]; exact h4 _, h3⟩
   ·cases h
  ·cases h
 ·cases h
theorem xX {ρ ρ' : Operand -> AV} {x : Option Operand} (h : ∀ y, x = some y -> ρ' y = ρ y) : fR ρ' x = fR ρ x := by
 cases x with
 | none => rfl
 | some y => simp only [fR, h y rfl]
theorem Aq {sg : Sig} {n : Nat} {p : Cell} {kk : List Cell -> Option R} (h : loadCells sg n p kk = some r) : ∃ cs, (∀ {S : Type} (f : List Cell -> Option S) (sg' : Sig), kh sg sg' (fun j => p.ak j) -> loadCells sg' n p f = f cs) /\ kk cs = some r := by
 unfold loadCells at h
 split at h
 ·split at h
  ·rename_i cs hw
   exact ⟨_, fun f _ _ => by simp only [loadCells, hw], h⟩
  ·cases h
 ·rename_i j i c
  split at h
  ·rename_i ty cs hj
   split at h
   ·split at h
    ·rename_i cs hw
     exact ⟨_, fun f sg' ha => by simp only [loadCells, ha j _ (by simp [Cell.ak]) hj, hw], h⟩
    ·cases h
   ·cases h
  ·rename_i e t l b hj
   split at h
   ·rename_i x hx
    split at h
    ·rename_i cs hw
     exact ⟨_, fun f sg' ha => by simp only [loadCells, ha j _ (by simp [Cell.ak]) hj, hx, hw], h⟩
    ·cases h
   ·cases h
  ·cases h
 ·cases h
end par
end Go.Proofs.YtahlaccdpmddbaaGreat.Lib
namespace Go.Proofs.YtahlaccdpmddbaaGreat.Lib
open Go Go.RowKit
set_option linter.unusedVariables false
set_option linter.unusedSimpArgs false
section par
variable {R : Type} {r : R}
def Zi (E : Env) (sg : Sig) (ρ : Operand -> AV) (dst : Option Nat) (op : Op) (p : AV × Sig) : Prop :=
 (∀ {S : Type} (f : AV -> Sig -> Option S) (sg' : Sig) (ρ' : Operand -> AV), (∀ x ∈ op.operands.toList, ρ' x = ρ x) -> (∀ x ∈ op.operands.toList, kh sg sg' (fun j => (ρ x).ak j)) -> (∀ q ∈ p.2, sg'.get q.1 = none) -> qop E sg' ρ' dst op f = f p.1 p.2) /\ ∀ q ∈ p.2, sg.get q.1 = none
theorem sG {sg sg' : Sig} {ρ ρ' : Operand -> AV} : ∀ {xs : List Operand} {js : List Nat}, mh sg ρ xs = some js -> (∀ x ∈ xs, ρ' x = ρ x) -> (∀ x ∈ xs, kh sg sg' (fun j => (ρ x).ak j)) -> mh sg' ρ' xs = some js
 | [], js, h, _, _ => h
 | x :: xs, js, h, h1, ha => by
  simp only [mh] at h ⊢
  rw [h1 x List.mem_cons_self]
  have ha0 := ha x List.mem_cons_self
  split at h
  ·rename_i j hx
   rw [hx] at ha0
   split at h
   ·rename_i ty cs hj
    split at h
    ·rename_i l hl
     simp only [ha0 j _ (by simp [AV.ak, Cell.ak]) hj, sG hl (fun x hx => h1 x (List.mem_cons_of_mem _ hx)) (fun x hx => ha x (List.mem_cons_of_mem _ hx))]
     exact h
    ·cases h
   ·cases h
  ·cases h
theorem Cd {E : Env} {sg : Sig} {ρ : Operand -> AV} {dst : Option Nat} {op : Op} {k : AV -> Sig -> Option R} (h : qop E sg ρ dst op k = some r) : ∃ p, Zi E sg ρ dst op p /\ k p.1 p.2 = some r := by
 cases op <;> simp only [qop] at h <;> try (cases h; done)
 case move x => exact ⟨(ρ x, []), ⟨fun f sg' ρ' h1 _ _ => by simp only [qop]; rw [h1 x (by simp [Op.operands])], fun q hq => by cases hq⟩, h⟩
 case assign x => exact ⟨(ρ x, []), ⟨fun f sg' ρ' h1 _ _ => by simp only [qop]; rw [h1 x (by simp [Op.operands])], fun q hq => by cases hq⟩, h⟩
 case pick c x y =>
  split at h
  ·rename_i p q hp hq
   split at h
   ·rename_i v hv
    exact ⟨(.one (.bool (bif v then p else q)), []), ⟨fun f sg' ρ' h1 _ _ => by
     simp only [qop]
     rw [h1 x (by simp [Op.operands]), h1 y (by simp [Op.operands]), h1 c (by simp [Op.operands]), hp, hq]
     simp only [hv], fun q hq => by cases hq⟩, h⟩
   ·cases h
  ·rename_i n1
   split at h
   ·rename_i hv
    exact ⟨(ρ x, []), ⟨fun f sg' ρ' h1 _ _ => by
     simp only [qop]
     rw [h1 x (by simp [Op.operands]), h1 y (by simp [Op.operands]), h1 c (by simp [Op.operands])]
     simp only [hv], fun q hq => by cases hq⟩, h⟩
   ·rename_i hv
    exact ⟨(ρ y, []), ⟨fun f sg' ρ' h1 _ _ => by
     simp only [qop]
     rw [h1 x (by simp [Op.operands]), h1 y (by simp [Op.operands]), h1 c (by simp [Op.operands])]
     simp only [hv], fun q hq => by cases hq⟩, h⟩
   ·cases h
 case alloc t =>
  split at h
  ·rename_i d td sz by_ τ ht
   simp only [aP] at h
   split at h
   ·rename_i hn
    exact ⟨(_, _), ⟨fun f sg' ρ' h1 _ hf => by
     have := Sig.bP.2 ⟨hf _ List.mem_cons_self, (Sig.bP.1 hn).2⟩
     simp only [qop, ht, this, cond_true], fun q hq => by rw [List.mem_singleton.1 hq]; exact (Sig.bP.1 hn).1⟩, h⟩
   ·cases h
  ·cases h
 case box t x =>
  split at h
  ·rename_i d i cs ht hc
   simp only [aP] at h
   split at h
   ·rename_i hn
    simp only [Bool.and_eq_true, Sig.bP] at hn
    exact ⟨(_, _), ⟨fun f sg' ρ' h1 _ hf => by
     have := Sig.bP.2 ⟨hf _ List.mem_cons_self, hn.1.2⟩
     simp only [qop, ht, h1 x (by simp [Op.operands]), hc, this, hn.2, Bool.and_self, cond_true], fun q hq => by rw [List.mem_singleton.1 hq]; exact hn.1.1⟩, h⟩
   ·cases h
  ·cases h
 case load t x =>
  split at h
  ·rename_i p i hp ht
   simp only [aP] at h
   split at h
   ·rename_i hz
    obtain ⟨cs, h2, h3⟩ := Aq h
    split at h3
    ·rename_i v hv
     exact ⟨(v, []), ⟨fun f sg' ρ' h1 ha _ => by
      have ha := ha x (by simp [Op.operands])
      rw [hp] at ha
      simp only [qop, h1 x (by simp [Op.operands]), hp, ht, hz, cond_true]
      rw [h2 _ sg' ha]
      simp only [hv], fun q hq => by cases hq⟩, h3⟩
    ·cases h3
   ·cases h
  ·cases h
 case nilCheck x =>
  split at h <;> first
   | (rename_i hp; exact ⟨(_, []), ⟨fun f sg' ρ' h1 _ _ => by simp only [qop, h1 x (by simp [Op.operands]), hp], fun q hq => by cases hq⟩, h⟩)
   | cases h
 case binOp op t x y t' =>
  split at h
  ·rename_i p q hp hq
   simp only [aP] at h
   split at h
   ·rename_i hb
    split at h
    ·exact ⟨(_, []), ⟨fun f sg' ρ' h1 _ _ => by simp only [qop, h1 x (by simp [Op.operands]), h1 y (by simp [Op.operands]), hp, hq, hb, cond_true], fun q hq => by cases hq⟩, h⟩
    ·exact ⟨(_, []), ⟨fun f sg' ρ' h1 _ _ => by simp only [qop, h1 x (by simp [Op.operands]), h1 y (by simp [Op.operands]), hp, hq, hb, cond_true], fun q hq => by cases hq⟩, h⟩
    ·cases h
   ·cases h
  ·rename_i c d n1 hc hd
   obtain ⟨e, h2, h3⟩ := Eb h
   refine ⟨(.one e, []), ⟨fun f sg' ρ' h1 _ _ => ?_, fun q hq => by cases hq⟩, h3⟩
   simp only [qop, h1 x (by simp [Op.operands]), h1 y (by simp [Op.operands]), hc, hd]
   exact h2 _
  ·rename_i cs ds hc hd
   simp only [aP] at h
   split at h
   ·rename_i hq
    split at h
    ·rename_i fs sz by_ ty ht
     split at h
     ·rename_i b hb
      split at h
      ·exact ⟨(_, []), ⟨fun f sg' ρ' h1 _ _ => by simp only [qop, h1 x (by simp [Op.operands]), h1 y (by simp [Op.operands]), hc, hd, hq, cond_true, ht, hb], fun q hq => by cases hq⟩, h⟩
      ·exact ⟨(_, []), ⟨fun f sg' ρ' h1 _ _ => by simp only [qop, h1 x (by simp [Op.operands]), h1 y (by simp [Op.operands]), hc, hd, hq, cond_true, ht, hb], fun q hq => by cases hq⟩, h⟩
      ·cases h
     ·cases h
    ·cases h
   ·cases h
  ·cases h
 case unOp op t x =>
  split at h
  ·rename_i c hc
   obtain ⟨e, h2, h3⟩ := Kh h
   refine ⟨(.one e, []), ⟨fun f sg' ρ' h1 _ _ => ?_, fun q hq => by cases hq⟩, h3⟩
   simp only [qop, h1 x (by simp [Op.operands]), hc]
   exact h2 _
  ·cases h
 case makeSlice t x y =>
  split at h
  ·rename_i d e sz by_ ty n m ht hx hy
   split at h
   ·rename_i td sz' by' τ he
    simp only [aP] at h
    split at h
    ·rename_i hn
     split at h
     ·rename_i h0
      split at h
      ·rename_i h1'
       split at h
       ·rename_i h2'
        simp only [Bool.and_eq_true, Sig.bP] at hn
        exact ⟨(_, _), ⟨fun f sg' ρ' h1 _ hf => by
         have := Sig.bP.2 ⟨hf _ List.mem_cons_self, hn.1.2⟩
         simp only [qop, ht, h1 x (by simp [Op.operands]), h1 y (by simp [Op.operands]), hx, hy, he, this, hn.2, Bool.and_self, cond_true, if_pos h0, if_pos h1', if_pos h2'], fun q hq => by rw [List.mem_singleton.1 hq]; exact hn.1.1⟩, h⟩
       ·cases h
      ·cases h
     ·cases h
    ·cases h
   ·cases h
  ·cases h
 case fieldAddr t x f =>
  split at h
  ·rename_i p fs sz by_ ty hp ht
   split at h
   ·rename_i ft off hf
    split at h
    ·exact ⟨(_, []), ⟨fun g sg' ρ' h1 _ _ => by simp only [qop, h1 x (by simp [Op.operands]), hp, ht, hf], fun q hq => by cases hq⟩, h⟩
    ·exact ⟨(_, []), ⟨fun g sg' ρ' h1 _ _ => by simp only [qop, h1 x (by simp [Op.operands]), hp, ht, hf], fun q hq => by cases hq⟩, h⟩
    ·cases h
   ·cases h
  ·cases h
 case field t x f =>
  split at h
  ·rename_i cs fs sz by_ ty hp ht
   split at h
   ·rename_i ft off hf
    split at h
    ·rename_i ti hft
     split at h
     ·rename_i cs' hw
      split at h
      ·rename_i v hv
       exact ⟨(v, []), ⟨fun g sg' ρ' h1 _ _ => by simp only [qop, h1 x (by simp [Op.operands]), hp, ht, hf, hft, hw, hv], fun q hq => by cases hq⟩, h⟩
      ·cases h
     ·cases h
    ·cases h
   ·cases h
  ·cases h
 case indexAddr t x i =>
  split at h
  ·rename_i c ik n e sz by_ ty hp hi ht
   split at h
   ·rename_i ie he
    obtain ⟨p, h2, h3⟩ := IP h
    refine ⟨(.one p, []), ⟨fun f sg' ρ' h1 ha _ => ?_, fun q hq => by cases hq⟩, h3⟩
    have ha := ha x (by simp [Op.operands])
    rw [hp] at ha
    simp only [qop, h1 x (by simp [Op.operands]), h1 i (by simp [Op.operands]), hp, hi, ht, he]
    exact h2 _ sg' ha
   ·cases h
  ·cases h
 case index t x i =>
  split at h
  ·rename_i s ik n hp hi
   simp only [aP] at h
   split at h
   ·rename_i hs
    split at h
    ·rename_i h0
     split at h
     ·rename_i b hb
      exact ⟨(_, []), ⟨fun f sg' ρ' h1 _ _ => by simp only [qop, h1 x (by simp [Op.operands]), h1 i (by simp [Op.operands]), hp, hi, hs, cond_true, if_pos h0, hb], fun q hq => by cases hq⟩, h⟩
     ·cases h
    ·cases h
   ·cases h
  ·cases h
 case slice t x lo hi mx =>
  split at h
  ·have hlo : ∀ {ρ' : Operand -> AV}, (∀ y ∈ (Op.slice t x lo hi none).operands.toList, ρ' y = ρ y) -> fR ρ' lo = fR ρ lo /\ fR ρ' hi = fR ρ hi := fun hh =>
    ⟨xX fun y hy => hh y (by simp [Op.operands, hy]), xX fun y hy => hh y (by simp [Op.operands, hy])⟩
   split at h
   ·rename_i s sz by_ l u hp ht hl hu
    obtain ⟨p, q, _, _, h3, h4, _⟩ := dV h
    exact ⟨(.one (.str (s.extract p q)), []), ⟨fun f sg' ρ' h1 _ _ => by
     simp only [qop, h1 x (by simp [Op.operands]), (hlo h1).1, (hlo h1).2, hp, ht, hl, hu]; exact h4 _, fun q hq => by cases hq⟩, h3⟩
   ·rename_i c e sz by_ ty l u hp ht hl hu
    split at h
    ·rename_i ie he
     obtain ⟨p, h2, h3⟩ := Ao h
     refine ⟨(.one p, []), ⟨fun f sg' ρ' h1 ha _ => ?_, fun q hq => by cases hq⟩, h3⟩
     have ha := ha x (by simp [Op.operands])
     rw [hp] at ha
     simp only [qop, h1 x (by simp [Op.operands]), (hlo h1).1, (hlo h1).2, hp, ht, hl, hu, he]
     exact h2 _ sg' ha
    ·cases h
   ·cases h
  ·cases h
 case convert src dst x =>
  split at h
  ·rename_i q n si sz by_ k' hv hs hd
   exact ⟨(_, []), ⟨fun f' sg' ρ' h1 _ _ => by simp only [qop, h1 x (by simp [Op.operands]), hv, hs, hd], fun q hq => by cases hq⟩, h⟩
  ·rename_i q n si sz by_ hv hs hd
   exact ⟨(_, []), ⟨fun f' sg' ρ' h1 _ _ => by simp only [qop, h1 x (by simp [Op.operands]), hv, hs, hd], fun q hq => by cases hq⟩, h⟩
  ·rename_i c e sz1 by1 ty1 sz2 by2 hn1 hv hs hd
   split at h
   ·rename_i sz3 by3 he
    split at h
    ·rename_i l hl
     refine ⟨(_, []), ⟨fun f' sg' ρ' h1 ha _ => ?_, fun q hq => by cases hq⟩, h⟩
     have ha := ha x (by simp [Op.operands])
     rw [hv] at ha
     have hl' : bytesOf sg' c = some l := by
      unfold bytesOf at hl ⊢
      split at hl
      ·exact hl
      ·exact hl
      ·exact hl
      ·rename_i j
       split at hl
       ·rename_i hj; rw [ha j _ (by simp [AV.ak, Cell.ak]) hj]; exact hl
       ·rename_i hj; rw [ha j _ (by simp [AV.ak, Cell.ak]) hj]; exact hl
       ·cases hl
      ·cases hl
     cases c with
     | int q n => cases hl
     | _ => simp only [qop, h1 x (by simp [Op.operands]), hv, hs, hd, he, hl']
    ·cases h
   ·cases h
  ·rename_i s sz1 by1 e sz2 by2 ty2 hv hs hn1
   split at h
   ·rename_i d sz3 by3 he
    simp only [aP] at h
    split at h
    ·rename_i hn
     split at h
     ·rename_i hle
      rw [Sig.bP] at hn
      exact ⟨(_, _), ⟨fun f sg' ρ' h1 _ hf => by
       have := Sig.bP.2 ⟨hf _ List.mem_cons_self, hn.2⟩
       simp only [qop, h1 x (by simp [Op.operands]), hv, hs, hn1, he, this, cond_true, if_pos hle], fun q hq => by rw [List.mem_singleton.1 hq]; exact hn.1⟩, h⟩
     ·cases h
    ·cases h
   ·cases h
  ·cases h
 case build t ps =>
  split at h
  ·rename_i fs sz by_ τ ht
   split at h
   ·rename_i cs hf
    refine ⟨(.agg cs, []), ⟨fun f' sg' ρ' h1 _ _ => ?_, fun q hq => by cases hq⟩, h⟩
    have : (ps.toList.map fun p => (p.1, ρ' p.2)) = ps.toList.map fun p => (p.1, ρ p.2) := by
     apply List.map_congr_left
     intro p hp
     rw [h1 p.2 (by simp only [Op.operands, Array.toList_map]; exact List.mem_map.2 ⟨p, hp, rfl⟩)]
    simp only [qop, ht, this, hf]
   ·cases h
  ·cases h
 case makeFunc fn first captured =>
  split at h
  ·rename_i f hf
   split at h
   ·rename_i js hjs
    refine ⟨(.one (R8 f js), []), ⟨fun f' sg' ρ' h1 ha _ => ?_, fun q hq => by cases hq⟩, h⟩
    have : mh sg' ρ' captured.toList = some js := sG hjs (fun x hx => h1 x (by simp [Op.operands]; exact .inr (by simpa using hx))) (fun x hx => ha x (by simp [Op.operands]; exact .inr (by simpa using hx)))
    simp only [qop, hf, this]
   ·cases h
  ·cases h
 case extract x i =>
  split at h
  ·rename_i ps hp
   split at h
   ·rename_i g cs hi
    split at h
    ·rename_i v hv
     exact ⟨(v, []), ⟨fun f sg' ρ' h1 _ _ => by simp only [qop, h1 x (by simp [Op.operands]), hp, hi, hv], fun q hq => by cases hq⟩, h⟩
    ·cases h
   ·cases h
  ·cases h
 case call c =>
  have hops : ∀ x ∈ c.args.toList, x ∈ (Op.call c).operands.toList := by
   intro x hx
   simp only [Op.operands, Call.operands, Array.toList_append, List.mem_append]
   exact .inr hx
  split at h
  ·rename_i x t ts hc ha hat
   have hx := hops x (by rw [ha]; simp)
   split at h
   ·rename_i s sz by_ hp ht
    exact ⟨(_, []), ⟨fun f sg' ρ' h1 _ _ => by simp only [qop, hc, ha, hat, h1 x hx, hp, ht], fun q hq => by cases hq⟩, h⟩
   ·rename_i cl e sz by_ ty hp ht
    obtain ⟨n, h2, h3⟩ := Gp h
    refine ⟨(.one (.int .i64 n), []), ⟨fun f sg' ρ' h1 hag _ => ?_, fun q hq => by cases hq⟩, h3⟩
    have hag := hag x hx
    rw [hp] at hag
    simp only [qop, hc, ha, hat, h1 x hx, hp, ht]
    exact h2 _ sg' hag
   ·cases h
  ·rename_i ts x y hc ha
   have hx := hops x (by rw [ha]; simp)
   have hy := hops y (by rw [ha]; simp)
   split at h
   ·rename_i q p q' p' hp hp'
    split at h
    ·rename_i hq
     exact ⟨(_, []), ⟨fun f sg' ρ' h1 _ _ => by simp only [qop, hc, ha, h1 x hx, h1 y hy, hp, hp', if_pos hq], fun q hq => by cases hq⟩, h⟩
    ·cases h
   ·cases h
  ·rename_i ts x y hc ha
   have hx := hops x (by rw [ha]; simp)
   have hy := hops y (by rw [ha]; simp)
   split at h
   ·rename_i q p q' p' hp hp'
    split at h
    ·rename_i hq
     exact ⟨(_, []), ⟨fun f sg' ρ' h1 _ _ => by simp only [qop, hc, ha, h1 x hx, h1 y hy, hp, hp', if_pos hq], fun q hq => by cases hq⟩, h⟩
    ·cases h
   ·cases h
  ·cases h
end par
end Go.Proofs.YtahlaccdpmddbaaGreat.Lib
namespace Go.Proofs.YtahlaccdpmddbaaGreat.Lib
open Go Go.RowKit
set_option linter.unusedVariables false
set_option linter.unusedSimpArgs false
section
variable {E : Env} {call : bh} {R : Type} {r : R} {sg sg' : Sig}
theorem rb : ∀ {t : Ty} {b : Bool} (b' : Bool) {cs : List Cell} {p : t.T × List Cell}, t.flat = true -> t.parse b cs = some p -> t.parse b' cs = some p /\ ∃ pre, cs = pre ++ p.2 /\ pre.all Cell.plain = true
 | .int k, b, b', cs, p, hf, h => by
  cases cs with
  | nil => simp [Ty.parse] at h
  | cons c r =>
   cases c <;> simp only [Ty.parse] at h <;> try (cases h; done)
   rename_i k' n
   split at h
   ·rename_i hk; subst hk; cases h; exact ⟨by simp [Ty.parse], [.int k' n], rfl, rfl⟩
   ·cases h
 | .bool, b, b', cs, p, hf, h => by
  cases cs with
  | nil => simp [Ty.parse] at h
  | cons c r =>
   cases c <;> simp only [Ty.parse] at h <;> try (cases h; done)
   rename_i x
   cases h; exact ⟨by simp [Ty.parse], [.bool x], rfl, rfl⟩
 | .str, b, b', cs, p, hf, h => by
  cases cs with
  | nil => simp [Ty.parse] at h
  | cons c r =>
   cases c <;> simp only [Ty.parse] at h <;> try (cases h; done)
   rename_i x
   cases h; exact ⟨by simp [Ty.parse], [.str x], rfl, rfl⟩
 | .sl e t, b, b', cs, p, hf, h => by cases hf
 | .nul f, b, b', cs, p, hf, h => by cases hf
 | .pair x y, b, b', cs, p, hf, h => by
  simp only [Ty.flat, Bool.and_eq_true] at hf
  simp only [Ty.parse, Option.bind_eq_some_iff] at h ⊢
  obtain ⟨p1, h1, p2, h2, h3⟩ := h
  obtain ⟨g1, pre1, e1, a1⟩ := rb b' hf.1 h1
  obtain ⟨g2, pre2, e2, a2⟩ := rb b' hf.2 h2
  cases h3
  refine ⟨⟨p1, g1, p2, g2, rfl⟩, pre1 ++ pre2, by rw [e1, e2, List.append_assoc], by rw [List.all_append, a1, a2]; rfl⟩
theorem BN {t : Ty} {b : Bool} (b' : Bool) {cs : List Cell} {x : t.T} (hf : t.flat = true) (h : t.read b cs = some x) : t.read b' cs = some x /\ cs.all Cell.plain = true := by
 unfold Ty.read at h ⊢
 split at h
 ·rename_i y hy
  cases h
  obtain ⟨h1, pre, h2, h3⟩ := rb b' hf hy
  rw [h1]
  refine ⟨rfl, ?_⟩
  rw [h2, List.append_nil]
  exact h3
 ·cases h
theorem lY (sg : Sig) : ∀ {cs : List Cell}, cs.all Cell.plain = true -> settle sg cs = some (sg, cs)
 | [], _ => rfl
 | c :: cs, h => by
  simp only [List.all_cons, Bool.and_eq_true] at h
  have ih := lY sg h.2
  cases c <;> first | (simp only [settle, ih]; done) | (cases h.1)
theorem fK : ∀ {cs cs' : List Cell} {sg sg' : Sig}, settle sg cs = some (sg', cs') -> cs'.all Cell.plain = true -> sg' = sg /\ cs' = cs
 | [], cs', sg, sg', h, _ => by simp only [settle] at h; cases h; exact ⟨rfl, rfl⟩
 | c :: cs, cs', sg, sg', h, hp => by
  have key : ∀ d sg1, (match settle sg1 cs with | some (sg, cs) => some (sg, d :: cs) | none => none) = some (sg', cs') -> d.plain = true /\ (∃ cs1, cs' = d :: cs1 /\ settle sg1 cs = some (sg', cs1) /\ cs1.all Cell.plain = true) := by
   intro d sg1 h
   split at h
   ·rename_i sg2 cs2 h2
    cases h
    simp only [List.all_cons, Bool.and_eq_true] at hp
    exact ⟨hp.1, cs2, rfl, h2, hp.2⟩
   ·cases h
  cases c <;> simp only [settle] at h
  case sl j =>
   split at h
   ·obtain ⟨h1, _⟩ := key _ _ h; cases h1
   ·obtain ⟨h1, _⟩ := key _ _ h; cases h1
   ·cases h
  case sub j o n =>
   split at h
   ·obtain ⟨h1, _⟩ := key _ _ h; cases h1
   ·obtain ⟨h1, _⟩ := key _ _ h; cases h1
   ·cases h
  all_goals
   obtain ⟨h1, cs1, rfl, h2, h3⟩ := key _ _ h
   obtain ⟨rfl, rfl⟩ := fK h2 h3
   exact ⟨rfl, rfl⟩
theorem DV {v v' : AV} {cs : List Cell} (h : dw sg v = some (sg', v')) (hc : v'.cells? = some cs) (hp : cs.all Cell.plain = true) : sg' = sg /\ v' = v := by
 unfold dw at h
 split at h
 ·split at h
  ·rename_i sg2 c hs
   cases h
   simp only [AV.cells?, aP] at hc
   split at hc
   ·cases hc
    obtain ⟨h1, h2⟩ := fK hs hp
    cases h2
    exact ⟨h1, rfl⟩
   ·cases hc
  ·cases h
 ·split at h
  ·rename_i sg2 cs2 hs
   cases h
   simp only [AV.cells?, aP] at hc
   split at hc
   ·cases hc
    obtain ⟨h1, h2⟩ := fK hs hp
    subst h2
    exact ⟨h1, rfl⟩
   ·cases hc
  ·cases h
 ·cases h; cases hc
theorem w8 {v : AV} {cs : List Cell} (hc : v.cells? = some cs) (hp : cs.all Cell.plain = true) : dw sg v = some (sg, v) := by
 cases v with
 | one c =>
  simp only [AV.cells?, aP] at hc
  split at hc
  ·cases hc
   simp only [dw, lY sg hp]
  ·cases hc
 | agg cs' =>
  simp only [AV.cells?, aP] at hc
  split at hc
  ·cases hc
   simp only [dw, lY sg hp]
  ·cases hc
 | tup vs => cases hc
theorem gK {τ : Ty} (hf : τ.flat = true) : ∀ {ps ps' : List (Nat × AV)} {sg sg' : Sig} {b : Bool} {n : Nat} {l : List τ.T}, cN sg ps = some (sg', ps') -> cB b τ ps' n = some l -> sg' = sg /\ ps' = ps /\ cB false τ ps n = some l
 | [], ps', sg, sg', b, n, l, h, hr => by
  simp only [cN] at h
  cases h
  simp only [cB] at hr
  exact ⟨rfl, rfl, by simp only [cB]; exact hr⟩
 | (i, v) :: r, ps', sg, sg', b, n, l, h, hr => by
  simp only [cN] at h
  split at h
  ·rename_i sg1 v1 hv
   split at h
   ·rename_i sg2 ps2 hps
    cases h
    simp only [cB, aP] at hr
    split at hr
    ·rename_i hi
     split at hr
     ·rename_i cs hc
      split at hr
      ·rename_i x hx
       split at hr
       ·rename_i xs hxs
        cases hr
        obtain ⟨hx', hpl⟩ := BN false hf hx
        obtain ⟨rfl, rfl⟩ := DV hv hc hpl
        obtain ⟨rfl, rfl, h3⟩ := gK hf hps hxs
        refine ⟨rfl, rfl, ?_⟩
        simp only [cB, hi, cond_true, hc, hx', h3]
       ·cases hr
      ·cases hr
     ·cases hr
    ·cases hr
   ·cases h
  ·cases h
theorem jY {τ : Ty} (hf : τ.flat = true) : ∀ {ps : List (Nat × AV)} {n : Nat} {l : List τ.T}, cB false τ ps n = some l -> cN sg ps = some (sg, ps)
 | [], n, l, _ => rfl
 | (i, v) :: r, n, l, hr => by
  simp only [cB, aP] at hr
  split at hr
  ·split at hr
   ·rename_i cs hc
    split at hr
    ·rename_i x hx
     split at hr
     ·rename_i xs hxs
      obtain ⟨_, hpl⟩ := BN false hf hx
      simp only [cN, w8 hc hpl, jY hf hxs]
     ·cases hr
    ·cases hr
   ·cases hr
  ·cases hr
theorem ml : ∀ {js : List Nat} {l : List ((t : Ty) × t.T)}, eQ E sg js = some l -> (kh sg sg' fun j => js.contains j) -> eQ E sg' js = some l
 | [], l, h, _ => h
 | j :: js, l, h, ha => by
  simp only [eQ] at h ⊢
  split at h
  ·rename_i ty cs hj
   rw [ha j _ (by simp) hj]
   simp only
   split at h
   ·split at h
    ·split at h
     ·rename_i l' hl
      rw [ml hl (fun i b hi => ha i b (by simp only [List.contains_cons, hi, Bool.or_true]))]
      exact h
     ·cases h
    ·cases h
   ·cases h
  ·cases h
theorem mM {c : Cell} {p : Cell × Bool} (h : iF E sg c = some p) (ha : kh sg sg' fun j => c.ak j) : iF E sg' c = some p := by
 cases c <;> simp only [iF] at h ⊢ <;> try exact h
 case sl j =>
  split at h
  ·rename_i hj; rw [ha j _ (by simp [Cell.ak]) hj]; exact h
  ·rename_i hj; rw [ha j _ (by simp [Cell.ak]) hj]; exact h
  ·cases h
 case sub j o n =>
  split at h
  ·rename_i hj; rw [ha j _ (by simp [Cell.ak]) hj]; exact h
  ·rename_i hj; rw [ha j _ (by simp [Cell.ak]) hj]; exact h
  ·cases h
 case fnp f js =>
  split at h
  ·rename_i l hl
   rw [ml hl (fun i b hi => ha i b hi)]; exact h
  ·cases h
theorem mo : ∀ {cs : List Cell} {p : List Cell × Bool}, ek E sg cs = some p -> (kh sg sg' fun j => cs.any (·.ak j)) -> ek E sg' cs = some p
 | [], p, h, _ => h
 | c :: cs, p, h, ha => by
  simp only [ek] at h
  split at h
  ·rename_i c' u hc
   split at h
   ·rename_i cs' u' hcs
    simp only [ek, mM hc (fun j b hj => ha j b (by simp [hj])), mo hcs (fun j b hj => ha j b (by simp only [List.any_cons, hj, Bool.or_true]))]
    exact h
   ·cases h
  ·cases h
theorem J6 {v : AV} {p : AV × Bool} (h : Kz E sg v = some p) (ha : kh sg sg' fun j => v.ak j) : Kz E sg' v = some p := by
 cases v with
 | one c =>
  simp only [Kz] at h ⊢
  split at h
  ·rename_i hc; rw [mM hc ha]; exact h
  ·cases h
 | agg cs =>
  simp only [Kz] at h ⊢
  split at h
  ·rename_i hc; rw [mo hc ha]; exact h
  ·cases h
 | tup vs => cases h
theorem pV : ∀ {vs : List AV} {p : List AV × Bool}, fv E sg vs = some p -> (∀ v ∈ vs, kh sg sg' fun j => v.ak j) -> fv E sg' vs = some p
 | [], p, h, _ => h
 | v :: vs, p, h, ha => by
  simp only [fv] at h
  split at h
  ·rename_i v' u hv
   split at h
   ·rename_i vs' u' hvs
    simp only [fv, J6 hv (ha v List.mem_cons_self), pV hvs (fun v hv => ha v (List.mem_cons_of_mem _ hv))]
    exact h
   ·cases h
  ·cases h
theorem FC {dst : Option Nat} {f : AV} {args : List AV} {p : AV × Sig} (h : pQ E call sg dst f args = some p) (ha : ∀ v ∈ args, kh sg sg' fun j => v.ak j) (hf : ∀ q ∈ p.2, sg'.get q.1 = none) : pQ E call sg' dst f args = some p := by
 unfold pQ at h ⊢
 split at h
 ·rename_i g caps
  split at h
  ·rename_i args' own hl
   rw [pV hl ha]
   rw [Option.bind_eq_some_iff] at h
   obtain ⟨r, h1, h2⟩ := h
   simp only
   rw [h1]
   simp only [Option.bind_some, aP] at h2 ⊢
   split at h2
   ·rename_i hc
    rw [if_pos hc]
    split at h2
    ·rename_i d
     split at h2
     ·cases h2
      rw [if_pos]
      rw [List.all_eq_true]
      intro q hq
      have := hf (q.1 + d, q.2.shift d) (List.mem_map.2 ⟨q, hq, rfl⟩)
      exact Sig.bP.2 ⟨this, (Sig.bP.1 (List.all_eq_true.1 ‹_› q hq)).2⟩
     ·cases h2
    ·exact h2
   ·cases h2
  ·cases h
 ·cases h
theorem GX {dst : Option Nat} {f : AV} {args : List AV} {p : AV × Sig} (h : pQ E call sg dst f args = some p) : ∀ q ∈ p.2, sg.get q.1 = none := by
 unfold pQ at h
 split at h
 ·split at h
  ·rw [Option.bind_eq_some_iff] at h
   obtain ⟨r, h1, h2⟩ := h
   simp only [aP] at h2
   split at h2
   ·split at h2
    ·rename_i d
     split at h2
     ·rename_i ha
      cases h2
      rw [List.all_eq_true] at ha
      intro q hq
      obtain ⟨q', hq', rfl⟩ := List.mem_map.1 hq
      exact (Sig.bP.1 (ha q' hq')).1
     ·cases h2
    ·cases h2; intro q hq; cases hq
   ·cases h2
  ·cases h
 ·cases h
theorem yQ {st : St} {d : Nat} {f : AV} {args : List AV} (k : St -> Option R) : gS E call st (some d) f args k = (pQ E call st.sg (some d) f args).bind fun p => k (St.put (some d) p.1 ⟨st.sl, p.2 ++ st.sg⟩) := by
 cases f with
 | one c =>
  cases c with
  | fn g caps =>
   simp only [gS, pQ, wT]
   cases hl : fv E st.sg args with
   | none => rfl
   | some q =>
    obtain ⟨args', own⟩ := q
    simp only
    cases A7 E call g (args' ++ caps.map fun c => .one (.eptr c.1 c.2 0 true)) with
    | none => rfl
    | some q =>
     simp only [Option.bind_some, aP]
     split
     ·split
      ·rfl
      ·rfl
     ·rfl
  | _ => rfl
 | agg _ => rfl
 | tup _ => rfl
theorem D7 {dst : Option Nat} {t : TypeId} {n : Nat} {ps : List (Nat × AV)} {p : AV × Sig} (h : nG E sg dst t n ps = some p) (hf : ∀ q ∈ p.2, sg'.get q.1 = none) : nG E sg' dst t n ps = some p := by
 unfold nG at h ⊢
 split at h
 ·split at h
  ·simp only [aP] at h ⊢
   split at h
   ·rename_i hc
    split at h
    ·rename_i l hl
     cases h
     have := hf _ List.mem_cons_self
     simp only [Bool.and_eq_true, Sig.bP] at hc ⊢
     rw [if_pos ⟨⟨⟨hc.1.1.1, this, hc.1.1.2.2⟩, hc.1.2⟩, hc.2⟩]
    ·cases h
   ·cases h
  ·cases h
 ·cases h
theorem C1 {dst : Option Nat} {t : TypeId} {n : Nat} {ps : List (Nat × AV)} {p : AV × Sig} (h : nG E sg dst t n ps = some p) : ∀ q ∈ p.2, sg.get q.1 = none := by
 unfold nG at h
 split at h
 ·split at h
  ·simp only [aP] at h
   split at h
   ·rename_i hc
    split at h
    ·cases h
     simp only [Bool.and_eq_true, Sig.bP] at hc
     intro q hq
     rw [List.mem_singleton.1 hq]
     exact hc.1.1.2.1
    ·cases h
   ·cases h
  ·cases h
 ·cases h
end
end Go.Proofs.YtahlaccdpmddbaaGreat.Lib
namespace Go.Proofs.YtahlaccdpmddbaaGreat.Lib
open Go Go.RowKit
set_option linter.unusedVariables false
set_option linter.unusedSimpArgs false
section
variable {E : Env} {call : bh} {R : Type} {r : R}
theorem GI {sg : Sig} {ρ : Operand -> AV} {o : Oper} {p : AV × Sig} (h : qop E sg ρ o.dst o.op (fun v add => some (v, add)) = some p) : Zi E sg ρ o.dst o.op p := by
 obtain ⟨p', h1, h2⟩ := Cd h
 cases h2
 exact h1
inductive Way (c : Call) : Prop
 | app (s x : Operand) (t t' : TypeId) : c.callee = .builtin .append -> c.args.toList = [s, x] -> c.argTypes.toList = [t, t'] -> Way c
 | clr (x : Operand) (t : TypeId) : c.callee = .builtin .clear -> c.args.toList = [x] -> c.argTypes.toList = [t] -> Way c
 | val (f : Operand) : c.callee = .value f -> Way c
 | q : (∀ (E : Env) (call : bh) (R : Type) (o : Oper) (st : St) (k : St -> Option R), o.op = .call c -> exec E call o st k = qop E st.sg (aF st.sl) o.dst (.call c) fun v add => k (St.put o.dst v ⟨st.sl, add ++ st.sg⟩)) ->
   (∀ (E : Env) (call : bh) (sg : Sig) (ρ : Operand -> AV) (o : Oper), o.op = .call c -> hop E call sg ρ o = qop E sg ρ o.dst (.call c) fun v add => some (v, add)) -> Way c
theorem way (c : Call) : Way c := by
 have other : (∀ s x t t', ¬ (c.callee = .builtin .append /\ c.args.toList = [s, x] /\ c.argTypes.toList = [t, t'])) -> (∀ x t, ¬ (c.callee = .builtin .clear /\ c.args.toList = [x] /\ c.argTypes.toList = [t])) -> (∀ f, c.callee ≠ .value f) -> Way c := by
  intro h1 h3 h2
  refine .q (fun E call R o st k ho => ?_) (fun E call sg ρ o ho => ?_)
  ·unfold exec
   rw [ho]
   simp only
   split
   ·rename_i hc ha ht; exact absurd ⟨hc, ha, ht⟩ (h1 _ _ _ _)
   ·rename_i hc ha ht; exact absurd ⟨hc, ha, ht⟩ (h3 _ _)
   ·rename_i hc; exact absurd hc (h2 _)
   ·rfl
  ·unfold hop
   rw [ho]
   simp only
   split
   ·rename_i hc ha ht; exact absurd ⟨hc, ha, ht⟩ (h1 _ _ _ _)
   ·rename_i hc ha ht; exact absurd ⟨hc, ha, ht⟩ (h3 _ _)
   ·rename_i hc; exact absurd hc (h2 _)
   ·rfl
 by_cases h2 : ∃ f, c.callee = .value f
 ·obtain ⟨f, hf⟩ := h2
  exact .val f hf
 ·by_cases h1 : ∃ s x t t', c.callee = .builtin .append /\ c.args.toList = [s, x] /\ c.argTypes.toList = [t, t']
  ·obtain ⟨s, x, t, t', a1, a2, a3⟩ := h1
   exact .app s x t t' a1 a2 a3
  ·by_cases h3 : ∃ x t, c.callee = .builtin .clear /\ c.args.toList = [x] /\ c.argTypes.toList = [t]
   ·obtain ⟨x, t, a1, a2, a3⟩ := h3
    exact .clr x t a1 a2 a3
   ·exact other (fun s x t t' h => h1 ⟨s, x, t, t', h⟩) (fun x t h => h3 ⟨x, t, h⟩) (fun f hf => h2 ⟨f, hf⟩)
theorem Ys {t : TypeId} (h : (match E.ti.lookup t with
   | some { td := .slice e, .. } => (match E.ti.lookup e with
    | some { ty := some τ, .. } => τ.flat
    | _ => false)
   | _ => false) = true) : ∃ e s b y τ s' b' d', E.ti.lookup t = some ⟨.slice e, s, b, y⟩ /\ E.ti.lookup e = some ⟨d', s', b', some τ⟩ /\ τ.flat = true := by
 split at h
 ·rename_i e s b y ht
  split at h
  ·rename_i d' s' b' τ he
   exact ⟨e, s, b, y, τ, s', b', d', ht, he, h⟩
  ·cases h
 ·cases h
theorem Hq {o : Oper} {st : St} {p : AV × Sig} (ho : dY E o = true) (h : hop E call st.sg (aF st.sl) o = some p) (k : St -> Option R) : exec E call o st k = k (St.put o.dst p.1 ⟨st.sl, p.2 ++ st.sg⟩) := by
 have quiet : qop E st.sg (aF st.sl) o.dst o.op (fun v add => some (v, add)) = some p -> qop E st.sg (aF st.sl) o.dst o.op (fun v add => k (St.put o.dst v ⟨st.sl, add ++ st.sg⟩)) = k (St.put o.dst p.1 ⟨st.sl, p.2 ++ st.sg⟩) := fun h =>
  let hq := GI h
  hq.1 _ st.sg _ (fun _ _ => rfl) (fun _ _ j b _ hj => hj) hq.2
 unfold dY at ho
 cases hop' : o.op with
 | store t a v => unfold hop at h; rw [hop'] at h; cases h
 | call c =>
  rcases way c with ⟨s, x, t, t', h1, h2, h3⟩ | ⟨x, t, h1, h2, h3⟩ | ⟨f, h1⟩ | ⟨h1, h2⟩
  ·unfold hop at h
   rw [hop'] at h
   simp only [h1, h2, h3] at h
   cases h
  ·unfold hop at h
   rw [hop'] at h
   simp only [h1, h2, h3] at h
   cases h
  ·rw [hop'] at ho
   simp only [h1] at ho
   unfold hop at h
   rw [hop'] at h
   simp only [h1] at h
   unfold exec
   rw [hop']
   simp only [h1]
   simp only [Bool.and_eq_true] at ho
   have hmk := Option.isNone_iff_eq_none.1 ho.2.2.1
   simp only [hmk]
   refine (Ac ho.2.2.2 st o.dst _ k _).trans ?_
   obtain ⟨d, hd⟩ := Option.isSome_iff_exists.1 ho.2.1
   rw [hd] at h ⊢
   rw [yQ, h]
   rfl
  ·rw [h1 E call R o st k hop', ← hop']
   rw [h2 E call st.sg _ o hop', ← hop'] at h
   exact quiet h
 | buildSlice t n ps =>
  unfold hop at h
  rw [hop'] at h
  simp only at h
  unfold exec
  rw [hop']
  simp only
  unfold nG at h
  split at h
  ·rename_i d e s b y hd ht
   split at h
   ·rename_i d' s' b' τ he
    simp only [aP] at h
    split at h
    ·rename_i hc
     split at h
     ·rename_i l hl
      cases h
      simp only [Bool.and_eq_true] at hc
      rw [jY hc.1.1.1 hl]
      simp only [hd, ht, he, hc.1.1.2, hc.1.2, hc.2, Bool.and_self, cond_true, hl]
      rfl
     ·cases h
    ·cases h
   ·cases h
  ·cases h
 | _ => (unfold exec; unfold hop at h; rw [hop'] at h ⊢; simp only at h ⊢; rw [← hop'] at h ⊢; exact quiet h)
theorem Fg {o : Oper} {st : St} {k : St -> Option R} (ho : dY E o = true) (hns : cT o = false) (h : exec E call o st k = some r) : ∃ p, hop E call st.sg (aF st.sl) o = some p /\ (∀ q ∈ p.2, st.sg.get q.1 = none) /\ k (St.put o.dst p.1 ⟨st.sl, p.2 ++ st.sg⟩) = some r := by
 have quiet : qop E st.sg (aF st.sl) o.dst o.op (fun v add => k (St.put o.dst v ⟨st.sl, add ++ st.sg⟩)) = some r -> ∃ p, qop E st.sg (aF st.sl) o.dst o.op (fun v add => some (v, add)) = some p /\ (∀ q ∈ p.2, st.sg.get q.1 = none) /\ k (St.put o.dst p.1 ⟨st.sl, p.2 ++ st.sg⟩) = some r := fun h => by
  obtain ⟨p, h1, h2⟩ := Cd h
  exact ⟨p, h1.1 _ st.sg _ (fun _ _ => rfl) (fun _ _ j b _ hj => hj) h1.2, h1.2, h2⟩
 unfold dY at ho
 cases hop' : o.op with
 | store t a v => simp [cT, hop'] at hns
 | call c =>
  rcases way c with ⟨s, x, t, t', h1, h2, h3⟩ | ⟨x, t, h1, h2, h3⟩ | ⟨f, h1⟩ | ⟨h1, h2⟩
  ·rw [hop'] at ho
   simp [h1, h2, h3] at ho
  ·rw [hop'] at ho
   simp [h1, h2, h3] at ho
  ·rw [hop'] at ho
   simp only [h1] at ho
   unfold exec at h
   rw [hop'] at h
   simp only [h1] at h
   simp only [Bool.and_eq_true] at ho
   have hmk := Option.isNone_iff_eq_none.1 ho.2.2.1
   simp only [hmk] at h
   have h := (Ac ho.2.2.2 st o.dst _ k _).symm.trans h
   obtain ⟨d, hd⟩ := Option.isSome_iff_exists.1 ho.2.1
   rw [hd, yQ, Option.bind_eq_some_iff] at h
   obtain ⟨p, h2, h3⟩ := h
   refine ⟨p, ?_, GX h2, by rw [hd]; exact h3⟩
   unfold hop
   rw [hop']
   simp only [h1, hd]
   exact h2
  ·rw [h1 E call R o st k hop', ← hop'] at h
   rw [h2 E call st.sg _ o hop', ← hop']
   exact quiet h
 | buildSlice t n ps =>
  rw [hop'] at ho
  simp only [Bool.and_eq_true] at ho
  obtain ⟨e, s, b, y, τ, s', b', d', ht, he, hf⟩ := Ys ho.2
  unfold exec at h
  rw [hop'] at h
  simp only at h
  split at h
  ·rename_i sg1 ps1 hs
   split at h
   ·rename_i d e2 s2 b2 y2 hd ht2
    rw [ht] at ht2
    cases ht2
    split at h
    ·rename_i d3 s3 b3 τ3 he3
     rw [he] at he3
     cases he3
     simp only [aP] at h
     split at h
     ·rename_i hc
      have fin : ∀ bb l, cB bb τ ps1 0 = some l -> k ⟨st.sl.set d (.one (.sl d)), (d, .arr e τ l bb) :: sg1⟩ = some r -> bb = false -> ∃ p, hop E call st.sg (aF st.sl) o = some p /\ (∀ q ∈ p.2, st.sg.get q.1 = none) /\ k (St.put o.dst p.1 ⟨st.sl, p.2 ++ st.sg⟩) = some r := by
       intro bb l hl hk hb
       subst hb
       obtain ⟨rfl, rfl, h3⟩ := gK hf hs hl
       have hh : hop E call st.sg (aF st.sl) o = some (.one (.sl d), [(d, .arr e τ l false)]) := by
        unfold hop
        rw [hop']
        simp only [Bool.and_eq_true] at hc
        simp only [nG, hd, ht, he, hf, hc.1.1, hc.1.2, hc.2, Bool.and_self, cond_true, h3]
       exact ⟨_, hh, (by
        unfold hop at hh
        rw [hop'] at hh
        exact C1 hh), by rw [hd]; exact hk⟩
      split at h
      ·rename_i l hl
       exact fin _ l hl h rfl
      ·rename_i hn
       split at h
       ·rename_i l hl
        obtain ⟨rfl, rfl, h3⟩ := gK hf hs hl
        rw [hn] at h3
        cases h3
       ·cases h
     ·cases h
    ·cases h
   ·cases h
  ·cases h
 | _ => (unfold exec at h; unfold hop; rw [hop'] at h ⊢; simp only at h ⊢; rw [← hop'] at h ⊢; exact quiet h)
theorem Mh {o : Oper} {sg sg' : Sig} {ρ ρ' : Operand -> AV} {p : AV × Sig} (h : hop E call sg ρ o = some p) (h1 : ∀ x ∈ o.op.operands.toList, ρ' x = ρ x)
  (h2 : ∀ x ∈ o.op.operands.toList, kh sg sg' fun j => (ρ x).ak j) (hf : ∀ q ∈ p.2, sg'.get q.1 = none) : hop E call sg' ρ' o = some p := by
 have quiet : qop E sg ρ o.dst o.op (fun v add => some (v, add)) = some p -> qop E sg' ρ' o.dst o.op (fun v add => some (v, add)) = some p := fun h =>
  (GI h).1 _ sg' ρ' h1 h2 hf
 cases hop' : o.op with
 | store t a v => unfold hop at h; rw [hop'] at h; cases h
 | call c =>
  rcases way c with ⟨s, x, t, t', g1, g2, g3⟩ | ⟨x, t, g1, g2, g3⟩ | ⟨f, g1⟩ | ⟨g1, g2⟩
  ·unfold hop at h
   rw [hop'] at h
   simp only [g1, g2, g3] at h
   cases h
  ·unfold hop at h
   rw [hop'] at h
   simp only [g1, g2, g3] at h
   cases h
  ·unfold hop at h ⊢
   rw [hop'] at h h1 h2 ⊢
   simp only [g1] at h ⊢
   have ha : ∀ x ∈ c.args.toList, x ∈ (Op.call c).operands.toList := by
    intro x hx
    simp only [Op.operands, Call.operands, Array.toList_append, List.mem_append]
    exact .inr hx
   have hfm : f ∈ (Op.call c).operands.toList := by
    simp only [Op.operands, Call.operands, Array.toList_append, List.mem_append, g1]
    exact .inl (by simp)
   rw [h1 f hfm, List.map_congr_left (fun x hx => h1 x (ha x hx))]
   refine FC h (fun v hv => ?_) hf
   obtain ⟨x, hx, rfl⟩ := List.mem_map.1 hv
   exact h2 x (ha x hx)
  ·rw [g2 E call sg _ o hop', ← hop'] at h
   rw [g2 E call sg' _ o hop', ← hop']
   exact quiet h
 | buildSlice t n ps =>
  unfold hop at h ⊢
  rw [hop'] at h h1 ⊢
  simp only at h ⊢
  rw [List.map_congr_left (g := fun p => (p.1, ρ p.2)) (fun q hq => by rw [h1 q.2 (by simp only [Op.operands]; exact List.mem_map.2 ⟨q, by simpa using hq, rfl⟩)])]
  exact D7 h hf
 | _ => (unfold hop at h ⊢; rw [hop'] at h ⊢; simp only at h ⊢; rw [← hop'] at h ⊢; exact quiet h)
theorem GR {sg : Sig} {t : TypeId} {x v : AV} {p : AV × Sig} (h : hst E sg t x v = some p) : ∃ j c b b', x = .one (.ptr j 0 c) /\ sg.get j = some b /\ p = (.one .und, [(j, b')]) /\ (∀ sg' : Sig, sg'.get j = some b -> hst E sg' t x v = some p) := by
 unfold hst at h
 split at h
 ·rename_i j i c cs ti hv ht
  simp only [aP] at h
  split at h
  ·rename_i hl
   split at h
   ·rename_i ty old hj
    split at h
    ·split at h
     ·rename_i hle
      cases h
      exact ⟨j, c, _, _, rfl, hj, rfl, fun sg' hj' => by simp only [hst, hv, ht, hl, hj', hle, cond_true]⟩
     ·cases h
    ·cases h
   ·cases h
  ·cases h
 ·cases h
theorem Ls {o : Oper} {st : St} {t : TypeId} {a v : Operand} {p : AV × Sig} (ho : o.op = .store t a v) (h : hst E st.sg t (aF st.sl a) (aF st.sl v) = some p) (k : St -> Option R) : exec E call o st k = k (aft o p st) := by
 unfold hst at h
 split at h
 ·rename_i j i c cs ti hx hv ht
  simp only [aP] at h
  split at h
  ·rename_i hl
   split at h
   ·rename_i ty old hj
    split at h
    ·split at h
     ·rename_i hle
      cases h
      unfold exec
      rw [ho]
      simp only [qy, hx, hv, ht, hl, hj, hle, cond_true, aft, cT, ho, Pu]
     ·cases h
    ·cases h
   ·cases h
  ·cases h
 ·cases h
theorem xV {sg : Sig} {ρ : Operand -> AV} {o : Oper} (hns : cT o = false) : sop E call sg ρ o = hop E call sg ρ o := by
 unfold sop
 split
 ·rename_i ho; simp [cT, ho] at hns
 ·rfl
theorem oe {o : Oper} {p : AV × Sig} {s : St} (hns : cT o = false) : aft o p s = St.put o.dst p.1 ⟨s.sl, p.2 ++ s.sg⟩ := by
 unfold aft; rw [hns]; rfl
theorem acH {o : Oper} (h : cT o = true) : ∃ t a v, o.op = .store t a v := by
 unfold cT at h
 split at h
 ·rename_i t a v ho; exact ⟨t, a, v, ho⟩
 ·cases h
theorem rK {o : Oper} (h : cT o = true) (ho : dY E o = true) : ∃ t u v, o.op = .store t (.tmp u) v /\ o.guard = none := by
 obtain ⟨t, a, v, h1⟩ := acH h
 unfold dY at ho
 rw [h1] at ho
 simp only [Bool.true_and, Bool.and_eq_true, Option.isNone_iff_eq_none] at ho
 cases a with
 | tmp u => exact ⟨t, u, v, h1, ho.1⟩
 | _ => cases ho.2
theorem Nw {all : List Oper} {o : Oper} (hns : cT o = false) {sg sg' : Sig} {ρ ρ' : Operand -> AV} {p : AV × Sig} (h : gop E call all sg ρ o = some p) (h1 : ∀ x ∈ opn all o, ρ' x = ρ x)
  (h2 : ∀ x ∈ opn all o, kh sg sg' fun j => (ρ x).ak j) (hf : ∀ q ∈ p.2, sg'.get q.1 = none) : gop E call all sg' ρ' o = some p := by
 have hh : hop E call sg ρ o = some p -> hop E call sg' ρ' o = some p := fun h => Mh h (fun x hx => h1 x (List.mem_append_right _ hx)) (fun x hx => h2 x (List.mem_append_right _ hx)) hf
 unfold gop at h ⊢
 simp only [xV hns] at h ⊢
 split at h
 ·exact hh h
 ·rename_i j want hg
  split at h
  ·rename_i t ht
   have ht' : ρ' (.tmp t) = ρ (.tmp t) := h1 _ (List.mem_append_left _ (by unfold tst; rw [hg]; simp only [ht]; exact List.mem_singleton.2 rfl))
   rw [ht']
   split at h
   ·rename_i v hv
    simp only [aP] at h ⊢
    split at h
    ·rename_i hvw; rw [if_pos hvw]; exact hh h
    ·rename_i hvw; rw [if_neg hvw]; exact h
   ·exact h
   ·cases h
  ·cases h
theorem o4 {sl : List AV} {t : Nat} {v : AV} (h : sl[t]? = some v) : aF sl (.tmp t) = v := by
 simp only [aF, List.getD_eq_getElem?_getD, h]
 rfl
theorem WO {all : List Oper} {o : Oper} {l : List Oper} {st : St} {k : St -> Option R} (ho : dY E o = true) (hs : cT o = true -> (gop E call all st.sg (aF st.sl) o).isSome = true) (h : bJ E call all (o :: l) st k = some r) :
  ∃ p, gop E call all st.sg (aF st.sl) o = some p /\ (cT o = false -> ∀ q ∈ p.2, st.sg.get q.1 = none) /\ bJ E call all l (aft o p st) k = some r := by
 by_cases hns : cT o = true
 ·
  obtain ⟨t, u, v, h1, hg⟩ := rK hns ho
  obtain ⟨p, hp⟩ := Option.isSome_iff_exists.1 (hs hns)
  have hp2 := hp
  unfold gop sop at hp2
  simp only [hg, h1] at hp2
  simp only [bJ, hg] at h
  rw [Ls h1 hp2] at h
  exact ⟨p, hp, (fun h => by rw [hns] at h; cases h), h⟩
 have hns : cT o = false := by simpa using hns
 simp only [bJ] at h
 split at h
 ·rename_i hg
  obtain ⟨p, h1, h2, h3⟩ := Fg ho hns h
  exact ⟨p, by unfold gop; simp only [hg, xV hns]; exact h1, fun _ => h2, by rw [oe hns]; exact h3⟩
 ·rename_i j want hg
  split at h
  ·rename_i t ht
   split at h
   ·rename_i v hv
    have run : ∀ b, v = b -> (b == want) = true -> exec E call o st (fun st => bJ E call all l st k) = some r -> ∃ p, gop E call all st.sg (aF st.sl) o = some p /\ (cT o = false -> ∀ q ∈ p.2, st.sg.get q.1 = none) /\ bJ E call all l (aft o p st) k = some r := by
     intro b hb hw h
     subst hb
     obtain ⟨p, h1, h2, h3⟩ := Fg ho hns h
     exact ⟨p, by unfold gop; simp only [hg, ht, o4 hv, hw, cond_true]; exact h1, fun _ => h2, by rw [oe hns]; exact h3⟩
    have skip : ∀ b, v = b -> (b == want) = false -> bJ E call all l (st.put o.dst (.tup [])) k = some r -> ∃ p, gop E call all st.sg (aF st.sl) o = some p /\ (cT o = false -> ∀ q ∈ p.2, st.sg.get q.1 = none) /\ bJ E call all l (aft o p st) k = some r := by
     intro b hb hw h
     subst hb
     exact ⟨(.tup [], []), by unfold gop; simp only [hg, ht, o4 hv, hw, cond_false], (fun _ q hq => by cases hq), by rw [oe hns]; exact h⟩
    cases v with
    | true =>
     simp only [sb hv, aP] at h
     split at h
     ·rename_i h1; exact run true rfl (by rw [h1]; rfl) h
     ·rename_i h1
      have h2 : want = false := by simpa using h1
      exact skip true rfl (by rw [h2]; rfl) h
    | false =>
     simp only [sb hv, aP] at h
     split at h
     ·rename_i h1; exact skip false rfl (by rw [h1]; rfl) h
     ·rename_i h1
      have h2 : want = false := by simpa using h1
      exact run false rfl (by rw [h2]; rfl) h
   ·rename_i hv
    exact ⟨(.tup [], []), by unfold gop; simp only [hg, ht, o4 hv], (fun _ q hq => by cases hq), by rw [oe hns]; exact h⟩
   ·cases h
  ·cases h
end
end Go.Proofs.YtahlaccdpmddbaaGreat.Lib
