/- An interpreter DQ plain values for translated functions, and that it says what the model does (calls, statements, loops, arguments). No condition. -/
import Derived.Test.YtcddhifkfakcjaaGreatVmLibOne
import Derived.Great.BuildSlice
import Derived.KernelRfl
namespace Go.Proofs.YtcddhifkfakcjaaGreat.Lib
open Go Go.RowKit
set_option linter.unusedVariables false
set_option linter.unusedSimpArgs false
theorem vv {p : Nat -> Bool} {j : Nat} {c : Cell} {d : Nat} (h : (c.bX p j).ae d = true) : c.ae d = true /\ p d = false := by
 cases c <;> first | exact gp h | skip
 case inn j' i k =>
  simp only [Cell.bX] at h
  cases hj : (j' == j) with
  | true => rw [hj] at h; cases h
  | false => rw [hj] at h; exact gp h
theorem tg {p : Nat -> Bool} {j : Nat} {cs : List Cell} {d : Nat} (h : (cs.map (·.bX p j)).any (·.ae d) = true) : cs.any (·.ae d) = true /\ p d = false := by
 obtain ⟨c,hc,hd⟩ := List.any_eq_true.1 h
 obtain ⟨c',hc',rfl⟩ := List.mem_map.1 hc
 obtain ⟨h1,h2⟩ := vv hd
 exact ⟨List.any_eq_true.2 ⟨c',hc',h1⟩,h2⟩
theorem L9 {p : Nat -> Bool} {j : Nat} {v : AV} {d : Nat} (h : (v.bX p j).ae d = true) : v.ae d = true /\ p d = false := by
 cases v with
 | one c => exact vv h
 | agg cs => exact tg h
 | tup ps =>
  obtain ⟨q,hq,hd⟩ := List.any_eq_true.1 h
  obtain ⟨q',hq',rfl⟩ := List.mem_map.1 hq
  obtain ⟨h1,h2⟩ := tg hd
  exact ⟨List.any_eq_true.2 ⟨q',hq',h1⟩,h2⟩
theorem HN {p : Nat -> Bool} {j : Nat} {b : Blk} {d : Nat} (h : (b.bX p j).ae d = true) : b.ae d = true /\ p d = false := by
 cases b with
 | box t cs => exact tg h
 | _ => cases h
theorem Sig.zG (p : Nat -> Bool) (j : Nat) (s : Sig) (i : Nat) : (s.bX p j).get i = if p i then none else (s.get i).map (·.bX p j) := by
 induction s with
 | nil => simp [Sig.bX,Sig.get]
 | cons q r ih =>
  obtain ⟨a,c⟩ := q
  simp only [Sig.bX]
  cases hp : p a with
  | true =>
   simp only [cond_true,ih,Sig.get]
   by_cases h : a = i
   ·subst h; simp [hp]
   ·simp [beq_eq_false_iff_ne.2 h]
  | false =>
   simp only [cond_false,Sig.get,ih]
   by_cases h : a = i
   ·subst h; simp [hp]
   ·simp [beq_eq_false_iff_ne.2 h]
section
variable {P : Program} {E : Env} {B : Nat} {O : Ow} {w0 w w' : World} {ρ ρ' : al} {a : Act} {R : Type} {r : R} {sg : Sig} {st : St}
def tU (ρ ρ' : al) (w w' : World) (p : Nat -> Bool) (j : Nat) (Z : Prop) : Prop := ∀ (c : Cell) (v : Value),(c.ae j = true -> Z) -> rc ρ w c v -> rc ρ' w' (c.bX p j) v
theorem tU.cells {p : Nat -> Bool} {j : Nat} {Z : Prop} (hK : tU ρ ρ' w w' p j Z) {cs : List Cell} {vs : List Value} (hz : cs.any (·.ae j) = true -> Z) (h : aF (rc ρ w) cs vs) : aF (rc ρ' w') (cs.map (·.bX p j)) vs :=
 h.b9 _ fun c v hc h => hK c v (fun hu => hz (List.any_eq_true.2 ⟨c,hc,hu⟩)) h
theorem tU.rav {p : Nat -> Bool} {j : Nat} {Z : Prop} (hK : tU ρ ρ' w w' p j Z) {x : AV} {v : Value} (hz : x.ae j = true -> Z) (h : rav ρ w x v) : rav ρ' w' (x.bX p j) v := by
 cases x with
 | one c => exact hK c v hz h
 | agg cs => obtain ⟨vs,h0,h1⟩ := h; exact ⟨vs,h0,hK.cells hz h1⟩
 | tup ps =>
  obtain ⟨vs,h0,h1⟩ := h
  refine ⟨vs,h0,h1.b9 _ fun q v hq h => ?_⟩
  have hz' : q.2.any (·.ae j) = true -> Z := fun hu => hz (List.any_eq_true.2 ⟨q,hq,hu⟩)
  obtain ⟨g,cs⟩ := q
  cases g with
  | true => obtain ⟨vs,h0,h1⟩ := h; exact ⟨vs,h0,hK.cells hz' h1⟩
  | false => obtain ⟨c,rfl,h⟩ := h; exact ⟨c.bX p j,rfl,hK c v (fun hu => hz' (by simpa using hu)) h⟩
theorem FE {p : Nat -> Bool} {j : Nat} {V : Value} {g : Option Nat} {sz : Nat} {hd hd' : List (List (Value × Option Nat))} (hl : ρ.loc j = .nst V g sz hd) (hok : ∀ q k,ρ.ok q k -> w'.heap[k]? = w.heap[k]?) : tU ρ (ρ.upd j (.nst V g sz hd')) w w' p j True := by
 intro c v _ h
 have hst : Step (fun d => d ≠ j) ρ (ρ.upd j (.nst V g sz hd')) w w' := ⟨fun d hd => al.cT ρ _ hd,fun _ _ h => h,hok⟩
 have other : c.ae j = false -> rc (ρ.upd j (.nst V g sz hd')) w' (c.aT p) v := fun hu => dF (cM hst (fun d hd he => by rw [he,hu] at hd; cases hd) h)
 have noj : ∀ {L : Loc},ρ.loc j = L -> (∀ v g sz hd,L ≠ .nst v g sz hd) -> False := fun h hn => hn _ _ _ _ (h.symm.trans hl)
 cases c with
 | nl d =>
  by_cases hd : d = j
  ·subst hd
   obtain ⟨g1,s1,hd1,h⟩ := h
   rw [hl] at h; cases h
   exact dF (c := .nl d) ⟨g,sz,hd',al.ba _ _ _⟩
  ·exact other (by simp [Cell.ae,hd])
 | np d i c =>
  by_cases hd : d = j
  ·subst hd
   obtain ⟨A,n,cp,g1,s1,hd1,h,h1⟩ := h
   rw [hl] at h; cases h
   exact dF (c := .np d i c) ⟨A,n,cp,g,sz,hd',al.ba _ _ _,h1⟩
  ·exact other (by simp [Cell.ae,hd])
 | inn d i k =>
  by_cases hd : d = j
  ·subst hd
   simp only [Cell.bX,BEq.rfl,cond_true]
   trivial
  ·have h1 := other (by simp [Cell.ae,hd])
   simp only [Cell.bX,beq_eq_false_iff_ne.2 hd,cond_false]
   exact h1
 | sl d =>
  by_cases hd : d = j
  ·subst hd; obtain ⟨g1,s1,h⟩ := h; exact (noj h (by simp)).elim
  ·exact other (by simp [Cell.ae,hd])
 | sub d o n =>
  by_cases hd : d = j
  ·subst hd; obtain ⟨A,n,c,g1,s1,h,_⟩ := h; exact (noj h (by simp)).elim
  ·exact other (by simp [Cell.ae,hd])
 | ptr d i c =>
  by_cases hd : d = j
  ·subst hd
   rcases h with ⟨_,g1,h,_⟩ | ⟨A,n,cp,g1,s1,h,_⟩
   ·exact (noj h (by simp)).elim
   ·exact (noj h (by simp)).elim
  ·exact other (by simp [Cell.ae,hd])
 | fnp f js =>
  by_cases hd : js.contains j = true
  ·obtain ⟨vs,_,h1⟩ := h
   have : ∀ {l : List Nat} {us : List Value},aF (fun j u => ∃ g,ρ.loc j = .box g /\ u = .pointer (some ⟨g,0,none⟩)) l us -> l.contains j = true -> False := by
    intro l us hh
    induction hh with
    | nil => intro hc; cases hc
    | cons h0 _ ih =>
     intro hc
     simp only [List.contains_cons,Bool.or_eq_true,beq_iff_eq] at hc
     rcases hc with hc | hc
     ·subst hc; obtain ⟨g,h,_⟩ := h0; exact noj h (by simp)
     ·exact ih hc
   exact (this h1 hd).elim
  ·exact other (by simpa [Cell.ae] using hd)
 | int k n => exact other rfl
 | bool b => exact other rfl
 | str b => exact other rfl
 | nil => exact other rfl
 | cap0 => exact other rfl
 | nul f => exact other rfl
 | emb e t l b => exact other rfl
 | eptr t x c b => exact other rfl
 | fn f caps => exact other rfl
 | und => exact other rfl
theorem uX {p : Nat -> Bool} {j : Nat} {L : Loc} (hok : ∀ q k,ρ.ok q k -> w'.heap[k]? = w.heap[k]?) : tU ρ (ρ.upd j L) w w' p j False := by
 intro c v hz h
 have hst : Step (fun d => d ≠ j) ρ (ρ.upd j L) w w' := ⟨fun d hd => al.cT ρ _ hd,fun _ _ h => h,hok⟩
 have h1 : rc (ρ.upd j L) w' c v := cM hst (fun d hd he => hz (by rw [← he]; exact hd)) h
 cases c with
 | inn d i k =>
  by_cases hd : d = j
  ·exact (hz (by simp [Cell.ae,hd])).elim
  ·simp only [Cell.bX,beq_eq_false_iff_ne.2 hd,cond_false]
   exact dF h1
 | _ => exact dF (p := p) h1
theorem Mem.bX (h : Mem B O ρ sg w) (hB : B <= w.heap.size) {j : Nat} {ms : List Nat} {b' : Blk} {L : Loc} {Z : Prop} (hK : tU ρ (ρ.upd j L) w w' (ms.contains ·) j Z) (hz : ∀ i b,sg.get i = some b -> b.ae j = true -> Z)
  (hw : ∀ k,k < w.heap.size -> ¬ aP ρ sg j k -> w'.heap[k]? = w.heap[k]?) (hs : w.heap.size <= w'.heap.size) (hb : eZ (ρ.upd j L) w' j b')
  (hL : ∀ g,L.own g -> w.heap.size <= g ∨ aP ρ sg j g ∨ ∃ m ∈ ms,aP ρ sg m g) (hms : ms.contains j = false) (hu : ∀ d,b'.ae d = false) :
  Mem B O (ρ.upd j L) ((sg.bX (ms.contains ·) j).put j b') w' := by
 have hget : ∀ i,i ≠ j -> ((sg.bX (ms.contains ·) j).put j b').get i = if ms.contains i = true then none else (sg.get i).map (·.bX (ms.contains ·) j) := fun i hi => by
  rw [Sig.bg,if_neg (Ne.symm hi),Sig.zG]
 have hgetj : ((sg.bX (ms.contains ·) j).put j b').get j = some b' := by rw [Sig.bg,if_pos rfl]
 have hback : ∀ i b,i ≠ j -> ((sg.bX (ms.contains ·) j).put j b').get i = some b -> ms.contains i = false /\ ∃ b0,sg.get i = some b0 /\ b = b0.bX (ms.contains ·) j := by
  intro i b hi hg
  rw [hget i hi] at hg
  split at hg
  ·cases hg
  ·rename_i hc
   obtain ⟨b0,h1,h2⟩ := Option.map_eq_some_iff.1 hg
   exact ⟨by simpa using hc,b0,h1,h2.symm⟩
 have hown : ∀ i g,aP (ρ.upd j L) ((sg.bX (ms.contains ·) j).put j b') i g -> (i = j /\ L.own g) ∨ (i ≠ j /\ ms.contains i = false /\ aP ρ sg i g) := by
  intro i g ho
  by_cases hi : i = j
  ·subst hi
   have := ho.own
   rw [al.ba] at this
   exact .inl ⟨rfl,this⟩
  ·obtain ⟨b,h1,h2,h3⟩ := aE.1 ho
   obtain ⟨h4,b0,h5,rfl⟩ := hback i b hi h1
   rw [al.cT ρ L hi] at h3
   refine .inr ⟨hi,h4,aE.2 ⟨b0,h5,?_,?_⟩⟩
   ·rintro e t l q rfl
    exact h2 e t l q rfl
   ·cases b0 with
    | box ty cs =>
     rcases h3 with ⟨_,_,_,h3⟩ | ⟨_,_,_,_,h3,_⟩ | ⟨_,_,_,h3,_⟩
     ·exact .inl ⟨_,_,rfl,h3⟩
     ·cases h3
     ·cases h3
    | arr e t l q => exact h3
    | nst e t l => exact h3
    | fro e t l q => exact absurd rfl (h2 e t l q)
 have hokw : ∀ q k,ρ.ok q k -> w'.heap[k]? = w.heap[k]? := fun q k hq => hw k (h.okb q k hq) (h.oko q k hq j)
 have hLo : ∀ g i,i ≠ j -> ms.contains i = false -> L.own g -> aP ρ sg i g -> False := by
  intro g i hi hmi hg ho
  rcases hL g hg with h1 | h1 | ⟨m,hm,h1⟩
  ·exact absurd (h.lt ho) (by omega)
  ·exact hi (h.inj i j g ho h1)
  ·have := h.inj i m g ho h1
   subst this
   rw [List.contains_iff_mem.2 hm] at hmi
   cases hmi
 refine ⟨fun i b hi => ?_,fun i k g hi hk => ?_,fun i g hi => ?_,fun q g hq => Nat.lt_of_lt_of_le (h.okb q g hq) hs,fun q g hq i hi => ?_,h.okm,h.okx,h.oky,fun i b d hi hd => ?_⟩
 ·by_cases hij : i = j
  ·subst hij; rw [hgetj] at hi; cases hi; exact hb
  ·obtain ⟨h4,b0,h5,rfl⟩ := hback i b hij hi
   have hr := h.blk i b0 h5
   have hsame : ∀ g,(ρ.loc i).own g -> (∀ e t l q,b0 ≠ .fro e t l q) -> w'.heap[g]? = w.heap[g]? := fun g hg hf => by
    have ho := cD h5 hr hf hg
    exact hw g (h.lt ho) (fun hj => hij (h.inj i j g ho hj))
   cases b0 with
   | box ty cs =>
    obtain ⟨g,vs,h6,h7,h8⟩ := hr
    exact ⟨g,vs,(al.cT ρ L hij).trans h6,(hsame g (by rw [h6]; rfl) (by simp)).trans h7,hK.cells (fun hu => hz i _ h5 hu) h8⟩
   | _ => exact cd (U := fun d => d ≠ j) ⟨fun d hd => al.cT ρ L hd,fun _ _ h => h,hokw⟩ hij (fun d hd => by cases hd) hsame hr
 ·rcases hown i g hi with ⟨rfl,h1⟩ | ⟨h1,h2,h3⟩ <;> rcases hown k g hk with ⟨rfl,h4⟩ | ⟨h4,h5,h6⟩
  ·rfl
  ·exact (hLo g k h4 h5 h1 h6).elim
  ·exact (hLo g i h1 h2 h4 h3).elim
  ·exact h.inj i k g h3 h6
 ·rcases hown i g hi with ⟨rfl,h1⟩ | ⟨h1,h2,h3⟩
  ·rcases hL g h1 with h5 | h5 | ⟨m,_,h5⟩
   ·exact .inl (Nat.le_trans hB h5)
   ·exact h.old _ g h5
   ·exact h.old _ g h5
  ·exact h.old i g h3
 ·rcases hown i g hi with ⟨rfl,h1⟩ | ⟨h1,h2,h3⟩
  ·rcases hL g h1 with h5 | h5 | ⟨m,_,h5⟩
   ·exact absurd (h.okb q g hq) (by omega)
   ·exact h.oko q g hq _ h5
   ·exact h.oko q g hq _ h5
  ·exact h.oko q g hq i h3
 ·by_cases hij : i = j
  ·subst hij; rw [hgetj] at hi; cases hi; rw [hu d] at hd; cases hd
  ·obtain ⟨h4,b0,h5,rfl⟩ := hback i b hij hi
   obtain ⟨h6,h7⟩ := HN hd
   by_cases hdj : d = j
   ·subst hdj; rw [hgetj]; rfl
   ·rw [hget d hdj,if_neg (by simpa using h7),Option.isSome_map]
    exact h.dom i b0 d h5 h6
theorem Sim.bX (h : Sim P B O w0 ρ st a w) {j : Nat} {ms : List Nat} {b' : Blk} {L : Loc} {Z : Prop} (hM : Mem B O (ρ.upd j L) ((st.sg.bX (ms.contains ·) j).put j b') w') (hk : da B O w w') (hK : tU ρ (ρ.upd j L) w w' (ms.contains ·) j Z)
  (hz : ∀ (i : Nat) (v : AV),st.sl[i]? = some v -> v.ae j = true -> Z) (hj : j < PIN) : Sim P B O w0 (ρ.upd j L) (st.bX ms j b') a w' := by
 refine ⟨hM,by simp [St.bX,h.len],fun i v hi => ?_,fun i v d hi hd => ?_,h.defers,h.fr.trans hk,Nat.le_trans h.base hk.size,fun i hi => (al.cT ρ L (by omega)).trans (h.pin i hi),h.glo⟩
 ·simp only [St.bX,List.getElem?_map,Option.map_eq_some_iff] at hi
  obtain ⟨v',h1,rfl⟩ := hi
  obtain ⟨u,h2,h3⟩ := h.sl i v' h1
  exact ⟨u,h2,hK.rav (hz i v' h1) h3⟩
 ·simp only [St.bX,List.getElem?_map,Option.map_eq_some_iff] at hi
  obtain ⟨v',h1,rfl⟩ := hi
  obtain ⟨h2,h3⟩ := L9 hd
  show (Sig.get d ((st.sg.bX (ms.contains ·) j).put j b')).isSome = true
  rw [Sig.bg]
  split
  ·rfl
  ·rw [Sig.zG,if_neg (by simpa using h3),Option.isSome_map]
   exact h.dom i v' d h1 h2
def gl : List Value -> Nat -> List Value -> List Value × Nat × List Value
 | [],c,vs => ([],c,vs)
 | e :: es,c,[] => (e :: es,c,[])
 | e :: es,0,v :: vs => (v :: (gl es 0 vs).1,(gl es 0 vs).2)
 | e :: es,c + 1,v :: vs => (e :: (gl es c (v :: vs)).1,(gl es c (v :: vs)).2)
theorem HB : ∀ (es : List Value) (c : Nat),gl es c [] = (es,c,[])
 | [],_ => rfl
 | _ :: _,_ => rfl
theorem kp : ∀ (x y : List Value) (c : Nat) (vs : List Value),gl (x ++ y) c vs = ((gl x c vs).1 ++ (gl y (gl x c vs).2.1 (gl x c vs).2.2).1,(gl y (gl x c vs).2.1 (gl x c vs).2.2).2)
 | [],y,c,vs => rfl
 | e :: x,y,c,[] => by simp only [HB]
 | e :: x,y,0,v :: vs => by simp only [List.cons_append,gl,kp x y 0 vs]
 | e :: x,y,c + 1,v :: vs => by simp only [List.cons_append,gl,kp x y c (v :: vs)]
theorem wU : ∀ (es : List Value) (c : Nat) (vs : List Value),c + vs.length <= es.length -> (gl es c vs).1 = es.take c ++ vs ++ es.drop (c + vs.length)
 | [],c,vs,h => by
  have h1 : c = 0 := by simp only [List.length_nil] at h; omega
  have h2 : vs = [] := List.eq_nil_of_length_eq_zero (by simp only [List.length_nil] at h; omega)
  subst h1; subst h2
  rfl
 | e :: es,c,[],h => by simp [gl]
 | e :: es,0,v :: vs,h => by
  have := wU es 0 vs (by simp only [List.length_cons] at h; omega)
  simp only [Nat.zero_add,List.take_zero,List.nil_append] at this
  simp [gl,this]
 | e :: es,c + 1,v :: vs,h => by
  have := wU es c (v :: vs) (by simp only [List.length_cons] at h ⊢; omega)
  simp only [gl,this,List.length_cons,List.take_succ_cons,List.cons_append]
  rw [show c + 1 + (vs.length + 1) = (c + (vs.length + 1)) + 1 by omega,List.drop_succ_cons]
theorem lS : ∀ {t : Ty} {x : t.T} {c : Nat} {cs : List Cell} {y : t.T} {c' : Nat} {rs : List Cell} {es : List Value} {hs : List (Value × Option Nat)} {vs : List Value},t.iv x c cs = some (y,c',rs) -> Rn w t x es hs -> aF (rc ρ w) cs vs ->
  (gl es c vs).2.1 = c' /\ aF (rc ρ w) rs (gl es c vs).2.2 /\ Rn w t y (gl es c vs).1 hs
 | .int k,x,c,cs,y,c',rs,es,hs,vs,h,hr,hc => by
  obtain ⟨rfl,rfl⟩ := hr
  cases hc with
  | nil => simp only [Ty.iv,Option.some.injEq,Prod.mk.injEq] at h; obtain ⟨rfl,rfl,rfl⟩ := h; exact ⟨rfl,.nil,rfl,rfl⟩
  | @cons d v r us h0 h1 =>
   cases c with
   | zero =>
    cases d <;> simp only [Ty.iv] at h <;> try (cases h; done)
    split at h
    ·rename_i hk
     subst hk
     simp only [Option.some.injEq,Prod.mk.injEq] at h
     obtain ⟨rfl,rfl,rfl⟩ := h
     exact ⟨rfl,h1,by rw [show v = _ from h0]; rfl,rfl⟩
    ·cases h
   | succ c =>
    simp only [Ty.iv,Option.some.injEq,Prod.mk.injEq] at h
    obtain ⟨rfl,rfl,rfl⟩ := h
    exact ⟨rfl,.cons h0 h1,rfl,rfl⟩
 | .bool,x,c,cs,y,c',rs,es,hs,vs,h,hr,hc => by
  obtain ⟨rfl,rfl⟩ := hr
  cases hc with
  | nil => simp only [Ty.iv,Option.some.injEq,Prod.mk.injEq] at h; obtain ⟨rfl,rfl,rfl⟩ := h; exact ⟨rfl,.nil,rfl,rfl⟩
  | @cons d v r us h0 h1 =>
   cases c with
   | zero =>
    cases d <;> simp only [Ty.iv] at h <;> try (cases h; done)
    simp only [Option.some.injEq,Prod.mk.injEq] at h
    obtain ⟨rfl,rfl,rfl⟩ := h
    exact ⟨rfl,h1,by rw [show v = _ from h0]; rfl,rfl⟩
   | succ c =>
    simp only [Ty.iv,Option.some.injEq,Prod.mk.injEq] at h
    obtain ⟨rfl,rfl,rfl⟩ := h
    exact ⟨rfl,.cons h0 h1,rfl,rfl⟩
 | .str,x,c,cs,y,c',rs,es,hs,vs,h,hr,hc => by
  obtain ⟨rfl,rfl⟩ := hr
  cases hc with
  | nil => simp only [Ty.iv,Option.some.injEq,Prod.mk.injEq] at h; obtain ⟨rfl,rfl,rfl⟩ := h; exact ⟨rfl,.nil,rfl,rfl⟩
  | @cons d v r us h0 h1 =>
   cases c with
   | zero =>
    cases d <;> simp only [Ty.iv] at h <;> try (cases h; done)
    simp only [Option.some.injEq,Prod.mk.injEq] at h
    obtain ⟨rfl,rfl,rfl⟩ := h
    exact ⟨rfl,h1,by rw [show v = _ from h0]; rfl,rfl⟩
   | succ c =>
    simp only [Ty.iv,Option.some.injEq,Prod.mk.injEq] at h
    obtain ⟨rfl,rfl,rfl⟩ := h
    exact ⟨rfl,.cons h0 h1,rfl,rfl⟩
 | .nul f,x,c,cs,y,c',rs,es,hs,vs,h,hr,hc => by
  obtain ⟨rfl,rfl⟩ := hr
  cases hc with
  | nil => simp only [Ty.iv,Option.some.injEq,Prod.mk.injEq] at h; obtain ⟨_,rfl,rfl⟩ := h; exact ⟨rfl,.nil,rfl,rfl⟩
  | @cons d v r us h0 h1 =>
   cases c with
   | zero => simp only [Ty.iv] at h; cases h
   | succ c =>
    simp only [Ty.iv,Option.some.injEq,Prod.mk.injEq] at h
    obtain ⟨_,rfl,rfl⟩ := h
    exact ⟨rfl,.cons h0 h1,rfl,rfl⟩
 | .sl e t,x,c,cs,y,c',rs,es,hs,vs,h,hr,hc => by
  have hr0 := hr
  obtain ⟨_,v0,g,xs,rfl,rfl,_,_⟩ := hr
  cases hc with
  | nil => simp only [Ty.iv,Option.some.injEq,Prod.mk.injEq] at h; obtain ⟨rfl,rfl,rfl⟩ := h; exact ⟨rfl,.nil,hr0⟩
  | @cons d v r us h0 h1 =>
   cases c with
   | zero => simp only [Ty.iv] at h; cases h
   | succ c =>
    simp only [Ty.iv,Option.some.injEq,Prod.mk.injEq] at h
    obtain ⟨rfl,rfl,rfl⟩ := h
    exact ⟨rfl,.cons h0 h1,hr0⟩
 | .pair p q,x,c,cs,y,c',rs,es,hs,vs,h,hr,hc => by
  obtain ⟨c0,c1,h0,h1,rfl,rfl,h2,h3⟩ := hr
  simp only [Ty.iv] at h
  split at h
  ·rename_i x1 c2 r1 ha
   split at h
   ·rename_i y1 c3 r2 hb
    simp only [Option.some.injEq,Prod.mk.injEq] at h
    obtain ⟨rfl,rfl,rfl⟩ := h
    obtain ⟨e1,e2,e3⟩ := lS ha h2 hc
    subst e1
    obtain ⟨e4,e5,e6⟩ := lS hb h3 e2
    rw [kp]
    exact ⟨e4,e5,_,_,h0,h1,rfl,rfl,e3,e6⟩
   ·cases h
  ·cases h
theorem nodup_iff : ∀ {l : List Nat},nodup l = true -> l.Nodup
 | [],_ => List.nodup_nil
 | a :: l,h => by
  simp only [nodup,Bool.and_eq_true,Bool.not_eq_true'] at h
  refine List.nodup_cons.2 ⟨fun hm => ?_,nodup_iff h.2⟩
  have h1 := h.1
  rw [List.contains_iff_mem.2 hm] at h1
  cases h1
theorem gr (h : Mem B O ρ sg w) : ∀ {t : Ty} {cs : List Cell} {y : t.T} {rest : List Cell} {ms : List Nat} {vs : List Value},t.takeN sg cs = some (y,rest,ms) -> aF (rc ρ w) cs vs ->
  ∃ v0 v1 hs,vs = v0 ++ v1 /\ aF (rc ρ w) rest v1 /\ Rn w t y v0 hs /\ (∀ k ∈ hs.filterMap (·.2),∃ m ∈ ms,aP ρ sg m k) /\ (ms.Nodup -> (hs.filterMap (·.2)).Nodup) /\ ∀ m ∈ ms,∃ e t l b,sg.get m = some (.arr e t l b)
 | .int k,cs,y,rest,ms,vs,ht,hr => by
  cases hr with
  | nil => simp [Ty.takeN] at ht
  | @cons c v r us h0 h1 =>
   cases c <;> simp only [Ty.takeN] at ht <;> try (cases ht; done)
   split at ht
   ·rename_i hk
    subst hk
    simp only [Option.some.injEq,Prod.mk.injEq] at ht
    obtain ⟨rfl,rfl,rfl⟩ := ht
    exact ⟨[v],us,[],rfl,h1,⟨by rw [show v = _ from h0],rfl⟩,nofun,fun _ => List.nodup_nil,nofun⟩
   ·cases ht
 | .bool,cs,y,rest,ms,vs,ht,hr => by
  cases hr with
  | nil => simp [Ty.takeN] at ht
  | @cons c v r us h0 h1 =>
   cases c <;> simp only [Ty.takeN] at ht <;> try (cases ht; done)
   simp only [Option.some.injEq,Prod.mk.injEq] at ht
   obtain ⟨rfl,rfl,rfl⟩ := ht
   exact ⟨[v],us,[],rfl,h1,⟨by rw [show v = _ from h0],rfl⟩,nofun,fun _ => List.nodup_nil,nofun⟩
 | .str,cs,y,rest,ms,vs,ht,hr => by
  cases hr with
  | nil => simp [Ty.takeN] at ht
  | @cons c v r us h0 h1 =>
   cases c <;> simp only [Ty.takeN] at ht <;> try (cases ht; done)
   simp only [Option.some.injEq,Prod.mk.injEq] at ht
   obtain ⟨rfl,rfl,rfl⟩ := ht
   exact ⟨[v],us,[],rfl,h1,⟨by rw [show v = _ from h0],rfl⟩,nofun,fun _ => List.nodup_nil,nofun⟩
 | .nul f,cs,y,rest,ms,vs,ht,hr => by
  cases hr with
  | nil => simp [Ty.takeN] at ht
  | @cons c v r us h0 h1 =>
   cases c <;> simp only [Ty.takeN] at ht <;> try (cases ht; done)
   split at ht
   ·rename_i hk
    subst hk
    simp only [Option.some.injEq,Prod.mk.injEq] at ht
    obtain ⟨_,rfl,rfl⟩ := ht
    exact ⟨[v],us,[],rfl,h1,⟨by rw [show v = _ from h0],rfl⟩,nofun,fun _ => List.nodup_nil,nofun⟩
   ·cases ht
 | .sl e t,cs,y,rest,ms,vs,ht,hr => by
  cases hr with
  | nil => simp [Ty.takeN] at ht
  | @cons c v r us h0 h1 =>
   have empty : ∀ A,v = .slice A 0 0 -> t.flat = true -> Rn w (.sl e t) [] [v] [(v,none)] := fun A hv hf => ⟨hf,v,none,[],rfl,rfl,⟨by simp,fun j p hp => by simp at hp⟩,rfl,A,hv⟩
   cases c <;> simp only [Ty.takeN] at ht <;> try (cases ht; done)
   case nil =>
    rw [aq] at ht
    split at ht
    ·rename_i hf
     simp only [Option.some.injEq,Prod.mk.injEq] at ht
     obtain ⟨rfl,rfl,rfl⟩ := ht
     exact ⟨[v],us,_,rfl,h1,empty none h0 hf,nofun,fun _ => List.nodup_nil,nofun⟩
    ·cases ht
   case cap0 =>
    rw [aq] at ht
    split at ht
    ·rename_i hf
     simp only [Option.some.injEq,Prod.mk.injEq] at ht
     obtain ⟨rfl,rfl,rfl⟩ := ht
     obtain ⟨A,h0⟩ := h0
     exact ⟨[v],us,_,rfl,h1,empty A h0 hf,nofun,fun _ => List.nodup_nil,nofun⟩
    ·cases ht
   case sl j =>
    split at ht
    ·rename_i e' t' l' b hj
     split at ht
     ·rename_i hτ
      subst hτ
      rw [aq] at ht
      split at ht
      ·rename_i hb
       simp only [Bool.and_eq_true,beq_iff_eq] at hb
       obtain ⟨rfl,hf,_⟩ := hb
       simp only [Option.some.injEq,Prod.mk.injEq] at ht
       obtain ⟨rfl,rfl,rfl⟩ := ht
       obtain ⟨v1,g,xs,h2,h3,h4⟩ := h.blk j _ hj
       obtain ⟨g',sz,h5⟩ := h0
       rw [h2] at h5; cases h5
       refine ⟨[v],us,[(v,g)],rfl,h1,⟨hf,v,g,xs,rfl,rfl,⟨h3.1,fun i p hp => iL hf (h3.2 i p hp)⟩,?_⟩,fun k hk => ⟨j,by simp,?_⟩,fun _ => ?_,fun m hm => ?_⟩
       ·cases g with
        | none => obtain ⟨rfl,A,hA⟩ := h4; exact ⟨rfl,A,hA⟩
        | some g => exact h4
       ·have hk : g = some k := by
         cases g with
         | none => cases hk
         | some g => simp only [List.filterMap_cons,List.filterMap_nil,List.mem_singleton] at hk; rw [hk]
        exact aE.2 ⟨_,hj,by simp,.inr (.inl ⟨_,_,_,_,rfl,v,_,by rw [h2,hk]⟩)⟩
       ·cases g <;> simp
       ·rw [List.mem_singleton.1 hm]; exact ⟨_,_,_,_,hj⟩
      ·cases ht
     ·cases ht
    ·cases ht
 | .pair p q,cs,y,rest,ms,vs,ht,hr => by
  simp only [Ty.takeN] at ht
  split at ht
  ·rename_i x1 r1 m1 ha
   split at ht
   ·rename_i y1 r2 m2 hb
    simp only [Option.some.injEq,Prod.mk.injEq] at ht
    obtain ⟨rfl,rfl,rfl⟩ := ht
    obtain ⟨v0,v1,h0,rfl,a1,a2,a3,a4,a5⟩ := gr h ha hr
    obtain ⟨v2,v3,h1,rfl,b1,b2,b3,b4,b5⟩ := gr h hb a1
    refine ⟨v0 ++ v2,v3,h0 ++ h1,by rw [List.append_assoc],b1,⟨_,_,h0,h1,rfl,rfl,a2,b2⟩,fun k hk => ?_,fun hn => ?_,fun m hm => ?_⟩
    ·rw [List.filterMap_append] at hk
     rcases List.mem_append.1 hk with hk | hk
     ·obtain ⟨m,hm,ho⟩ := a3 k hk; exact ⟨m,List.mem_append_left _ hm,ho⟩
     ·obtain ⟨m,hm,ho⟩ := b3 k hk; exact ⟨m,List.mem_append_right _ hm,ho⟩
    ·rw [List.nodup_append] at hn
     rw [List.filterMap_append,List.nodup_append]
     refine ⟨a4 hn.1,b4 hn.2.1,fun x hx y hy hxy => ?_⟩
     subst hxy
     obtain ⟨m,hm,ho⟩ := a3 x hx
     obtain ⟨m',hm',ho'⟩ := b3 x hy
     exact hn.2.2 m hm m' hm' (h.inj m m' x ho ho')
    ·rcases List.mem_append.1 hm with hm | hm
     ·exact a5 m hm
     ·exact b5 m hm
   ·cases ht
  ·cases ht
theorem sc {e : TypeId} {τ : Ty} {l : List τ.T} {V : Value} {g2 : Nat} {hd : List (List (Value × Option Nat))} {xs : List Value} {i c n : Nat} {y : τ.T} {vs : List Value} {hs' : List (Value × Option Nat)} (hN : nk w e τ l V (some g2) hd xs) (hi : i < l.length) (hvl : vs.length = n) (hle : c + n <= τ.sz)
  (hR : Rn w τ y (((xs.drop (i * τ.sz)).take τ.sz).take c ++ vs ++ ((xs.drop (i * τ.sz)).take τ.sz).drop (c + n)) hs') (hnd : (ct (some g2) (hd.set i hs')).Nodup) :
  (∃ xs',nk (w.setCells g2 (i * τ.sz + c) vs) e τ (l.set i y) V (some g2) (hd.set i hs') xs') /\ ∃ cur,w.heap[g2]? = some (.cells (List.toArray cur) e (0,0)) /\ i * τ.sz + c + vs.length <= cur.length /\ ∃ c',V = .slice (some ⟨g2,0,none⟩) l.length c' := by
 obtain ⟨hown,hgb⟩ := hN.own
 obtain ⟨hxl,hown2⟩ := hown
 rcases hown2 with ⟨h7,_⟩ | ⟨g3,cap,cur,rfl,_,hcur,hnc,hcm,hcs,htake⟩
 ·rw [h7] at hgb; cases hgb
 ·have : g3 = g2 := by simpa [Value.ownBlock] using hgb
  subst this
  have hisz : i * τ.sz + τ.sz <= l.length * τ.sz := by rw [← Nat.succ_mul]; exact Nat.mul_le_mul_right _ hi
  have hcl : cur.toList.length = cap * τ.sz := by simpa using hcs
  have hcurl : l.length * τ.sz <= cur.toList.length := by rw [hcl]; exact Nat.mul_le_mul_right _ hnc
  have hcur' : w.heap[g3]? = some (.cells cur.toList.toArray e (0,0)) := by simpa using hcur
  have hroom : i * τ.sz + c + vs.length <= cur.toList.length := by omega
  have hsame : ∀ k',k' ≠ g3 -> (w.setCells g3 (i * τ.sz + c) vs).heap[k']? = w.heap[k']? := fun k' hk' => bz g3 vs _ w k' hk'
  have hnew := du g3 e vs (i * τ.sz + c) w cur.toList hcur' hroom
  have hsl : (bG cur.toList (i * τ.sz + c) vs).length = cur.toList.length := by
   unfold bG
   simp only [List.length_append,List.length_take,List.length_drop]
   omega
  have hkid : ∀ (i' : Nat) (hs : List (Value × Option Nat)),(hd.set i hs')[i']? = some hs -> ∀ k ∈ hs.filterMap (·.2),(w.setCells g3 (i * τ.sz + c) vs).heap[k]? = w.heap[k]? := by
   intro i' hs hh k hk
   refine hsame k fun he => ?_
   subst he
   unfold ct at hnd
   simp only [Option.toList_some,List.singleton_append,List.nodup_cons] at hnd
   exact hnd.1 (cF hh hk)
  refine ⟨⟨(bG cur.toList (i * τ.sz + c) vs).take (l.length * τ.sz),?_,?_,fun i' p hp => ?_,⟨⟨?_,.inr ⟨g3,cap,_,by rw [List.length_set],Nat.zero_le _,hnew,?_,hcm,?_,?_⟩⟩,hgb⟩,hnd⟩,cur.toList,hcur',hroom,cap,rfl⟩
  ·rw [taken (by omega),List.length_set]
  ·rw [List.length_set,List.length_set]; exact hN.hlen
  ·have hi' : i' < l.length := by have := (List.getElem?_eq_some_iff.1 hp).1; simpa using this
   have hi'sz : i' * τ.sz + τ.sz <= l.length * τ.sz := by rw [← Nat.succ_mul]; exact Nat.mul_le_mul_right _ hi'
   by_cases hii : i = i'
   ·subst hii
    rw [List.getElem?_set_self hi] at hp
    cases hp
    have hg : (hd.set i hs')[i]? = some hs' := List.getElem?_set_self (by rw [hN.hlen]; exact hi)
    refine ⟨hs',hg,?_⟩
    have : (((bG cur.toList (i * τ.sz + c) vs).take (l.length * τ.sz)).drop (i * τ.sz)).take τ.sz = (((xs.drop (i * τ.sz)).take τ.sz).take c ++ vs ++ ((xs.drop (i * τ.sz)).take τ.sz).drop (c + n)) :=
     u7 hcurl htake hvl hle hisz
    rw [this]
    exact hR.step (hkid i hs' hg)
   ·rw [List.getElem?_set_ne hii] at hp
    obtain ⟨hs,h1,h2⟩ := hN.el i' p hp
    have hg : (hd.set i hs')[i']? = some hs := by rw [List.getElem?_set_ne hii]; exact h1
    refine ⟨hs,hg,?_⟩
    have : (((bG cur.toList (i * τ.sz + c) vs).take (l.length * τ.sz)).drop (i' * τ.sz)).take τ.sz = (xs.drop (i' * τ.sz)).take τ.sz := by
     refine tI hcurl htake hvl hle hisz hi'sz ?_
     rcases Nat.lt_or_gt_of_ne hii with h | h
     ·right; rw [← Nat.succ_mul]; exact Nat.mul_le_mul_right _ h
     ·left; rw [← Nat.succ_mul]; exact Nat.mul_le_mul_right _ h
    rw [this]
    exact h2.step (hkid i' hs hg)
  ·rw [taken (by omega),List.length_set]
  ·rw [List.length_set]; exact hnc
  ·simp [hsl,hcs]
  ·rw [List.length_set]
theorem z9 {hd : List (List (Value × Option Nat))} {i : Nat} {hs : List (Value × Option Nat)} (hi : i < hd.length) : kids (hd.set i hs) = kids (hd.take i) ++ (hs.filterMap (·.2) ++ kids (hd.drop (i + 1))) := by
 unfold kids
 rw [List.set_eq_take_append_cons_drop,if_pos hi,List.flatten_append,List.flatten_cons,List.filterMap_append,List.filterMap_append]
theorem Fh {α : Type} {l : List α} {i : Nat} {x : α} (h : l[i]? = some x) : l.set i x = l := by
 obtain ⟨h1,h2⟩ := List.getElem?_eq_some_iff.1 h
 rw [← h2]
 exact List.set_getElem_self h1
theorem Hp {g : Option Nat} {hd : List (List (Value × Option Nat))} {i : Nat} {hs hs' : List (Value × Option Nat)} (hi : hd[i]? = some hs) (hn : (ct g hd).Nodup) (hn' : (hs'.filterMap (·.2)).Nodup) (hd' : ∀ k ∈ hs'.filterMap (·.2),k ∉ ct g hd) : (ct g (hd.set i hs')).Nodup := by
 have hlt := (List.getElem?_eq_some_iff.1 hi).1
 have e0 : ct g hd = g.toList ++ (kids (hd.take i) ++ (hs.filterMap (·.2) ++ kids (hd.drop (i + 1)))) := by
  have := z9 (hd := hd) (i := i) (hs := hs) hlt
  rw [Fh hi] at this
  unfold ct
  rw [this]
 have e1 : ct g (hd.set i hs') = g.toList ++ (kids (hd.take i) ++ (hs'.filterMap (·.2) ++ kids (hd.drop (i + 1)))) := by
  unfold ct
  rw [z9 hlt]
 rw [e0] at hn hd'
 rw [e1]
 rw [List.nodup_append,List.nodup_append,List.nodup_append] at hn ⊢
 obtain ⟨n1,⟨n2,⟨n3,n4,n5⟩,n6⟩,n7⟩ := hn
 refine ⟨n1,⟨n2,⟨hn',n4,fun x hx y hy he => ?_⟩,fun x hx y hy he => ?_⟩,fun x hx y hy he => ?_⟩
 ·subst he
  exact hd' x hx (by simp [hy])
 ·subst he
  rcases List.mem_append.1 hy with hy | hy
  ·exact hd' x hy (by simp [hx])
  ·exact n6 x hx x (List.mem_append_right _ hy) rfl
 ·subst he
  rcases List.mem_append.1 hy with hy | hy
  ·exact n7 x hx x (List.mem_append_left _ hy) rfl
  ·rcases List.mem_append.1 hy with hy | hy
   ·exact hd' x hy (by simp [hx])
   ·exact n7 x hx x (List.mem_append_right _ (List.mem_append_right _ hy)) rfl
theorem tV (h : Sim P B O w0 ρ st a w) {t : TypeId} {ti : TI} (ht : TI.Ok P t ti) {j i c : Nat} {cs : List Cell} {vs : List Value} {u v : Value} (hp : rc ρ w (.np j i c) u) (hv : v.cells = vs.toArray) (hr : aF (rc ρ w) cs vs) (h1 : ∀ u ∈ vs,u.oneCell' = true) (hl : cs.length = ti.sz)
  {k : St -> Option R} (hk : kP st ti.sz j i c cs k = some r) :
  ∃ ρ' st' w' g o',k st' = some r /\ u = .pointer (some ⟨g,o',none⟩) /\ (storeVar t ⟨g,o',none⟩ v).run P w = .ok () w' /\ Sim P B O w0 ρ' st' a w' := by
 unfold kP at hk
 split at hk
 ·rename_i e τ l hj
  split at hk
  ·rename_i x hx
   rw [aq] at hk
   split at hk
   ·rename_i hle
    simp only [Nat.ble_eq] at hle
    obtain ⟨V,g,hd,xs,h2,hN⟩ := h.mem.blk j _ hj
    obtain ⟨A,m,cp,g',sz,hd',h3,rfl⟩ := hp
    rw [h2] at h3; cases h3
    have hil : i < l.length := (List.getElem?_eq_some_iff.1 hx).1
    obtain ⟨g2,cp',rfl,h4⟩ := hN.own.form (by omega)
    cases h4
    have hvl : vs.length = ti.sz := by rw [← hr.length]; exact hl
    obtain ⟨hs,hh,hR⟩ := hN.el i x hx
    have hog : aP ρ st.sg j g2 := aE.2 ⟨_,hj,by simp,.inr (.inr ⟨e,τ,l,rfl,_,_,_,_,h2,by simp [ct]⟩)⟩
    have hsame : ∀ k',k' ≠ g2 -> (w.setCells g2 (i * τ.sz + c) vs).heap[k']? = w.heap[k']? := fun k' hk' => bz g2 vs _ w k' hk'
    have hkp := dU (h.mem.old j g2 hog) vs (i * τ.sz + c) w
    have hokh : ∀ q k',ρ.ok q k' -> (w.setCells g2 (i * τ.sz + c) vs).heap[k']? = w.heap[k']? := fun q k' hq => hsame k' (fun e => h.mem.oko q k' hq j (e ▸ hog))
    split at hk
    ·rename_i y c' hset
     obtain ⟨_,h5,h6⟩ := lS hset hR hr
     have hel := hR.len
     rw [wU _ _ _ (by rw [hvl,hel]; exact hle),hvl] at h6
     have hnd := hN.nd
     have hset' := Fh hh
     obtain ⟨⟨xs',hN'⟩,cur,hcur,hroom,c3,hV⟩ := sc (c := c) (n := ti.sz) hN hil hvl hle h6 (by rw [hset']; exact hnd)
     rw [hset'] at hN'
     refine ⟨ρ,_,_,g2,i * τ.sz + c,hk,by rw [fV],kR ht hv hvl hcur hroom h1,?_⟩
     refine h.renew ?_ hkp (fun _ _ h => h) hokh (fun _ _ _ _ _ => rfl) (fun _ _ => rfl)
     refine h.mem.renew h.base rfl (fun _ _ => rfl) (fun _ _ _ _ _ _ => rfl) (fun k' hk' hn => hsame k' (fun e => hn (e ▸ hog))) (by rw [cA]; exact Nat.le_refl _) ⟨_,_,hd,xs',h2,hN'⟩ (fun g' hg' => ?_) (fun d hd => by cases hd)
     exact .inr (cD hj (h.mem.blk j _ hj) (by simp) hg')
    ·split at hk
     ·rename_i y ms htk _
      rw [aq] at hk
      split at hk
      ·rename_i hc
       simp only [Bool.and_eq_true,beq_iff_eq,Nat.blt_eq] at hc
       obtain ⟨hn,hms,hjp⟩ := hc
       obtain ⟨v0,v1,hs',hvs,h5,h6,h7,h8,h9⟩ := gr h.mem htk hr
       cases h5
       rw [List.append_nil] at hvs
       subst hvs
       have hms' := nodup_iff hms
       have hnj : ms.contains j = false := by
        cases hcj : ms.contains j with
        | false => rfl
        | true =>
         obtain ⟨_,_,_,_,h10⟩ := h9 j (List.contains_iff_mem.1 hcj)
         rw [hj] at h10; cases h10
       have hnot : ∀ k ∈ hs'.filterMap (·.2),k ∉ ct (some g2) hd := by
        intro k hk hk'
        obtain ⟨m,hm,ho⟩ := h7 k hk
        have := h.mem.inj m j k ho (cD hj (h.mem.blk j _ hj) (by simp) (by rw [h2]; exact hk'))
        subst this
        rw [List.contains_iff_mem.2 hm] at hnj
        cases hnj
       have hnd := Hp hh hN.nd (h8 hms') hnot
       have hel := hR.len
       have hfull : ((xs.drop (i * τ.sz)).take τ.sz).take 0 ++ vs ++ ((xs.drop (i * τ.sz)).take τ.sz).drop (0 + ti.sz) = vs := by
        rw [List.take_zero,List.nil_append,Nat.zero_add,List.drop_of_length_le (by rw [hel,hn]; exact Nat.le_refl _),List.append_nil]
       obtain ⟨⟨xs',hN'⟩,cur,hcur,hroom,c3,hV⟩ := sc (c := 0) (n := ti.sz) hN hil hvl hle (by rw [hfull]; exact h6) hnd
       have hK := FE (w' := w.setCells g2 (i * τ.sz + 0) vs) (p := (ms.contains ·)) (hd' := hd.set i hs') h2 hokh
       refine ⟨ρ.upd j (.nst (.slice (some ⟨g2,0,none⟩) l.length cp) (some g2) τ.sz (hd.set i hs')),_,_,g2,i * τ.sz + 0,hk,by rw [fV],kR ht hv hvl hcur hroom h1,?_⟩
       refine h.bX ?_ hkp hK (fun _ _ _ _ => trivial) hjp
       refine h.mem.bX h.base hK (fun _ _ _ _ => trivial) (fun k' hk' hn => hsame k' (fun e => hn (e ▸ hog))) (by rw [cA]; exact Nat.le_refl _) ⟨_,_,_,xs',al.ba _ _ _,hN'⟩ (fun g' hg' => ?_) hnj (fun d => rfl)
       rcases rA.1 hg' with hg' | ⟨i',hs2,h10,h11⟩
       ·cases hg'; exact .inr (.inl hog)
       ·by_cases hii : i = i'
        ·subst hii
         rw [List.getElem?_set_self (by rw [hN.hlen]; exact hil)] at h10
         cases h10
         exact .inr (.inr (h7 g' h11))
        ·rw [List.getElem?_set_ne hii] at h10
         exact .inr (.inl (cD hj (h.mem.blk j _ hj) (by simp) (by rw [h2]; exact rA.2 (.inr ⟨i',hs2,h10,h11⟩))))
      ·cases hk
     ·cases hk
   ·cases hk
  ·cases hk
 ·cases hk
theorem p5 (hd hd' : List (List (Value × Option Nat))) : kids (hd ++ hd') = kids hd ++ kids hd' := by
 unfold kids
 rw [List.flatten_append,List.filterMap_append]
theorem tm (hE : Env.Ok P E) (h : Sim P B O w0 ρ st a w) {t e ty : TypeId} {td : TD} {sz' by' d : Nat} {τ : Ty} (ht : P.underlying t = some (.slice e)) (he : E.ti.lookup e = some ⟨td,sz',by',some τ⟩) {j j' : Nat} {u v : Value} (hs : rc ρ w (.nl j) u) (hx : rc ρ w (.nl j') v)
  {k : St -> Option R} (hk : gZ E st d e τ by' j j' k = some r) :
  ∃ ρ' st' w' x,k st' = some r /\ (Builtin.append_ #[t,t] ty #[u,v]).run P w = .ok x w' /\ Sim P B O w0 ρ' st' (a.put (some d) x) w' := by
 unfold gZ at hk
 split at hk
 ·rename_i e1 τ1 l e2 τ2 m hj hj'
  split at hk
  ·rename_i hτ1
   subst hτ1
   split at hk
   ·rename_i hτ2
    subst hτ2
    rw [aq] at hk
    split at hk
    ·rename_i hb
     simp only [Bool.and_eq_true,beq_iff_eq,Nat.blt_eq,Bool.not_eq_true',beq_eq_false_iff_ne,bne_iff_ne] at hb
     obtain ⟨rfl,rfl,⟨hjp,_⟩,hne,hby⟩ := hb
     split at hk
     ·rename_i hle
      obtain ⟨V,g,hd,xs,h1,hN⟩ := h.mem.blk j _ hj
      obtain ⟨V',g',hd',ys,h2,hN'⟩ := h.mem.blk j' _ hj'
      obtain ⟨_,_,_,h3⟩ := hs
      rw [h1] at h3; cases h3
      obtain ⟨_,_,_,h3⟩ := hx
      rw [h2] at h3; cases h3
      obtain ⟨ti,h5,h6,h7,h8⟩ := (hE.ti _ _ he).info
      obtain ⟨h9,z,h10,h11⟩ := h8 τ2 rfl
      simp only at h6 h7 h9
      have hown : Own w e2 τ2.sz u l.length xs g := by
       have := hN.own
       cases g with
       | some g => exact this
       | none =>
        obtain ⟨h0,A,hA⟩ := this
        exact ⟨h0,List.eq_nil_of_length_eq_zero (by rw [hN.len,h0,Nat.zero_mul]),A,hA⟩
      have key : ∃ v' w' g2,(Builtin.append_ #[t,t] ty #[u,v]).run P w = .ok v' w' /\ Own w' e2 τ2.sz v' (l.length + m.length) (xs ++ ys) g2 /\
        w'.os = w.os /\ w'.tape = w.tape /\ w'.output = w.output /\ w.heap.size <= w'.heap.size /\ (∀ k,k < w.heap.size -> g ≠ some k -> w'.heap[k]? = w.heap[k]?) /\ (∀ k,g2 = some k -> g = some k ∨ w.heap.size <= k) := by
       rcases Nat.eq_zero_or_pos m.length with hm | hm
       ·have hys : ys = [] := List.eq_nil_of_length_eq_zero (by rw [hN'.len,hm,Nat.zero_mul])
        refine ⟨u,w,g,?_,by rw [hys,List.append_nil,hm,Nat.add_zero]; exact hown,rfl,rfl,rfl,Nat.le_refl _,fun _ _ _ => rfl,fun k hk => .inl hk⟩
        have hv : ∃ A c,v = .slice A 0 c := by
         have := hN'.own
         rw [hm] at this
         cases g' with
         | none => obtain ⟨_,A,rfl⟩ := this; exact ⟨A,0,rfl⟩
         | some g' =>
          rcases this.1.2 with ⟨rfl,_⟩ | ⟨g0,cap,cur,rfl,_⟩
          ·exact ⟨_,_,rfl⟩
          ·exact ⟨_,_,rfl⟩
        obtain ⟨A,c,rfl⟩ := hv
        have hform : ∃ B n' cap,u = .slice B n' cap /\ n' <= cap := by
         cases g with
         | none => obtain ⟨_,_,A,rfl⟩ := hown; exact ⟨A,0,0,rfl,Nat.le_refl _⟩
         | some g =>
          rcases hown.1.2 with ⟨rfl,_⟩ | ⟨g',cap,cur,rfl,_,_,h,_⟩
          ·exact ⟨_,_,_,rfl,Nat.le_refl _⟩
          ·exact ⟨_,_,_,rfl,h⟩
        obtain ⟨B',n',cap,rfl,hle'⟩ := hform
        cases A <;> cases B' <;> simp [Builtin.append_,run_underlying ht,sizeOf,typeInfo,h5,Builtin.lenOf,Builtin.firstCells,Go.loadCells,loadCellsFrom,hle',storeCells]
       ·obtain ⟨k',c',rfl,rfl⟩ := hN'.own.form hm
        have ho := hN'.own.1
        refine r9 ht h5 h10 (h6.trans h9.symm) (by rw [h11]; simp [Ty.bY]) (Ty.eD τ2) hown hm hN'.len (fun q x hq => ho.cells rfl q x hq) (fun x hx => ?_) (by rw [h7,← List.length_append]; exact hle) (by rw [h7]; exact hby)
        obtain ⟨q,hq,rfl⟩ := List.mem_iff_getElem.1 hx
        rw [hN'.len] at hq
        have hsp := Ty.eD τ2
        have hqd : q / τ2.sz < m.length := by rw [Nat.div_lt_iff_lt_mul hsp]; exact hq
        obtain ⟨hs,_,hR⟩ := hN'.el _ _ (List.getElem?_eq_getElem hqd)
        have hqe : q / τ2.sz * τ2.sz + q % τ2.sz = q := by rw [Nat.mul_comm]; exact Nat.div_add_mod q τ2.sz
        have h1 : ((ys.drop (q / τ2.sz * τ2.sz)).take τ2.sz)[q % τ2.sz]? = ys[q]? := by
         rw [List.getElem?_take,if_pos (Nat.mod_lt q hsp),List.getElem?_drop,hqe]
        rw [List.getElem?_eq_getElem (l := ys) (i := q) (by rw [hN'.len]; exact hq)] at h1
        exact hR.N1 _ (List.mem_of_getElem? h1)
      obtain ⟨v',w',g2,hrun,h13,hos,htape,hout,hsize,hheap,hg2⟩ := key
      have hl' := h.aQ j
      have hgl : ∀ i,Sig.get i (st.aQ j).sg = (st.sg.get i).map (·.aT (· == j)) := fun i => Sig.get_map _ _ _
      have hlj : (st.aQ j).sg.get j = some (.nst e2 τ2 l) := by rw [hgl,hj]; rfl
      have hlj' : (st.aQ j).sg.get j' = some (.nst e2 τ2 m) := by rw [hgl,hj']; rfl
      have ow : ∀ k,k ∈ ct g hd -> aP ρ (st.aQ j).sg j k := fun k hk => cD hlj (hl'.mem.blk j _ hlj) (by simp) (by rw [h1]; exact hk)
      have ow' : ∀ k,k ∈ ct g' hd' -> aP ρ (st.aQ j).sg j' k := fun k hk => cD hlj' (hl'.mem.blk j' _ hlj') (by simp) (by rw [h2]; exact hk)
      have hge : ∀ k,k < w.heap.size -> ¬ aP ρ (st.aQ j).sg j k -> w'.heap[k]? = w.heap[k]? := fun k hk hn => hheap k hk (fun e => hn (ow k (by rw [e]; simp [ct])))
      have hokh : ∀ q g0,ρ.ok q g0 -> w'.heap[g0]? = w.heap[g0]? := fun q g0 hq => hge g0 (hl'.mem.okb q g0 hq) (hl'.mem.oko q g0 hq j)
      have hkp : da B O w w' := ⟨hos,htape,hout,hsize,fun k hk hn => hheap k (Nat.lt_of_lt_of_le hk h.base) (fun e => by
       rcases hl'.mem.old j k (ow k (by rw [e]; simp [ct])) with h0 | h0
       ·omega
       ·exact hn h0)⟩
      have hK : tU ρ (ρ.upd j (.nst v' g2 τ2.sz (hd ++ hd'))) w w' ([j'].contains ·) j False := uX hokh
      have dis : ∀ k,k ∈ ct g hd -> k ∈ ct g' hd' -> False := fun k hk hk' => hne (hl'.mem.inj j' j k (ow' k hk') (ow k hk))
      have nd1 := hN.nd
      have nd2 := hN'.nd
      unfold ct at nd1 nd2
      rw [List.nodup_append] at nd1 nd2
      have same1 : ∀ k ∈ kids hd,w'.heap[k]? = w.heap[k]? := fun k hk => hheap k (hN.lt (List.mem_append_right _ hk)) (fun e => nd1.2.2 k (by rw [e]; simp) k hk rfl)
      have same2 : ∀ k ∈ kids hd',w'.heap[k]? = w.heap[k]? := fun k hk => hheap k (hN'.lt (List.mem_append_right _ hk)) (fun e => dis k (by rw [e]; simp [ct]) (List.mem_append_right _ hk))
      have hNew : nk w' e2 τ2 (l ++ m) v' g2 (hd ++ hd') (xs ++ ys) := by
       refine ⟨by rw [List.length_append,List.length_append,hN.len,hN'.len,Nat.add_mul],by rw [List.length_append,List.length_append,hN.hlen,hN'.hlen],fun i p hp => ?_,?_,?_⟩
       ·rcases Nat.lt_or_ge i l.length with hi | hi
        ·rw [List.getElem?_append_left hi] at hp
         obtain ⟨hs,h14,h15⟩ := hN.el i p hp
         have hisz : i * τ2.sz + τ2.sz <= l.length * τ2.sz := by rw [← Nat.succ_mul]; exact Nat.mul_le_mul_right _ hi
         refine ⟨hs,by rw [List.getElem?_append_left (by rw [hN.hlen]; exact hi)]; exact h14,?_⟩
         rw [List.drop_append_of_le_length (by rw [hN.len]; omega),List.take_append_of_le_length (by rw [List.length_drop,hN.len]; omega)]
         exact h15.step fun k hk => same1 k (cF h14 hk)
        ·rw [List.getElem?_append_right hi] at hp
         obtain ⟨hs,h14,h15⟩ := hN'.el _ p hp
         refine ⟨hs,by rw [List.getElem?_append_right (by rw [hN.hlen]; exact hi),hN.hlen]; exact h14,?_⟩
         have e1 : i * τ2.sz = xs.length + (i - l.length) * τ2.sz := by rw [hN.len,← Nat.add_mul]; congr 1; omega
         rw [e1,← List.drop_drop,List.drop_left]
         exact h15.step fun k hk => same2 k (cF h14 hk)
       ·rw [List.length_append]
        cases g2 with
        | some g2 => exact h13
        | none => obtain ⟨h14,_,A,hA⟩ := h13; exact ⟨h14,A,hA⟩
       ·unfold ct
        rw [p5,List.nodup_append,List.nodup_append]
        refine ⟨by cases g2 <;> simp,⟨nd1.2.1,nd2.2.1,fun x hx y hy he => ?_⟩,fun x hx y hy he => ?_⟩
        ·subst he
         exact dis x (List.mem_append_right _ hx) (List.mem_append_right _ hy)
        ·subst he
         have hx : g2 = some x := by simpa using hx
         rcases hg2 x hx with h0 | h0
         ·rcases List.mem_append.1 hy with hy | hy
          ·exact nd1.2.2 x (by rw [h0]; simp) x hy rfl
          ·exact dis x (by rw [h0]; simp [ct]) (List.mem_append_right _ hy)
         ·rcases List.mem_append.1 hy with hy | hy
          ·exact absurd (hN.lt (List.mem_append_right _ hy)) (by omega)
          ·exact absurd (hN'.lt (List.mem_append_right _ hy)) (by omega)
      have hM := hl'.mem.bX (b' := .nst e2 τ2 (l ++ m)) h.base hK (fun i b hi hu => ?_) hge hsize ⟨v',g2,hd ++ hd',xs ++ ys,al.ba _ _ _,hNew⟩ (fun k hk => ?_) (by simp [Ne.symm hne]) (fun d => rfl)
      ·have hS := hl'.bX hM hkp hK (fun i x hi hu => ?_) hjp
       ·refine ⟨ρ.upd j (.nst v' g2 τ2.sz (hd ++ hd')),_,w',v',hk,hrun,?_⟩
        refine hS.put (some d) ⟨_,_,_,al.ba _ _ _⟩ (fun d' hd' => ?_)
        have hd' : (j == d') = true := hd'
        rw [← eq_of_beq hd']
        show (Sig.get j (Sig.put j _ _)).isSome = true
        rw [Sig.bg,if_pos rfl]
        rfl
       ·simp only [St.aQ,List.getElem?_map,Option.map_eq_some_iff] at hi
        obtain ⟨x',_,rfl⟩ := hi
        have := (ey hu).2
        simp at this
      ·rw [hgl,Option.map_eq_some_iff] at hi
       obtain ⟨b',_,rfl⟩ := hi
       have := (eE hu).2
       simp at this
      ·have hk : k ∈ ct g2 (hd ++ hd') := hk
       unfold ct at hk
       rw [p5] at hk
       rcases List.mem_append.1 hk with hk | hk
       ·have hk : g2 = some k := by simpa using hk
        rcases hg2 k hk with h0 | h0
        ·exact .inr (.inl (ow k (by rw [h0]; simp [ct])))
        ·exact .inl h0
       ·rcases List.mem_append.1 hk with hk | hk
        ·exact .inr (.inl (ow k (List.mem_append_right _ hk)))
        ·exact .inr (.inr ⟨j',by simp,ow' k (List.mem_append_right _ hk)⟩)
     ·cases hk
    ·cases hk
   ·cases hk
  ·cases hk
 ·cases hk
end
end Go.Proofs.YtcddhifkfakcjaaGreat.Lib
namespace Go.Proofs.YtcddhifkfakcjaaGreat.Lib
open Go Go.RowKit
set_option linter.unusedVariables false
set_option linter.unusedSimpArgs false
section
variable {P : Program} {E : Env} {B : Nat} {O : Ow} {w0 w w' : World} {ρ ρ' : al} {a : Act} {R : Type} {r : R} {sg : Sig} {st : St}
theorem w9 (hE : Env.Ok P E) (h : Sim P B O w0 ρ st a w) {o : Oper} {t : TypeId} {p v : Operand} (ho : o.op = .store t p v) {k : St -> Option R} (hk : lO E st t (au st.sl p) (au st.sl v) k = some r) :
  ∃ ρ' st' w',k st' = some r /\ (execOp a.eval o).run P w = .ok .skip w' /\ Sim P B O w0 ρ' st' a w' := by
 unfold lO at hk
 split at hk
 ·rename_i j i c cs ti hp hc ht
  rw [aq] at hk
  split at hk
  ·rename_i hl
   simp only [beq_iff_eq] at hl
   have hx := (h.eval p).1
   rw [hp] at hx
   obtain ⟨vs,hv,hr,h1,hu⟩ := fv h.mem (h.eval v).1 hc (h.eval v).2
   have hvl : vs.length = ti.sz := by rw [← hr.length]; exact hl
   have run : ∀ g o' w',a.eval p = .pointer (some ⟨g,o',none⟩) -> (storeVar t ⟨g,o',none⟩ (a.eval v)).run P w = .ok () w' -> (execOp a.eval o).run P w = .ok .skip w' := by
    intro g o' w' h2 h3
    unfold execOp
    simp [ho,h2,Instr.storeAt,Instr.sureAddr,Sem.run_bind,h3]
   split at hk
   ·rename_i ty old hj
    split at hk
    ·rw [aq] at hk
     split at hk
     ·rename_i hle
      simp only [Nat.ble_eq] at hle
      obtain ⟨g,us,h2,h3,h4⟩ := h.mem.blk j _ hj
      rcases hx with ⟨_,g',h5,h6⟩ | ⟨_,_,_,_,_,h5,_⟩
      ·rw [h2] at h5; cases h5
       have hul : c + vs.length <= us.length := by rw [← h4.length,hvl]; exact hle
       have hst := kR (hE.ti _ _ ht) hv hvl h3 hul h1
       have hsame : ∀ k',k' ≠ g -> (w.setCells g c vs).heap[k']? = w.heap[k']? := fun k' hk' => bz g vs c w k' hk'
       have hog : aP ρ st.sg j g := aE.2 ⟨_,hj,by simp,.inl ⟨ty,old,rfl,h2⟩⟩
       have hkp := dU (h.mem.old j g hog) vs c w
       have hstep : Step (fun _ => True) ρ ρ w (w.setCells g c vs) := ⟨fun _ _ => rfl,fun _ _ h => h,fun q k' hq => hsame k' (fun e => h.mem.oko q k' hq j (e ▸ hog))⟩
       refine ⟨ρ,_,_,hk,run g c _ h6 hst,?_⟩
       refine h.renew ?_ hkp (fun _ _ h => h) hstep.heap (fun _ _ _ _ _ => rfl) (fun _ _ => rfl)
       refine h.mem.renew h.base rfl (fun _ _ => rfl) (fun _ _ _ _ _ _ => rfl) (fun k' hk' hn => hsame k' (fun e => hn (e ▸ hog))) (by rw [cA]; exact Nat.le_refl _) ?_ (fun g' hg' => ?_) (fun d hd => ?_)
       ·refine ⟨g,bG us c vs,h2,du g ty vs c w us h3 hul,?_⟩
        unfold bG
        rw [hvl]
        have h4' := dD hstep (fun _ _ => trivial) h4
        exact ((h4'.take c).append (dD hstep (fun _ _ => trivial) hr)).append (h4'.drop (c + ti.sz))
       ·rw [h2] at hg'
        exact .inr (by rw [show g' = g from hg']; exact hog)
       ·simp only [Blk.ae,List.any_append,Bool.or_eq_true] at hd
        have hold : ∀ {l : List Cell},(∀ c,c ∈ l -> c ∈ old) -> l.any (·.ae d) = true -> (st.sg.get d).isSome = true := by
         intro l hl hd
         obtain ⟨c',hc',hd'⟩ := List.any_eq_true.1 hd
         exact h.mem.dom j _ d hj (List.any_eq_true.2 ⟨c',hl c' hc',hd'⟩)
        rcases hd with (hd | hd) | hd
        ·exact .inl (hold (fun _ h => List.mem_of_mem_take h) hd)
        ·exact .inl ((h.eval v).2 d (hu d hd))
        ·exact .inl (hold (fun _ h => List.mem_of_mem_drop h) hd)
      ·rw [h2] at h5; cases h5
     ·cases hk
    ·cases hk
   ·rename_i e τ l b hj
    split at hk
    ·rename_i sg1 cs1 hset
     obtain ⟨ρ1,hm1,hM1,hf1,hr1,_⟩ := iR cs st.sg ρ vs sg1 cs1 h.mem hr hset
     have hs1 := h.more hm1 hM1 hf1
     split at hk
     ·rename_i e' τ' l' b' hj1
      split at hk
      ·rename_i x hxi
       have hj1' := hf1.same j _ hj1 (by simp)
       rw [hj] at hj1'
       cases hj1'
       rw [aq] at hk
       split at hk
       ·rename_i hle
        simp only [Nat.ble_eq] at hle
        obtain ⟨va,g,xs,h2,h3,h4⟩ := hM1.blk j _ hj1
        have hxi' := cM (c := .ptr j i c) (hm1.step w) (fun _ _ => trivial) hx
        rcases hxi' with ⟨_,g',h5,_⟩ | ⟨ad,m,cp,g',sz,h5,h6⟩
        ·rw [h2] at h5; cases h5
        ·rw [h2] at h5; cases h5
         cases g with
         | none => obtain ⟨rfl,_⟩ := h4; simp at hxi
         | some g =>
          obtain ⟨hown,hgb⟩ := h4
          obtain ⟨hxl,hown2⟩ := hown
          rcases hown2 with ⟨h7,_⟩ | ⟨g2,cap,cur,h7,_,hcur,hnc,hcm,hcs,htake⟩
          ·cases h7
          ·cases h7
           have : g2 = g := by simpa [Value.ownBlock] using hgb
           subst this
           have hil : i < l.length := (List.getElem?_eq_some_iff.1 hxi).1
           have hisz : i * τ.sz + τ.sz <= l.length * τ.sz := by rw [← Nat.succ_mul]; exact Nat.mul_le_mul_right _ hil
           have hcl : cur.toList.length = cp * τ.sz := by simpa using hcs
           have hcurl : l.length * τ.sz <= cur.toList.length := by
            rw [hcl]; exact Nat.mul_le_mul_right _ hnc
           have haddr : (⟨g2,0,none⟩ : Addr).add (i * τ.sz + c) = ⟨g2,i * τ.sz + c,none⟩ := fV _ _
           have hcur' : w.heap[g2]? = some (.cells cur.toList.toArray e (0,0)) := by simpa using hcur
           have hst := kR (hE.ti _ _ ht) hv hvl hcur' (o := i * τ.sz + c) (by omega) h1
           have hsame : ∀ k',k' ≠ g2 -> (w.setCells g2 (i * τ.sz + c) vs).heap[k']? = w.heap[k']? := fun k' hk' => bz g2 vs _ w k' hk'
           have hog : aP ρ1 sg1 j g2 := aE.2 ⟨_,hj1,by simp,.inr (.inl ⟨e,τ,l,b,rfl,_,_,h2⟩)⟩
           have hkp := dU (hM1.old j g2 hog) vs (i * τ.sz + c) w
           have hstep : Step (fun _ => True) ρ1 ρ1 w (w.setCells g2 (i * τ.sz + c) vs) := ⟨fun _ _ => rfl,fun _ _ h => h,fun q k' hq => hsame k' (fun e => hM1.oko q k' hq j (e ▸ hog))⟩
           have done : ∀ (q : Bool) (y : τ.T),(b = true -> q = true) -> τ.read q ((τ.cells b x).take c ++ cs1 ++ (τ.cells b x).drop (c + ti.sz)) = some y -> k ⟨st.sl,sg1.put j (.arr e τ (l.set i y) q)⟩ = some r ->
             ∃ ρ' st' w',k st' = some r /\ (execOp a.eval o).run P w = .ok .skip w' /\ Sim P B O w0 ρ' st' a w' := by
            intro q y hq hrd hk
            refine ⟨ρ1,_,_,hk,run g2 _ _ (by rw [h6,haddr]) hst,?_⟩
            refine hs1.renew ?_ hkp (fun _ _ h => h) hstep.heap (fun _ _ _ _ _ => rfl) (fun _ _ => rfl)
            refine hM1.renew hs1.base rfl (fun _ _ => rfl) (fun _ _ _ _ _ _ => rfl) (fun k' hk' hn => hsame k' (fun e => hn (e ▸ hog))) (by rw [cA]; exact Nat.le_refl _) ?_ (fun g' hg' => ?_) (fun d hd => by cases hd)
            ·have hnew := du g2 e vs (i * τ.sz + c) w cur.toList hcur' (by omega)
             have hsl : (bG cur.toList (i * τ.sz + c) vs).length = cur.toList.length := by
              unfold bG
              simp only [List.length_append,List.length_take,List.length_drop]
              omega
             have hcell := c8 (ρ := ρ1) (h3.2 i x hxi)
             have hrp := lB hM1.okm hrd (((hcell.take c).append hr1).append (hcell.drop (c + ti.sz)))
             have hokq : ∀ g,ρ1.ok b g -> ρ1.ok q g := by
              cases b <;> cases q
              ·exact fun _ h => h
              ·exact hM1.okm
              ·exact absurd (hq rfl) (by simp)
              ·exact fun _ h => h
             refine ⟨_,some g2,(bG cur.toList (i * τ.sz + c) vs).take (l.length * τ.sz),h2,⟨?_,fun i' p' hp' => ?_⟩,⟨?_,.inr ⟨g2,cp,_,by rw [List.length_set],Nat.zero_le _,hnew,?_,hcm,?_,?_⟩⟩,hgb⟩
             ·rw [taken (by omega),List.length_set]
             ·have hi' : i' < l.length := by have := (List.getElem?_eq_some_iff.1 hp').1; simpa using this
              have hi'sz : i' * τ.sz + τ.sz <= l.length * τ.sz := by rw [← Nat.succ_mul]; exact Nat.mul_le_mul_right _ hi'
              by_cases hii : i = i'
              ·subst hii
               rw [List.getElem?_set_self hil] at hp'
               cases hp'
               have : (((bG cur.toList (i * τ.sz + c) vs).take (l.length * τ.sz)).drop (i * τ.sz)).take τ.sz = (((xs.drop (i * τ.sz)).take τ.sz).take c ++ vs ++ ((xs.drop (i * τ.sz)).take τ.sz).drop (c + ti.sz)) :=
                u7 hcurl htake hvl hle hisz
               rw [this]
               exact hrp.step (fun _ h => h) (fun g' hg' => hstep.heap _ _ hg')
              ·rw [List.getElem?_set_ne hii] at hp'
               have : (((bG cur.toList (i * τ.sz + c) vs).take (l.length * τ.sz)).drop (i' * τ.sz)).take τ.sz = (xs.drop (i' * τ.sz)).take τ.sz := by
                refine tI hcurl htake hvl hle hisz hi'sz ?_
                rcases Nat.lt_or_gt_of_ne hii with h | h
                ·right; rw [← Nat.succ_mul]; exact Nat.mul_le_mul_right _ h
                ·left; rw [← Nat.succ_mul]; exact Nat.mul_le_mul_right _ h
               rw [this]
               exact (h3.2 i' p' hp').step hokq (fun g' hg' => hstep.heap _ _ hg')
             ·rw [taken (by omega),List.length_set]
             ·rw [List.length_set]; exact hnc
             ·simp [hsl,hcs]
             ·rw [List.length_set]
            ·rw [h2] at hg'
             exact .inr (by rw [show g' = g2 from hg']; exact hog)
           split at hk
           ·rename_i y hy
            exact done b y (fun h => h) hy hk
           ·split at hk
            ·rename_i y hy
             exact done true y (fun _ => rfl) hy hk
            ·cases hk
       ·cases hk
      ·cases hk
     ·cases hk
    ·cases hk
   ·cases hk
  ·cases hk
 ·rename_i j i c cs ti hp hc ht
  rw [aq] at hk
  split at hk
  ·rename_i hl
   simp only [beq_iff_eq] at hl
   have hx := (h.eval p).1
   rw [hp] at hx
   obtain ⟨vs,hv,hr,h1,hu⟩ := fv h.mem (h.eval v).1 hc (h.eval v).2
   obtain ⟨ρ',st',w',g,o',h2,h3,h4,h5⟩ := tV h (hE.ti _ _ ht) hx hv hr h1 hl hk
   refine ⟨ρ',st',w',h2,?_,h5⟩
   unfold execOp
   simp [ho,h3,Instr.storeAt,Instr.sureAddr,Sem.run_bind,h4]
  ·cases hk
 ·cases hk
end
end Go.Proofs.YtcddhifkfakcjaaGreat.Lib
namespace Go.Proofs.YtcddhifkfakcjaaGreat.Lib
open Go Go.RowKit
set_option linter.unusedVariables false
set_option linter.unusedSimpArgs false
section
variable {P : Program} {E : Env} {B : Nat} {O : Ow} {w0 w w' : World} {ρ ρ' : al} {a : Act} {R : Type} {r : R} {sg sg' : Sig} {st : St}
theorem Vr {ρ : al} (hm : ∀ g,ρ.ok false g -> ρ.ok true g) (b b' : Bool) : (∀ g,ρ.ok b g -> ρ.ok (b || b') g) /\ ∀ g,ρ.ok b' g -> ρ.ok (b || b') g := by
 cases b <;> cases b' <;> simp <;> exact hm
theorem Cx {d : Nat} {e : TypeId} {s : Cell} {j : Nat} (ht : target st d e s = some j) : j < PIN := by
 unfold target at ht
 split at ht
 ·simp only [aq] at ht
  split at ht
  ·rename_i hn; cases ht; exact (Sig.a8.1 hn).2
  ·cases ht
 ·simp only [aq] at ht
  split at ht
  ·rename_i hn; cases ht; exact (Sig.a8.1 hn).2
  ·cases ht
 ·split at ht
  ·simp only [aq] at ht
   split at ht
   ·rename_i hn
    cases ht
    simp only [Bool.and_eq_true,Nat.blt_eq] at hn
    exact hn.2
   ·cases ht
  ·cases ht
 ·split at ht
  ·simp only [aq] at ht
   split at ht
   ·rename_i hn
    cases ht
    simp only [Bool.and_eq_true,Nat.blt_eq] at hn
    exact hn.2
   ·cases ht
  ·cases ht
 ·cases ht
theorem xp (h : Mem B O ρ st.sg w) {d : Nat} {e : TypeId} {τ : Ty} {s : Cell} {u : Value} {j : Nat} {l : List τ.T} {b : Bool} (hs : rc ρ w s u) (ht : target st d e s = some j) (hl : rowOf τ st.sg s = some (l,b)) :
  ∃ g xs,Own w e τ.sz u l.length xs g /\ bU (ρ.ok b) w τ l xs /\ (∀ k,g = some k -> aP ρ st.sg j k) /\ (st.sg.get j = none /\ j = d ∨ ∃ e' τ' l' b',st.sg.get j = some (.arr e' τ' l' b')) := by
 unfold target at ht
 unfold rowOf at hl
 split at ht
 ·simp only [aq] at ht
  split at ht
  ·rename_i hn
   cases ht
   cases hl
   have hs : u = _ := hs
   exact ⟨none,[],⟨rfl,rfl,none,hs⟩,⟨by simp,fun j p hp => by simp at hp⟩,(fun k hk => by cases hk),.inl ⟨(Sig.a8.1 hn).1,rfl⟩⟩
  ·cases ht
 ·simp only [aq] at ht
  split at ht
  ·rename_i hn
   cases ht
   cases hl
   obtain ⟨A,hs⟩ := hs
   exact ⟨none,[],⟨rfl,rfl,A,hs⟩,⟨by simp,fun j p hp => by simp at hp⟩,(fun k hk => by cases hk),.inl ⟨(Sig.a8.1 hn).1,rfl⟩⟩
  ·cases ht
 ·rename_i j'
  split at ht
  ·rename_i e' τ' l' b' hj
   rw [aq] at ht
   split at ht
   ·rename_i he
    cases ht
    simp only [Bool.and_eq_true,beq_iff_eq] at he
    obtain ⟨he,_⟩ := he
    subst he
    simp only [hj] at hl
    split at hl
    ·rename_i ht
     subst ht
     cases hl
     obtain ⟨v,g,xs,h1,h2,h3⟩ := h.blk j _ hj
     obtain ⟨g',sz,h4⟩ := hs
     rw [h1] at h4; cases h4
     refine ⟨g,xs,?_,h2,fun k hk => aE.2 ⟨_,hj,by simp,.inr (.inl ⟨_,_,_,_,rfl,u,τ'.sz,by rw [h1,hk]⟩)⟩,.inr ⟨_,_,_,_,hj⟩⟩
     cases g with
     | none =>
      obtain ⟨rfl,A,rfl⟩ := h3
      exact ⟨rfl,List.eq_nil_of_length_eq_zero (by simpa using h2.1),A,rfl⟩
     | some g => exact h3
    ·cases hl
   ·cases ht
  ·cases ht
 ·rename_i j' o n
  split at ht
  ·rename_i e' τ' l' b' hj
   rw [aq] at ht
   split at ht
   ·rename_i he
    cases ht
    simp only [Bool.and_eq_true,beq_iff_eq] at he
    obtain ⟨he,_⟩ := he
    subst he
    simp only [hj] at hl
    split at hl
    ·rename_i ht
     subst ht
     have hl : some ((l'.drop 0).take n,b') = some (l,b) := hl
     cases hl
     obtain ⟨v,g,xs,h1,h2,h3⟩ := h.blk j _ hj
     obtain ⟨A,m,c,g',sz,h4,h5,h6⟩ := hs
     rw [h1] at h4; cases h4
     have hu : u = .slice A n c := by
      rcases h6 with ⟨_,h6⟩ | ⟨_,_,ad,rfl,h6⟩ | ⟨_,h6,_⟩
      ·exact h6
      ·rw [h6]; simp [Addr.add]
      ·exact absurd rfl h6
     subst hu
     rw [List.drop_zero]
     cases g with
     | none =>
      obtain ⟨rfl,A',h7⟩ := h3
      cases h7
      have hn : n = 0 := by omega
      subst hn
      exact ⟨none,[],⟨by simp,rfl,_,rfl⟩,⟨by simp,fun j p hp => by simp at hp⟩,(fun k hk => by cases hk),.inr ⟨_,_,_,_,hj⟩⟩
     | some g =>
      obtain ⟨⟨h7,h8⟩,h9⟩ := h3
      rcases h8 with ⟨h8,_⟩ | ⟨g',cap,cur,h8,hb,hg,hle,hm,hcs,htake⟩
      ·cases h8; cases h9
      ·cases h8
       simp only [Value.ownBlock,Option.some.injEq] at h9
       subst h9
       have hnl : (l'.take n).length = n := by rw [List.length_take]; omega
       have hmul : n * τ'.sz <= l'.length * τ'.sz := Nat.mul_le_mul_right _ (by omega)
       refine ⟨some g',xs.take (n * τ'.sz),⟨⟨?_,.inr ⟨g',c,cur,by rw [hnl],hb,hg,by omega,hm,hcs,?_⟩⟩,rfl⟩,CN h2 (by omega),fun k hk => aE.2 ⟨_,hj,by simp,.inr (.inl ⟨_,_,_,_,rfl,_,τ'.sz,by rw [h1,hk]⟩)⟩,.inr ⟨_,_,_,_,hj⟩⟩
       ·rw [hnl,List.length_take,h7]; omega
       ·rw [hnl,← htake,List.take_take,Nat.min_eq_left hmul]
    ·cases hl
   ·cases ht
  ·cases ht
 ·cases ht
theorem uc (hE : Env.Ok P E) (h : Sim P B O w0 ρ st a w) {o : Oper} {c : Call} {t : TypeId} {s x : Operand} (ho : o.op = .call c) (hc : c.callee = .builtin .append) (ha : c.args.toList = [s,x]) (hat : c.argTypes.toList = [t,t]) {k : St -> Option R} (hk : je E st o.dst t (au st.sl s) (au st.sl x) k = some r) :
  ∃ ρ' st' w' v,k st' = some r /\ (execOp a.eval o).run P w = .ok (.value v) w' /\ Sim P B O w0 ρ' st' (a.put o.dst v) w' := by
 have ha := sd ha
 have hat := sd hat
 unfold je at hk
 split at hk
 ·rename_i e sz by_ ty d cs cx ht hd hs hx
  split at hk
  ·rename_i td sz' by' τ he
   split at hk
   ·rename_i j j'
    have hs' := (h.eval s).1
    have hx' := (h.eval x).1
    rw [hs] at hs'
    rw [hx] at hx'
    obtain ⟨ρ',st',w',v,h1,h2,h3⟩ := tm hE h (ty := o.type) (cg (hE.ti _ _ ht)) he hs' hx' hk
    refine ⟨ρ',st',w',v,h1,?_,by rw [hd]; exact h3⟩
    unfold execOp
    simp [ho,hc,ha,hat,Sem.run_bind,resolve,invoke,builtin,h2]
   split at hk
   ·rename_i l b m b' hl hm
    split at hk
    ·rename_i j hj
     split at hk
     ·rename_i hle
      rw [aq] at hk
      split at hk
      ·rename_i hby
       have hs' := (h.eval s).1
       have hx' := (h.eval x).1
       rw [hs] at hs'
       rw [hx] at hx'
       obtain ⟨g,xs,h1,h2,h3,h4⟩ := xp h.mem hs' hj hl
       have hjp := Cx hj
       have hrow := GI h.mem hm hx'
       obtain ⟨ti,h5,h6,h7,h8⟩ := (hE.ti _ _ he).info
       obtain ⟨h9,z,h10,h11⟩ := h8 τ rfl
       simp only at h6 h7 h9
       have hok := Vr h.mem.okm b b'
       obtain ⟨v',w',g',news,hrun,h12,h13,hos,htape,hout,hsize,hheap,hg'⟩ := BT (P := P) (ty := o.type) (cg (hE.ti _ _ ht)) h5 h10 (h6.trans h9.symm) (by rw [h11]; simp [Ty.bY]) h1 hrow (by rw [h7,← List.length_append]; exact hle) (by rw [h7]; simpa using hby)
       have hl' := h.aQ j
       have hno : ∀ (i : Nat) (v : AV) (d' : Nat),(st.aQ j).sl[i]? = some v -> v.ae d' = true -> d' ≠ j := by
        intro i v d' hi hu
        simp only [St.aQ,List.getElem?_map,Option.map_eq_some_iff] at hi
        obtain ⟨v',_,rfl⟩ := hi
        have := (ey hu).2
        simpa using this
       have hnob : ∀ (i : Nat) (b : Blk) (d' : Nat),Sig.get i (st.aQ j).sg = some b -> b.ae d' = true -> d' ≠ j := by
        intro i b d' hi hu
        rw [show (st.aQ j).sg = st.sg.map fun q => (q.1,q.2.aT (· == j)) from rfl,Sig.get_map,Option.map_eq_some_iff] at hi
        obtain ⟨b',_,rfl⟩ := hi
        have := (eE hu).2
        simpa using this
       have hownl : ∀ k,g = some k -> aP ρ (st.aQ j).sg j k := by
        intro k hk
        rcases h4 with ⟨h4,_⟩ | ⟨e',τ',l',q,h4⟩
        ·obtain ⟨b0,hb0,_⟩ := aE.1 (h3 k hk)
         rw [h4] at hb0; cases hb0
        ·obtain ⟨b0,hb0,_,hb1⟩ := aE.1 (h3 k hk)
         rw [h4] at hb0; cases hb0
         rcases hb1 with ⟨_,_,hb1,_⟩ | ⟨_,_,_,_,_,hb1⟩ | ⟨_,_,_,hb1,_⟩
         ·cases hb1
         ·refine aE.2 ⟨.arr e' τ' l' q,?_,by simp,.inr (.inl ⟨_,_,_,_,rfl,hb1⟩)⟩
          rw [show (st.aQ j).sg = st.sg.map fun q => (q.1,q.2.aT (· == j)) from rfl,Sig.get_map,h4]
          rfl
         ·cases hb1
       have hge : ∀ k,k < w.heap.size -> ¬ aP ρ (st.aQ j).sg j k -> w'.heap[k]? = w.heap[k]? := fun k hk hn => hheap k hk (fun e => hn (hownl k e))
       have hokh : ∀ q g0,ρ.ok q g0 -> w'.heap[g0]? = w.heap[g0]? := fun q g0 hq => hge g0 (h.mem.okb q g0 hq) (hl'.mem.oko q g0 hq j)
       have hkp : da B O w w' := ⟨hos,htape,hout,hsize,fun k hk hn => hheap k (Nat.lt_of_lt_of_le hk h.base) (fun e => by
        rcases h.mem.old j k (h3 k e) with h0 | h0
        ·omega
        ·exact hn h0)⟩
       have hM : Mem B O (ρ.upd j (.arr v' g' τ.sz)) ((st.aQ j).sg.put j (.arr e τ (l ++ m) (b || (b' && !τ.flat)))) w' := by
        refine hl'.mem.renew h.base rfl (fun i hi => al.cT ρ _ hi) (fun i b0 d' hi hij hu => al.cT ρ _ (hnob i b0 d' hi hu)) hge hsize ?_ ?_ (fun d' hd' => by cases hd')
        ·refine ⟨v',g',xs ++ news,al.ba _ _ _,?_,?_⟩
         ·cases hfl : τ.flat with
          | false =>
           rw [Bool.not_false,Bool.and_true]
           exact bU.append (h12.step hok.2 (hokh b')) (h2.step hok.1 (hokh b))
          | true =>
           rw [Bool.not_true,Bool.and_false,Bool.or_false]
           exact bU.append (ok := ρ.ok b) ⟨h12.1,fun q p hp => iL hfl ((h12.2 q p hp).step (fun _ h => h) (hokh b'))⟩ (h2.step (fun _ h => h) (hokh b))
         ·cases g' with
          | some g' => rw [List.length_append]; exact h13
          | none =>
           obtain ⟨h14,h15,A,rfl⟩ := h13
           rw [← List.length_append] at h14
           exact ⟨List.eq_nil_of_length_eq_zero h14,A,rfl⟩
        ·intro k hk
         rw [al.ba] at hk
         cases g' with
         | none => cases hk
         | some g' =>
          have hk : k = g' := hk
          subst hk
          rcases hg' k rfl with h0 | h0
          ·exact .inr (hownl k h0)
          ·exact .inl h0
       have hS := hl'.renew hM hkp (fun _ _ h => h) hokh (fun i v d' hi hu => al.cT ρ _ (hno i v d' hi hu)) (fun i hi => al.cT ρ _ (by omega))
       refine ⟨ρ.upd j (.arr v' g' τ.sz),_,w',v',hk,?_,?_⟩
       ·unfold execOp
        simp [ho,hc,ha,hat,Sem.run_bind,resolve,invoke,builtin,hrun]
       ·rw [hd]
        exact hS.put (some d) ⟨g',τ.sz,al.ba _ _ _⟩ (fun d' hd' => by
         have hd' : (j == d') = true := hd'
         rw [← eq_of_beq hd',Sig.bg,if_pos rfl]
         rfl)
      ·cases hk
     ·cases hk
    ·cases hk
   ·cases hk
  ·cases hk
 ·cases hk
end
end Go.Proofs.YtcddhifkfakcjaaGreat.Lib
namespace Go.Proofs.YtcddhifkfakcjaaGreat.Lib
open Go Go.RowKit
set_option linter.unusedVariables false
set_option linter.unusedSimpArgs false
section
variable {P : Program} {E : Env} {B : Nat} {O : Ow} {w0 w w' : World} {ρ ρ' : al} {a : Act} {R : Type} {r : R} {sg sg' : Sig} {st : St}
theorem fM (h : Mem B O ρ sg w) {v v' : AV} {u : Value} (hr : rav ρ w v u) (hs : cm sg v = some (sg',v')) :
  ∃ ρ',dh ρ ρ' /\ Mem B O ρ' sg' w /\ bW sg sg' /\ rav ρ' w v' u /\ ∀ d,v'.ae d = true -> v.ae d = true := by
 unfold cm at hs
 split at hs
 ·rename_i c
  split at hs
  ·rename_i sg1 c' hc
   simp only [Option.some.injEq,Prod.mk.injEq] at hs
   obtain ⟨rfl,rfl⟩ := hs
   obtain ⟨ρ1,h1,h2,h3,h4,h5⟩ := iR [c] sg ρ [u] _ _ h (.cons hr .nil) hc
   obtain ⟨u',h6,h7⟩ := h4.single
   cases h6
   exact ⟨ρ1,h1,h2,h3,h7,fun d hd => by have := h5 d (by simp only [List.any_cons,List.any_nil,Bool.or_false]; exact hd); simp only [List.any_cons,List.any_nil,Bool.or_false] at this; exact this⟩
  ·cases hs
 ·rename_i cs
  split at hs
  ·rename_i sg1 cs' hc
   simp only [Option.some.injEq,Prod.mk.injEq] at hs
   obtain ⟨rfl,rfl⟩ := hs
   obtain ⟨vs,rfl,hr⟩ := hr
   obtain ⟨ρ1,h1,h2,h3,h4,h5⟩ := iR cs sg ρ vs _ _ h hr hc
   exact ⟨ρ1,h1,h2,h3,⟨vs,rfl,h4⟩,h5⟩
  ·cases hs
 ·simp only [Option.some.injEq,Prod.mk.injEq] at hs
  obtain ⟨rfl,rfl⟩ := hs
  exact ⟨ρ,dh.refl _,h,bW.refl _,hr,fun _ h => h⟩
theorem gv : ∀ (ps : List (Nat × AV)) (sg : Sig) (ρ : al) (us : List Value) (sg' : Sig) (ps' : List (Nat × AV)),Mem B O ρ sg w -> aF (fun q u => rav ρ w q.2 u) ps us -> bR sg ps = some (sg',ps') ->
  ∃ ρ',dh ρ ρ' /\ Mem B O ρ' sg' w /\ bW sg sg' /\ aF (fun q u => rav ρ' w q.2 u) ps' us /\ ps'.map (·.1) = ps.map (·.1) /\ ∀ d,ps'.any (·.2.ae d) = true -> ps.any (·.2.ae d) = true
 | [],sg,ρ,us,sg',ps',h,hr,hs => by
  simp only [bR,Option.some.injEq,Prod.mk.injEq] at hs
  obtain ⟨rfl,rfl⟩ := hs
  exact ⟨ρ,dh.refl _,h,bW.refl _,hr,rfl,fun _ h => h⟩
 | (i,v) :: ps,sg,ρ,us,sg',ps',h,hr,hs => by
  simp only [bR] at hs
  cases hr with
  | @cons _ u0 _ us h0 h1 =>
  split at hs
  ·rename_i sg1 v1 hv
   split at hs
   ·rename_i sg2 ps2 hp
    simp only [Option.some.injEq,Prod.mk.injEq] at hs
    obtain ⟨rfl,rfl⟩ := hs
    obtain ⟨ρ1,a1,a2,a3,a4,a5⟩ := fM h h0 hv
    obtain ⟨ρ2,b1,b2,b3,b4,b5,b6⟩ := gv ps sg1 ρ1 us sg2 ps2 a2 (h1.imp fun q u _ hq => bQ (a1.step w) (fun _ _ => trivial) hq) hp
    refine ⟨ρ2,a1.trans b1,b2,a3.trans b3,.cons (bQ (b1.step w) (fun _ _ => trivial) a4) b4,by simp [b5],fun d hd => ?_⟩
    simp only [List.any_cons,Bool.or_eq_true] at hd ⊢
    exact hd.imp (a5 d) (b6 d)
   ·cases hs
  ·cases hs
theorem jt (h : Mem B O ρ sg w) {b : Bool} {τ : Ty} : ∀ (ps : List (Nat × AV)) (n : Nat) (us : List Value) (l : List τ.T),aF (fun q u => rav ρ w q.2 u) ps us -> (∀ d,ps.any (·.2.ae d) = true -> (sg.get d).isSome = true) -> bB b τ ps n = some l ->
  bU (ρ.ok b) w τ l (us.flatMap fun u => u.cells.toList) /\ (∀ u ∈ us,u.cells.size = τ.sz) /\ l.length = us.length /\ ps.map (·.1) = List.range' n us.length
 | [],n,us,l,hr,hu,hs => by
  cases hr
  simp only [bB,Option.some.injEq] at hs
  subst hs
  exact ⟨⟨by simp,fun j p hp => by simp at hp⟩,(fun u hu => by cases hu),rfl,rfl⟩
 | (i,v) :: ps,n,us,l,hr,hu,hs => by
  cases hr with
  | @cons _ u0 _ us h0 h1 =>
  simp only [bB,aq] at hs
  split at hs
  ·rename_i hi
   simp only [beq_iff_eq] at hi
   split at hs
   ·rename_i cs hc
    split at hs
    ·rename_i x hx
     split at hs
     ·rename_i xs hxs
      simp only [Option.some.injEq] at hs
      subst hs
      obtain ⟨vs,a1,a2,_,_⟩ := fv h h0 hc (fun d hd => hu d (by simp only [List.any_cons,Bool.or_eq_true]; exact .inl hd))
      have a3 := lB h.okm hx a2
      obtain ⟨b1,b2,b3,b4⟩ := jt h ps (n + 1) us xs h1 (fun d hd => hu d (by simp only [List.any_cons,Bool.or_eq_true]; exact .inr hd)) hxs
      refine ⟨?_,fun u hu => ?_,by simp [b3],by simp [b4,hi,List.range'_succ]⟩
      ·rw [List.flatMap_cons,a1]
       exact bU.cons a3 b1
      ·rcases List.mem_cons.1 hu with rfl | hu
       ·rw [a1,List.size_toArray]; exact a3.len
       ·exact b2 u hu
     ·cases hs
    ·cases hs
   ·cases hs
  ·cases hs
theorem vX (hE : Env.Ok P E) {o : Oper} {t e : TypeId} {n : Nat} {ps : Array (Nat × Operand)} {τ : Ty} {sz by_ sz' by' : Nat} {ty : Option Ty} {td : TD} (ho : o.op = .buildSlice t n ps)
  (ht : E.ti.lookup t = some ⟨.slice e,sz,by_,ty⟩) (he : E.ti.lookup e = some ⟨td,sz',by',some τ⟩) (b2 : ∀ u ∈ (ps.toList.map fun p => a.eval p.2),u.cells.size = τ.sz) (b4 : ps.toList.map (·.1) = List.range' 0 ps.toList.length) (hnp : n = ps.toList.length) (hsm : n * τ.sz <= 16777216) :
  (execOp a.eval o).run P w = .ok (.value (.slice (some ⟨w.heap.size,0,none⟩) n n)) (w.alloc (.cells ((ps.toList.map fun p => a.eval p.2).flatMap fun u => u.cells.toList).toArray e)) := by
 obtain ⟨ti,c1,c2,c3,c4⟩ := (hE.ti _ _ he).info
 obtain ⟨c5,z,c6,c7⟩ := c4 τ rfl
 simp only at c2 c5
 have hps : (ps.map fun (i,x) => (i,a.eval x)).toList = ((ps.toList.map fun p => a.eval p.2).zipIdx 0).map fun x => (x.2,x.1) := by
  rw [Array.toList_map]
  have key : ∀ (l : List (Nat × Operand)) (k : Nat),l.map (·.1) = List.range' k l.length -> l.map (fun (i,x) => (i,a.eval x)) = ((l.map fun p => a.eval p.2).zipIdx k).map fun x => (x.2,x.1) := by
   intro l
   induction l with
   | nil => intro k _; rfl
   | cons p l ih =>
    intro k hk
    simp only [List.map_cons,List.length_cons,List.range'_succ,List.cons.injEq] at hk
    simp only [List.map_cons,List.zipIdx_cons,ih (k + 1) hk.2,hk.1]
  exact key _ 0 b4
 have hz : z.cells.size = τ.sz := by rw [c7]; simp [Ty.bY]
 by_cases h0 : n = 0
 ·subst h0
  have hl0 : (ps.toList.map fun p => a.eval p.2) = [] := by
   apply List.eq_nil_of_length_eq_zero
   rw [List.length_map,← hnp]
  have hp0 : ps.map (fun (i,x) => (i,a.eval x)) = #[] := by
   apply Array.ext'
   rw [hps,hl0]
   rfl
  unfold execOp
  simp only [ho,hl0,hp0]
  simp [Instr.buildSlice,Sem.run_bind,run_underlying (cg (hE.ti _ _ ht)),iw (hE.ti _ _ he),Instr.fill,newRow,Array.range_zero']
 ·have hr := run_buildSlice (P := P) w t e n (ps.map fun (i,x) => (i,a.eval x)) ((ps.toList.map fun p => a.eval p.2).flatMap fun u => u.cells.toList).toArray ti z (cg (hE.ti _ _ ht)) c1 c6
   (by rw [c2,← c5]; omega) (by rw [c2,← c5]; have := Ty.eD τ; exact Nat.mul_ne_zero h0 (by omega)) (by
    rw [hps,c2,← c5]
    refine Great.fill_whole (Ty.eD τ) _ _ b2 ?_
    rw [List.length_map,← hnp]
    simp)
  unfold execOp
  simp only [ho,Sem.run_bind,hr,Result.andThen_ok]
  rfl
theorem m8 (hE : Env.Ok P E) (h : Sim P B O w0 ρ st a w) {o : Oper} {t e : TypeId} {n d : Nat} {ps : Array (Nat × Operand)} {ps' : List (Nat × AV)} {τ : Ty} {sz by_ sz' by' : Nat} {ty : Option Ty} {td : TD} (ho : o.op = .buildSlice t n ps) (hd : o.dst = some d)
  (hset : bR st.sg (ps.toList.map fun p => (p.1,au st.sl p.2)) = some (sg,ps')) (ht : E.ti.lookup t = some ⟨.slice e,sz,by_,ty⟩) (he : E.ti.lookup e = some ⟨td,sz',by',some τ⟩) (hn : sg.get d = none /\ d < PIN) (hln : n = ps'.length) (hsm : n * τ.sz <= 16777216)
  {b : Bool} {l : List τ.T} (hl : bB b τ ps' 0 = some l) :
  ∃ ρ' w' v,(execOp a.eval o).run P w = .ok (.value v) w' /\ Sim P B O w0 ρ' ⟨st.sl.set d (.one (.sl d)),(d,.arr e τ l b) :: sg⟩ (a.put o.dst v) w' := by
 have hpr : aF (fun (q : Nat × AV) u => rav ρ w q.2 u) (ps.toList.map fun p => (p.1,au st.sl p.2)) (ps.toList.map fun p => a.eval p.2) := by
  induction ps.toList with
  | nil => exact .nil
  | cons p ps ih => exact .cons (h.eval p.2).1 ih
 have hpu : ∀ d,(ps.toList.map fun p => (p.1,au st.sl p.2)).any (·.2.ae d) = true -> (st.sg.get d).isSome = true := by
  intro d hd
  obtain ⟨q,hq,hd⟩ := List.any_eq_true.1 hd
  obtain ⟨p,_,rfl⟩ := List.mem_map.1 hq
  exact (h.eval p.2).2 d hd
 obtain ⟨ρ1,h1,h2,h3,h4,h5,h6⟩ := gv _ _ _ _ _ _ h.mem hpr hset
 have hs1 := h.more h1 h2 h3
 obtain ⟨b1,b2,b3,b4⟩ := jt h2 ps' 0 _ l h4 (fun d hd => by rw [h3.some]; exact hpu d (h6 d hd)) hl
 have hnl : n = l.length := by rw [hln,b3,h4.length]
 obtain ⟨ti,c1,c2,c3,c4⟩ := (hE.ti _ _ he).info
 obtain ⟨c5,z,c6,c7⟩ := c4 τ rfl
 simp only at c2 c5
 have run := vX (a := a) (w := w) hE ho ht he b2 (by
   rw [h5,List.map_map,List.length_map] at b4
   exact b4) (by rw [hnl,b3,List.length_map]) hsm
 have hadd : Po ρ1 sg w (w.alloc (.cells ((ps.toList.map fun p => a.eval p.2).flatMap fun u => u.cells.toList).toArray e)) (some d) (.one (.sl d)) [(d,.arr e τ l b)] (.slice (some ⟨w.heap.size,0,none⟩) n n) := by
  have hb : Below w.heap.size w (w.alloc (.cells ((ps.toList.map fun p => a.eval p.2).flatMap fun u => u.cells.toList).toArray e)) := (Below.refl _ _).alloc (Nat.le_refl _) _
  refine .inr (.inl ⟨d,_,.arr (.slice (some ⟨w.heap.size,0,none⟩) n n) (some w.heap.size) τ.sz,rfl,hn,rfl,hb,?_,⟨_,_,al.ba _ _ _⟩,?_,(fun x hx => by cases hx),fun g hg => Nat.le_of_eq hg.symm⟩)
  ·refine ⟨_,some w.heap.size,_,al.ba _ _ _,b1.step (fun _ h => h) (fun g hg => hb.block g (h2.okb b g hg)),⟨b1.1,.inr ⟨w.heap.size,n,_,by rw [hnl],Nat.zero_le _,heap_alloc_new w _,by omega,?_,?_,?_⟩⟩,rfl⟩
   ·have := Nat.le_mul_of_pos_right n (Ty.eD τ)
    unfold maxLen; omega
   ·rw [List.size_toArray,b1.1,hnl]
   ·rw [List.take_of_length_le (by rw [b1.1]; exact Nat.le_refl _)]
  ·intro x hx
   have hx : (d == x) = true := hx
   exact (eq_of_beq hx).symm
 obtain ⟨ρ2,hs2⟩ := hs1.PH hadd
 exact ⟨ρ2,_,_,run,by rw [hd]; exact hs2⟩
theorem jr (h : Mem B O ρ sg w) {τ : Ty} : ∀ (ps : List (Nat × AV)) (n : Nat) (us : List Value) (l : List τ.T) (ms : List Nat),aF (fun q u => rav ρ w q.2 u) ps us -> (∀ d,ps.any (·.2.ae d) = true -> (sg.get d).isSome = true) -> iq sg τ ps n = some (l,ms) ->
  ∃ hd,hd.length = l.length /\ (∀ (i : Nat) (p : τ.T),l[i]? = some p -> ∃ hs,hd[i]? = some hs /\ Rn w τ p (((us.flatMap fun u => u.cells.toList).drop (i * τ.sz)).take τ.sz) hs) /\ (us.flatMap fun u => u.cells.toList).length = l.length * τ.sz /\ (∀ u ∈ us,u.cells.size = τ.sz) /\ l.length = us.length /\ ps.map (·.1) = List.range' n us.length /\
   (∀ k ∈ kids hd,∃ m ∈ ms,aP ρ sg m k) /\ (ms.Nodup -> (kids hd).Nodup) /\ ∀ m ∈ ms,∃ e t l b,sg.get m = some (.arr e t l b)
 | [],n,us,l,ms,hr,hu,hs => by
  cases hr
  simp only [iq,Option.some.injEq,Prod.mk.injEq] at hs
  obtain ⟨rfl,rfl⟩ := hs
  exact ⟨[],rfl,(fun i p hp => by simp at hp),by simp,(fun u hu => by cases hu),rfl,rfl,(fun k hk => by cases hk),(fun _ => List.nodup_nil),nofun⟩
 | (i,v) :: ps,n,us,l,ms,hr,hu,hs => by
  cases hr with
  | @cons _ u0 _ us h0 h1 =>
  simp only [iq,aq] at hs
  split at hs
  ·rename_i hi
   simp only [beq_iff_eq] at hi
   split at hs
   ·rename_i cs hc
    split at hs
    ·rename_i x ms0 hx
     split at hs
     ·rename_i xs ms1 hxs
      simp only [Option.some.injEq,Prod.mk.injEq] at hs
      obtain ⟨rfl,rfl⟩ := hs
      obtain ⟨vs,a1,a2,_,_⟩ := fv h h0 hc (fun d hd => hu d (by simp only [List.any_cons,Bool.or_eq_true]; exact .inl hd))
      obtain ⟨v0,v1,hs0,hvs,a3,a4,a5,a6,a7⟩ := gr h hx a2
      cases a3
      rw [List.append_nil] at hvs
      subst hvs
      obtain ⟨hd,b0,b1,b2,b3,b4,b5,b6,b7,b8⟩ := jr h ps (n + 1) us xs ms1 h1 (fun d hd => hu d (by simp only [List.any_cons,Bool.or_eq_true]; exact .inr hd)) hxs
      have hlen := a4.len
      have hkc : kids (hs0 :: hd) = hs0.filterMap (·.2) ++ kids hd := by unfold kids; rw [List.flatten_cons,List.filterMap_append]
      refine ⟨hs0 :: hd,by simp [b0],fun q p hp => ?_,?_,fun u hu => ?_,by simp [b4],by simp [b5,hi,List.range'_succ],fun k hk => ?_,fun hn => ?_,fun m hm => ?_⟩
      ·rw [List.flatMap_cons,a1]
       cases q with
       | zero =>
        simp only [List.getElem?_cons_zero,Option.some.injEq] at hp
        subst hp
        refine ⟨hs0,rfl,?_⟩
        rw [Nat.zero_mul,List.drop_zero,← hlen,List.take_left]
        exact a4
       | succ q =>
        obtain ⟨hs,c1,c2⟩ := b1 q p (by simpa using hp)
        refine ⟨hs,by simpa using c1,?_⟩
        have e1 : (q + 1) * τ.sz = vs.length + q * τ.sz := by rw [hlen,Nat.succ_mul]; omega
        rw [e1,← List.drop_drop,List.drop_left]
        exact c2
      ·rw [List.flatMap_cons,a1,List.length_append,b2,List.length_cons,Nat.succ_mul,hlen]; omega
      ·rcases List.mem_cons.1 hu with rfl | hu
       ·rw [a1,List.size_toArray]; exact hlen
       ·exact b3 u hu
      ·rw [hkc] at hk
       rcases List.mem_append.1 hk with hk | hk
       ·obtain ⟨m,hm,ho⟩ := a5 k hk; exact ⟨m,List.mem_append_left _ hm,ho⟩
       ·obtain ⟨m,hm,ho⟩ := b6 k hk; exact ⟨m,List.mem_append_right _ hm,ho⟩
      ·rw [List.nodup_append] at hn
       rw [hkc,List.nodup_append]
       refine ⟨a6 hn.1,b7 hn.2.1,fun y hy z hz he => ?_⟩
       subst he
       obtain ⟨m,hm,ho⟩ := a5 y hy
       obtain ⟨m',hm',ho'⟩ := b6 y hz
       exact hn.2.2 m hm m' hm' (h.inj m m' y ho ho')
      ·rcases List.mem_append.1 hm with hm | hm
       ·exact a7 m hm
       ·exact b8 m hm
     ·cases hs
    ·cases hs
   ·cases hs
  ·cases hs
theorem iM {dst : Option Nat} {t e : TypeId} {n sz by_ sz' by' : Nat} {ty : Option Ty} {td : TD} {τ : Ty} {ps : List (Nat × AV)} {k : St -> Option R} {other : Option R} (ht : E.ti.lookup t = some ⟨.slice e,sz,by_,ty⟩) (he : E.ti.lookup e = some ⟨td,sz',by',some τ⟩) (hf : τ.flat = true) : gq E st dst t n ps k other = other := by
 unfold gq
 cases E.nest with
 | false => rfl
 | true => cases dst <;> simp only [ht,he,hf,Bool.not_true,Bool.false_and,cond_false]
theorem tX (hE : Env.Ok P E) (h : Sim P B O w0 ρ st a w) {o : Oper} {t : TypeId} {n : Nat} {ps : Array (Nat × Operand)} (ho : o.op = .buildSlice t n ps) {k : St -> Option R} {other : Option R} (hk : gq E st o.dst t n (ps.toList.map fun p => (p.1,au st.sl p.2)) k other = some r) :
  other = some r ∨ ∃ ρ' st' w' v,k st' = some r /\ (execOp a.eval o).run P w = .ok (.value v) w' /\ Sim P B O w0 ρ' st' (a.put o.dst v) w' := by
 unfold gq at hk
 split at hk
 ·exact .inl hk
 ·split at hk
  ·rename_i d e sz by_ ty hd ht
   split at hk
   ·rename_i td sz' by' τ he
    rw [aq] at hk
    split at hk
    ·split at hk
     ·rename_i l ms hl
      rw [aq] at hk
      split at hk
      ·rename_i hc
       simp only [Bool.and_eq_true,Sig.a8,beq_iff_eq,Nat.ble_eq,List.length_map] at hc
       obtain ⟨⟨⟨hdn,hdp⟩,hn⟩,hsm,hms⟩ := hc
       refine .inr ?_
       have hpr : aF (fun (q : Nat × AV) u => rav ρ w q.2 u) (ps.toList.map fun p => (p.1,au st.sl p.2)) (ps.toList.map fun p => a.eval p.2) := by
        induction ps.toList with
        | nil => exact .nil
        | cons p ps ih => exact .cons (h.eval p.2).1 ih
       have hpu : ∀ d,(ps.toList.map fun p => (p.1,au st.sl p.2)).any (·.2.ae d) = true -> (st.sg.get d).isSome = true := by
        intro d hd
        obtain ⟨q,hq,hd⟩ := List.any_eq_true.1 hd
        obtain ⟨p,_,rfl⟩ := List.mem_map.1 hq
        exact (h.eval p.2).2 d hd
       obtain ⟨hd',b0,b1,b2,b3,b4,b5,b6,b7,b8⟩ := jr h.mem _ 0 _ l ms hpr hpu hl
       rw [List.length_map] at b4 b5
       have hnl : n = l.length := hn.trans b4.symm
       have run := vX (a := a) (w := w) hE ho ht he b3 (by rw [List.map_map] at b5; exact b5) hn hsm
       generalize hxs : ((ps.toList.map fun p => a.eval p.2).flatMap fun u => u.cells.toList) = xs at run b1 b2
       have hb : Below w.heap.size w (w.alloc (.cells xs.toArray e)) := (Below.refl _ _).alloc (Nat.le_refl _) _
       have hkp : da B O w (w.alloc (.cells xs.toArray e)) := ⟨hb.os,hb.tape,hb.output,hb.size,fun g h1 _ => hb.block g (Nat.lt_of_lt_of_le h1 h.base)⟩
       have hK : tU ρ (ρ.upd d (.nst (.slice (some ⟨w.heap.size,0,none⟩) n n) (some w.heap.size) τ.sz hd')) w (w.alloc (.cells xs.toArray e)) (ms.contains ·) d False := uX (fun q k hq => hb.block k (h.mem.okb q k hq))
       have hkl : ∀ k ∈ kids hd',k < w.heap.size := fun k hk => by obtain ⟨m,_,ho⟩ := b6 k hk; exact h.mem.lt ho
       have hNew : nk (w.alloc (.cells xs.toArray e)) e τ l (.slice (some ⟨w.heap.size,0,none⟩) n n) (some w.heap.size) hd' xs := by
        refine ⟨b2,b0,fun i p hp => ?_,⟨⟨b2,.inr ⟨w.heap.size,n,_,by rw [hnl],Nat.zero_le _,heap_alloc_new w _,by omega,?_,?_,?_⟩⟩,rfl⟩,?_⟩
        ·obtain ⟨hs,c1,c2⟩ := b1 i p hp
         exact ⟨hs,c1,c2.step fun k hk => hb.block k (hkl k (cF c1 hk))⟩
        ·have := Nat.le_mul_of_pos_right n (Ty.eD τ)
         unfold maxLen; omega
        ·rw [List.size_toArray,b2,hnl]
        ·rw [List.take_of_length_le (by rw [b2]; exact Nat.le_refl _)]
        ·unfold ct
         simp only [Option.toList_some,List.singleton_append,List.nodup_cons]
         exact ⟨fun hm => absurd (hkl _ hm) (by omega),b7 (nodup_iff hms)⟩
       have hnd : ms.contains d = false := by
        cases hcd : ms.contains d with
        | false => rfl
        | true =>
         obtain ⟨_,_,_,_,h10⟩ := b8 d (List.contains_iff_mem.1 hcd)
         rw [hdn] at h10; cases h10
       have hM := h.mem.bX (b' := .nst e τ l) h.base hK (fun i b hi hu => by have := h.mem.dom i b d hi hu; rw [hdn] at this; cases this) (fun k hk _ => hb.block k hk) hb.size ⟨_,_,hd',xs,al.ba _ _ _,hNew⟩ (fun k hk => by
        have hk : k ∈ ct (some w.heap.size) hd' := hk
        unfold ct at hk
        simp only [Option.toList_some,List.singleton_append,List.mem_cons] at hk
        rcases hk with rfl | hk
        ·exact .inl (Nat.le_refl _)
        ·exact .inr (.inr (b6 k hk))) hnd (fun d => rfl)
       have hS := h.bX hM hkp hK (fun i x hi hu => by have := h.dom i x d hi hu; rw [hdn] at this; cases this) hdp
       refine ⟨ρ.upd d (.nst (.slice (some ⟨w.heap.size,0,none⟩) n n) (some w.heap.size) τ.sz hd'),_,_,_,hk,run,?_⟩
       rw [hd]
       refine hS.put (some d) ⟨_,_,_,al.ba _ _ _⟩ (fun d' hd' => ?_)
       have hd' : (d == d') = true := hd'
       rw [← eq_of_beq hd']
       show (Sig.get d (Sig.put d _ _)).isSome = true
       rw [Sig.bg,if_pos rfl]
       rfl
      ·exact .inl hk
     ·exact .inl hk
    ·exact .inl hk
   ·exact .inl hk
  ·exact .inl hk
end
end Go.Proofs.YtcddhifkfakcjaaGreat.Lib
namespace Go.Proofs.YtcddhifkfakcjaaGreat.Lib
open Go Go.RowKit
set_option linter.unusedVariables false
set_option linter.unusedSimpArgs false
theorem aF.app {α β : Type} {R : α -> β -> Prop} {l l' : List α} {m m' : List β} (h : aF R l m) (h' : aF R l' m') : aF R (l ++ l') (m ++ m') := h.append h'
def al.strict (ρ : al) : al := ⟨ρ.loc,fun _ => ρ.ok false⟩
theorem rJ {ρ : al} {w : World} {c : Cell} {v : Value} (hn : c.dT = true) (h : rc ρ w c v) : rc ρ.strict w c v := by
 cases c with
 | emb e t l b =>
  have : b = false := by simpa [Cell.dT] using hn
  subst this; exact h
 | eptr t x c b =>
  have : b = false := by simpa [Cell.dT] using hn
  subst this; exact h
 | fn f caps =>
  have : caps = [] := by simpa [Cell.dT] using hn
  subst this
  obtain ⟨vs,h0,h1⟩ := h
  cases h1
  exact ⟨_,h0,.nil⟩
 | _ => exact h
theorem jQ {ρ : al} {w : World} {cs : List Cell} {vs : List Value} (hn : cs.all (·.dT) = true) (h : aF (rc ρ w) cs vs) : aF (rc ρ.strict w) cs vs :=
 h.imp fun c v hc h => rJ (List.all_eq_true.1 hn c hc) h
theorem Gz {ρ : al} {w : World} {x : AV} {v : Value} (hn : x.dT = true) (h : rav ρ w x v) : rav ρ.strict w x v := by
 cases x with
 | one c => exact rJ hn h
 | agg cs => obtain ⟨vs,h0,h1⟩ := h; exact ⟨vs,h0,jQ hn h1⟩
 | tup ps =>
  obtain ⟨vs,h0,h1⟩ := h
  refine ⟨vs,h0,h1.imp fun q v hq h => ?_⟩
  have hq := List.all_eq_true.1 hn q hq
  obtain ⟨g,cs⟩ := q
  cases g with
  | true => obtain ⟨vs,h0,h1⟩ := h; exact ⟨vs,h0,jQ hq h1⟩
  | false => obtain ⟨c,rfl,h⟩ := h; exact ⟨c,rfl,rJ (by simpa using hq) h⟩
theorem FM {ρ : al} {w : World} {j : Nat} {b : Blk} (hn : b.dT = true) (h : eZ ρ w j b) : eZ ρ.strict w j b := by
 cases b with
 | box t cs => obtain ⟨g,vs,h0,h1,h2⟩ := h; exact ⟨g,vs,h0,h1,jQ hn h2⟩
 | arr e t l b =>
  have : b = false := by simpa [Blk.dT] using hn
  subst this; exact h
 | fro e t l b =>
  have : b = false := by simpa [Blk.dT] using hn
  subst this; exact h
 | nst e t l => exact h
theorem rS {ρ ρ' : al} {w : World} {d : Nat} {c : Cell} {v : Value} (hl : ∀ j,c.ae j = true -> ρ'.loc (j + d) = ρ.loc j) (ho : ρ'.ok = ρ.ok) (h : rc ρ w c v) : rc ρ' w (c.shift d) v := by
 cases c with
 | emb e t l b => rw [show Cell.shift d (.emb e t l b) = .emb e t l b from rfl]; unfold rc at h ⊢; rw [ho]; exact h
 | sl j =>
  obtain ⟨g,sz,h⟩ := h
  exact ⟨g,sz,(hl j (by simp [Cell.ae])).trans h⟩
 | sub j o n =>
  obtain ⟨A,m,c,g,sz,h,h1⟩ := h
  exact ⟨A,m,c,g,sz,(hl j (by simp [Cell.ae])).trans h,h1⟩
 | nl j =>
  obtain ⟨g,sz,hd,h⟩ := h
  exact ⟨g,sz,hd,(hl j (by simp [Cell.ae])).trans h⟩
 | np j i c =>
  obtain ⟨A,n,cp,g,sz,hd,h,h1⟩ := h
  exact ⟨A,n,cp,g,sz,hd,(hl j (by simp [Cell.ae])).trans h,h1⟩
 | inn j i k =>
  obtain ⟨V,g,sz,hd,hs,q,h,h1⟩ := h
  exact ⟨V,g,sz,hd,hs,q,(hl j (by simp [Cell.ae])).trans h,h1⟩
 | ptr j i c =>
  have hl := hl j (by simp [Cell.ae])
  rcases h with ⟨h0,g,h,h1⟩ | ⟨a,m,cp,g,sz,h,h1⟩
  ·exact .inl ⟨h0,g,hl.trans h,h1⟩
  ·exact .inr ⟨a,m,cp,g,sz,hl.trans h,h1⟩
 | eptr t x c b =>
  obtain ⟨a,h,h1⟩ := h
  exact ⟨a,by rw [ho]; exact h,h1⟩
 | fn f caps =>
  obtain ⟨vs,h,h1⟩ := h
  exact ⟨vs,h,h1.imp fun p u _ ⟨a,h,h2⟩ => ⟨a,by rw [ho]; exact h,h2⟩⟩
 | fnp f js =>
  obtain ⟨vs,h,h1⟩ := h
  exact ⟨vs,h,h1.b9 _ fun j u hj ⟨g,h,h2⟩ => ⟨g,(hl j (by simp [Cell.ae,hj])).trans h,h2⟩⟩
 | _ => exact h
theorem ky {ρ ρ' : al} {w : World} {d : Nat} {cs : List Cell} {vs : List Value} (hl : ∀ j,cs.any (·.ae j) = true -> ρ'.loc (j + d) = ρ.loc j) (ho : ρ'.ok = ρ.ok) (h : aF (rc ρ w) cs vs) : aF (rc ρ' w) (cs.map (·.shift d)) vs :=
 h.b9 _ fun c v hc h => rS (fun j hj => hl j (List.any_eq_true.2 ⟨c,hc,hj⟩)) ho h
theorem FT {ρ ρ' : al} {w : World} {d : Nat} {x : AV} {v : Value} (hl : ∀ j,x.ae j = true -> ρ'.loc (j + d) = ρ.loc j) (ho : ρ'.ok = ρ.ok) (h : rav ρ w x v) : rav ρ' w (x.shift d) v := by
 cases x with
 | one c => exact rS hl ho h
 | agg cs => obtain ⟨vs,h0,h1⟩ := h; exact ⟨vs,h0,ky hl ho h1⟩
 | tup ps =>
  obtain ⟨vs,h0,h1⟩ := h
  refine ⟨vs,h0,h1.b9 _ fun q v hq h => ?_⟩
  have hl' : ∀ j,q.2.any (·.ae j) = true -> ρ'.loc (j + d) = ρ.loc j := fun j hj => hl j (List.any_eq_true.2 ⟨q,hq,hj⟩)
  obtain ⟨g,cs⟩ := q
  cases g with
  | true => obtain ⟨vs,h0,h1⟩ := h; exact ⟨vs,h0,ky hl' ho h1⟩
  | false => obtain ⟨c,rfl,h⟩ := h; exact ⟨c.shift d,rfl,rS (fun j hj => hl' j (by simpa using hj)) ho h⟩
theorem tz {d i : Nat} {c : Cell} (h : (c.shift d).ae i = true) : ∃ j,i = j + d /\ c.ae j = true := by
 cases c with
 | sl j => have h : (j + d == i) = true := h; exact ⟨j,(eq_of_beq h).symm,by simp [Cell.ae]⟩
 | sub j o n => have h : (j + d == i) = true := h; exact ⟨j,(eq_of_beq h).symm,by simp [Cell.ae]⟩
 | ptr j k c => have h : (j + d == i) = true := h; exact ⟨j,(eq_of_beq h).symm,by simp [Cell.ae]⟩
 | nl j => have h : (j + d == i) = true := h; exact ⟨j,(eq_of_beq h).symm,by simp [Cell.ae]⟩
 | np j k c => have h : (j + d == i) = true := h; exact ⟨j,(eq_of_beq h).symm,by simp [Cell.ae]⟩
 | inn j k c => have h : (j + d == i) = true := h; exact ⟨j,(eq_of_beq h).symm,by simp [Cell.ae]⟩
 | fnp f js =>
  have h : (js.map (· + d)).contains i = true := h
  simp only [List.contains_eq_mem,List.mem_map,decide_eq_true_eq] at h
  obtain ⟨j,h1,h2⟩ := h
  exact ⟨j,h2.symm,by simp [Cell.ae,h1]⟩
 | _ => cases h
theorem oK {d i : Nat} {cs : List Cell} (h : (cs.map (·.shift d)).any (·.ae i) = true) : ∃ j,i = j + d /\ cs.any (·.ae j) = true := by
 obtain ⟨c,hc,h⟩ := List.any_eq_true.1 h
 obtain ⟨c',hc',rfl⟩ := List.mem_map.1 hc
 obtain ⟨j,h1,h2⟩ := tz h
 exact ⟨j,h1,List.any_eq_true.2 ⟨c',hc',h2⟩⟩
theorem KC {d i : Nat} {x : AV} (h : (x.shift d).ae i = true) : ∃ j,i = j + d /\ x.ae j = true := by
 cases x with
 | one c => exact tz h
 | agg cs => exact oK h
 | tup ps =>
  obtain ⟨q,hq,h⟩ := List.any_eq_true.1 h
  obtain ⟨q',hq',rfl⟩ := List.mem_map.1 hq
  obtain ⟨j,h1,h2⟩ := oK h
  exact ⟨j,h1,List.any_eq_true.2 ⟨q',hq',h2⟩⟩
theorem B6 {ρ ρ' : al} {w : World} {d j : Nat} {b : Blk} (hj : ρ'.loc (j + d) = ρ.loc j) (hl : ∀ i,b.ae i = true -> ρ'.loc (i + d) = ρ.loc i) (ho : ρ'.ok = ρ.ok) (h : eZ ρ w j b) : eZ ρ' w (j + d) (b.shift d) := by
 cases b with
 | box t cs => obtain ⟨g,vs,h0,h1,h2⟩ := h; exact ⟨g,vs,hj.trans h0,h1,ky hl ho h2⟩
 | arr e t l b =>
  obtain ⟨v,g,xs,h0,h1,h2⟩ := h
  exact ⟨v,g,xs,hj.trans h0,by rw [ho]; exact h1,h2⟩
 | fro e t l b =>
  obtain ⟨v,g,h0,h1⟩ := h
  exact ⟨v,g,hj.trans h0,by rw [ho]; exact h1⟩
 | nst e t l =>
  obtain ⟨v,g,hd,xs,h0,h1⟩ := h
  exact ⟨v,g,hd,xs,hj.trans h0,h1⟩
theorem BS {d : Nat} (b : Blk) : (b.shift d).kind = b.kind := by cases b <;> rfl
theorem Have.rp {ok : Nat -> Prop} {w : World} {e : TypeId} {t : Ty} {l : List t.T} {v : Value} {xs : List Value} {g : Option Nat} (ho : Have w e t.sz v l.length xs g) (hok : ∀ k,g = some k -> ok k) (hx : bU ok w t l xs) : Rp ok w (.sl e t) l [v] := by
 cases g with
 | none =>
  obtain ⟨h0,A,rfl⟩ := ho
  have : l = [] := List.eq_nil_of_length_eq_zero h0
  subst this
  simp only [Rp]
  exact ⟨A,0,rfl,Nat.zero_le _,Nat.zero_le _,fun hp => absurd hp (by simp)⟩
 | some g => exact yF ho.1 ho.2 (hok g rfl) hx
theorem Rn.rp {ok : Nat -> Prop} {w : World} : ∀ {t : Ty} {x : t.T} {cs : List Value} {hs : List (Value × Option Nat)},Rn w t x cs hs -> (∀ k ∈ hs.filterMap (·.2),ok k) -> Rp ok w t x cs
 | .int _,_,_,_,h,_ => by simp only [Rp]; exact h.1
 | .bool,_,_,_,h,_ => by simp only [Rp]; exact h.1
 | .str,_,_,_,h,_ => by simp only [Rp]; exact h.1
 | .nul f,_,_,_,h,_ => by simp only [Rp]; exact h.1
 | .sl e t,l,_,_,h,hk => by
  obtain ⟨hf,v,g,xs,rfl,rfl,h1,h2⟩ := h
  exact h2.rp (fun k he => hk k (by rw [he]; simp)) (h1.step (fun _ h => h.elim) (fun _ h => h.elim))
 | .pair a b,p,_,_,h,hk => by
  obtain ⟨c0,c1,h0,h1,rfl,rfl,h2,h3⟩ := h
  simp only [Rp]
  exact ⟨c0,c1,rfl,h2.rp fun k hm => hk k (by rw [List.filterMap_append]; exact List.mem_append_left _ hm),h3.rp fun k hm => hk k (by rw [List.filterMap_append]; exact List.mem_append_right _ hm)⟩
theorem nk.elems {ok : Nat -> Prop} {w : World} {e : TypeId} {t : Ty} {l : List t.T} {v : Value} {g : Option Nat} {hd : List (List (Value × Option Nat))} {xs : List Value} (h : nk w e t l v g hd xs) (hk : ∀ k ∈ kids hd,ok k) : bU ok w t l xs :=
 ⟨h.len,fun i p hp => by
  obtain ⟨hs,h1,h2⟩ := h.el i p hp
  exact h2.rp fun k hm => hk k (cF h1 hm)⟩
theorem gz {w : World} : ∀ {t : Ty} {x : t.T} {k : Nat} {q : Fc} {cs : List Value} {hs : List (Value × Option Nat)},t.rowAt x k = some q -> Rn w t x cs hs -> ∃ v g xs,hs[k]? = some (v,g) /\ q.1.2.flat = true /\ bU (fun _ => False) w q.1.2 q.2 xs /\ Have w q.1.1 q.1.2.sz v q.2.length xs g
 | .int _,_,_,_,_,_,h,_ => by cases h
 | .bool,_,_,_,_,_,h,_ => by cases h
 | .str,_,_,_,_,_,h,_ => by cases h
 | .nul _,_,_,_,_,_,h,_ => by cases h
 | .sl e t,l,k,q,_,_,h,hr => by
  obtain ⟨hf,v,g,xs,rfl,rfl,h1,h2⟩ := hr
  cases k with
  | zero =>
   simp only [Ty.rowAt,Option.some.injEq] at h
   subst h
   exact ⟨v,g,xs,rfl,hf,h1,h2⟩
  | succ k => simp [Ty.rowAt] at h
 | .pair a b,p,k,q,_,_,h,hr => by
  obtain ⟨c0,c1,h0,h1,rfl,rfl,h2,h3⟩ := hr
  simp only [Ty.rowAt,aq,Nat.blt_eq] at h
  split at h
  ·rename_i hlt
   obtain ⟨v,g,xs,h4,h5⟩ := gz h h2
   exact ⟨v,g,xs,by rw [List.getElem?_append_left (by rw [h2.mE]; exact hlt)]; exact h4,h5⟩
  ·rename_i hge
   obtain ⟨v,g,xs,h4,h5⟩ := gz h h3
   exact ⟨v,g,xs,by rw [List.getElem?_append_right (by rw [h2.mE]; omega),h2.mE]; exact h4,h5⟩
section
variable {P : Program} {E : Env} {B : Nat} {O : Ow} {w0 w w' : World} {ρ ρ' : al} {a : Act} {R : Type} {r : R} {sg sg' : Sig} {st : St}
def al.gk (ρ : al) (sg : Sig) (own : Bool) : al := ⟨ρ.loc,fun q k => ρ.ok q k ∨ (q = true /\ own = true /\ ∃ j,aP ρ sg j k)⟩
theorem jq (hE : Env.Ok P E) (h : Mem B O ρ sg w) {own : Bool} (ho : own = true) : ∀ {js : List Nat} {us : List Value} {l : List ((t : Ty) × t.T)},aF (fun j u => ∃ g,ρ.loc j = .box g /\ u = .pointer (some ⟨g,0,none⟩)) js us -> dI E sg js = some l ->
  aF (fun (p : (t : Ty) × t.T) u => ∃ a,Gi ((ρ.gk sg own).ok true) w p.1 p.2 a /\ u = .pointer (some a)) l us
 | [],us,l,hj,hl => by
  simp only [dI,Option.some.injEq] at hl
  subst hl
  cases hj
  exact .nil
 | j :: js,us,l,hj,hl => by
  cases hj with
  | cons h0 h1 =>
  simp only [dI] at hl
  split at hl
  ·rename_i ty cs hb
   split at hl
   ·rename_i td sz by_ τ ht
    split at hl
    ·rename_i x hx
     split at hl
     ·rename_i l' hl'
      simp only [Option.some.injEq] at hl
      subst hl
      obtain ⟨g,h2,rfl⟩ := h0
      obtain ⟨g',vs,h3,h4,h5⟩ := h.blk j _ hb
      rw [h2] at h3; cases h3
      refine .cons ⟨⟨g,0,none⟩,⟨?_,vs,?_,?_⟩,rfl⟩ (jq hE h ho h1 hl')
      ·exact .inr ⟨rfl,ho,j,aE.2 ⟨_,hb,by simp,.inl ⟨ty,cs,rfl,h2⟩⟩⟩
      ·exact (lB h.okm hx h5).step (fun g hg => .inl hg) (fun _ _ => rfl)
      ·intro q u hq
       rw [N0,Nat.zero_add]
       rw [cell_of_row w g q vs.toArray ty (0,0) h4]
       simpa using hq
     ·cases hl
    ·cases hl
   ·cases hl
  ·cases hl
theorem rV (hE : Env.Ok P E) (h : Mem B O ρ sg w) {own : Bool} {c c' : Cell} {u : Bool} {v : Value} (hr : rc ρ w c v) (hl : dX E sg c = some (c',u)) (hu : u = true -> own = true) : rc (ρ.gk sg own) w c' v /\ ∀ d,c'.ae d = true -> c'.p8 = true /\ own = true := by
 have up : ∀ b g,ρ.ok b g -> (ρ.gk sg own).ok b g := fun b g h => .inl h
 have step : Step (fun _ => True) ρ (ρ.gk sg own) w w := ⟨fun _ _ => rfl,up,fun _ _ _ => rfl⟩
 have upt : ∀ b g,ρ.ok b g -> (ρ.gk sg own).ok true g := fun b g hg => by
  cases b with
  | true => exact .inl hg
  | false => exact .inl (h.okm g hg)
 have arr : ∀ {j : Nat} {e : TypeId} {t : Ty} {l : List t.T} {b : Bool},sg.get j = some (.arr e t l b) -> own = true -> ∃ v g,ρ.loc j = .arr v g t.sz /\ Rp ((ρ.gk sg own).ok true) w (.sl e t) l [v] := by
  intro j e t l b hj ho
  obtain ⟨v,g,xs,h1,h2,h3⟩ := h.blk j _ hj
  refine ⟨v,g,h1,?_⟩
  cases g with
  | none =>
   obtain ⟨rfl,A,rfl⟩ := h3
   simp only [Rp]
   exact ⟨A,0,rfl,Nat.zero_le _,Nat.zero_le _,fun hp => absurd hp (by simp)⟩
  | some g => exact yF h3.1 h3.2 (.inr ⟨rfl,ho,j,aE.2 ⟨_,hj,by simp,.inr (.inl ⟨_,_,_,_,rfl,v,t.sz,h1⟩)⟩⟩) (h2.step (upt b) (fun _ _ => rfl))
 unfold dX at hl
 split at hl
 ·rename_i j
  split at hl
  ·rename_i e t l b hj
   cases hl
   obtain ⟨v',g,h1,h2⟩ := arr hj (hu rfl)
   obtain ⟨g',sz,h3⟩ := hr
   rw [h1] at h3; cases h3
   exact ⟨h2,fun _ h => (by cases h)⟩
  ·rename_i e t l b hj
   cases hl
   exact ⟨cM step (fun _ _ => trivial) ((gn h hj).1 v hr),fun _ h => (by cases h)⟩
  ·cases hl
 ·rename_i j o n
  split at hl
  ·rename_i e t l b hj
   cases hl
   obtain ⟨v',g,h1,h2⟩ := arr hj (hu rfl)
   obtain ⟨A,m,c,g',sz,h3,h4,h5⟩ := hr
   rw [h1] at h3; cases h3
   have h6 := h2
   simp only [Rp] at h6
   obtain ⟨A',c',h6,_⟩ := h6
   simp only [List.cons.injEq,Value.slice.injEq,and_true] at h6
   obtain ⟨rfl,rfl,rfl⟩ := h6
   exact ⟨Cw h2 h4 h5,fun _ h => (by cases h)⟩
  ·rename_i e t l b hj
   cases hl
   exact ⟨cM step (fun _ _ => trivial) ((gn h hj).2 o n v hr),fun _ h => (by cases h)⟩
  ·cases hl
 ·rename_i f js
  split at hl
  ·rename_i l hl'
   cases hl
   obtain ⟨vs,h0,h1⟩ := hr
   exact ⟨⟨vs,h0,jq hE h (hu rfl) h1 hl'⟩,fun _ h => (by cases h)⟩
  ·cases hl
 ·rename_i j
  split at hl
  ·rename_i e t l hj
   cases hl
   obtain ⟨V,g,hd,xs,h1,hN⟩ := h.blk j _ hj
   obtain ⟨_,_,_,h2⟩ := hr
   rw [h1] at h2; cases h2
   have how : ∀ k,k ∈ ct g hd -> (ρ.gk sg own).ok true k := fun k hk => .inr ⟨rfl,hu rfl,j,cD hj (h.blk j _ hj) (by simp) (by rw [h1]; exact hk)⟩
   exact ⟨hN.own.rp (fun k he => how k (by rw [he]; simp [ct])) (hN.elems fun k hk => how k (List.mem_append_right _ hk)),fun _ h => (by cases h)⟩
  ·cases hl
 ·cases hl
  exact ⟨cM step (fun _ _ => trivial) hr,fun d _ => ⟨rfl,hu rfl⟩⟩
 ·cases hl
 ·cases hl
 ·cases hl
 ·rename_i n1 n2 n4 n5 n6 n3 n7 n8
  cases hl
  refine ⟨cM step (fun _ _ => trivial) hr,fun d hd => ?_⟩
  cases c <;> first | (cases hd; done) | exact absurd rfl (n1 _) | exact absurd rfl (n2 _ _ _) | exact absurd rfl (n3 _ _ _) | exact absurd rfl (n4 _ _) | exact absurd rfl (n5 _) | exact absurd rfl (n6 _ _ _) | exact absurd rfl (n7 _ _ _)
theorem jv (hE : Env.Ok P E) (h : Mem B O ρ sg w) {own : Bool} : ∀ {cs cs' : List Cell} {u : Bool} {vs : List Value},aF (rc ρ w) cs vs -> cE E sg cs = some (cs',u) -> (u = true -> own = true) -> aF (rc (ρ.gk sg own) w) cs' vs /\ ∀ c ∈ cs',∀ d,c.ae d = true -> c.p8 = true /\ own = true
 | [],cs',u,vs,hr,hl,hu => by
  simp only [cE,Option.some.injEq,Prod.mk.injEq] at hl
  obtain ⟨rfl,rfl⟩ := hl
  cases hr
  exact ⟨.nil,fun _ h => by cases h⟩
 | c :: cs,cs',u,vs,hr,hl,hu => by
  cases hr with
  | cons h0 h1 =>
  simp only [cE] at hl
  split at hl
  ·rename_i c1 u1 hc
   split at hl
   ·rename_i cs1 u2 hcs
    simp only [Option.some.injEq,Prod.mk.injEq] at hl
    obtain ⟨rfl,rfl⟩ := hl
    obtain ⟨a1,a2⟩ := rV hE h (own := own) h0 hc (fun hu1 => hu (by simp [hu1]))
    obtain ⟨b1,b2⟩ := jv hE h h1 hcs (fun hu1 => hu (by simp [hu1]))
    exact ⟨.cons a1 b1,fun y hy => by
     rcases List.mem_cons.1 hy with rfl | hy
     ·exact a2
     ·exact b2 y hy⟩
   ·cases hl
  ·cases hl
theorem wV (hE : Env.Ok P E) (h : Mem B O ρ sg w) {own : Bool} {x x' : AV} {u : Bool} {v : Value} (hr : rav ρ w x v) (hl : wC E sg x = some (x',u)) (hu : u = true -> own = true) : rav (ρ.gk sg own) w x' v /\ ∀ c ∈ x'.all,∀ d,c.ae d = true -> c.p8 = true /\ own = true := by
 unfold wC at hl
 split at hl
 ·split at hl
  ·rename_i c1 u1 hc
   simp only [Option.some.injEq,Prod.mk.injEq] at hl
   obtain ⟨rfl,rfl⟩ := hl
   obtain ⟨h1,h2⟩ := rV hE h hr hc hu
   exact ⟨h1,fun c hc => by rw [List.mem_singleton.1 hc]; exact h2⟩
  ·cases hl
 ·split at hl
  ·rename_i c1 u1 hc
   simp only [Option.some.injEq,Prod.mk.injEq] at hl
   obtain ⟨rfl,rfl⟩ := hl
   obtain ⟨vs,h0,h1⟩ := hr
   obtain ⟨b1,b2⟩ := jv hE h h1 hc hu
   exact ⟨⟨vs,h0,b1⟩,b2⟩
  ·cases hl
 ·cases hl
theorem lk (hE : Env.Ok P E) (h : Mem B O ρ sg w) {own : Bool} : ∀ {xs xs' : List AV} {u : Bool} {vs : List Value},aF (rav ρ w) xs vs -> dj E sg xs = some (xs',u) -> (u = true -> own = true) -> aF (rav (ρ.gk sg own) w) xs' vs /\ ∀ x ∈ xs',∀ c ∈ x.all,∀ d,c.ae d = true -> c.p8 = true /\ own = true
 | [],xs',u,vs,hr,hl,hu => by
  simp only [dj,Option.some.injEq,Prod.mk.injEq] at hl
  obtain ⟨rfl,rfl⟩ := hl
  cases hr
  exact ⟨.nil,fun x hx => by cases hx⟩
 | x :: xs,xs',u,vs,hr,hl,hu => by
  cases hr with
  | cons h0 h1 =>
  simp only [dj] at hl
  split at hl
  ·rename_i c1 u1 hc
   split at hl
   ·rename_i cs1 u2 hcs
    simp only [Option.some.injEq,Prod.mk.injEq] at hl
    obtain ⟨rfl,rfl⟩ := hl
    obtain ⟨a1,a2⟩ := wV hE h (own := own) h0 hc (fun hu1 => hu (by simp [hu1]))
    obtain ⟨b1,b2⟩ := lk hE h h1 hcs (fun hu1 => hu (by simp [hu1]))
    exact ⟨.cons a1 b1,fun y hy => by
     rcases List.mem_cons.1 hy with rfl | hy
     ·exact a2
     ·exact b2 y hy⟩
   ·cases hl
  ·cases hl
theorem lg (h : Mem B O ρ sg w) {own : Bool} {c : Cell} {v : Value} {k : Cell -> Option R} (hr : rc (ρ.gk sg own) w c v) (hu : ∀ d,c.ae d = true -> c.p8 = true /\ own = true) (hk : eb sg c k = some r) : ∃ c',k c' = some r /\ rc (ρ.gk sg own) w c' v /\ ∀ d,c'.ae d = false := by
 unfold eb at hk
 split at hk
 ·rename_i j i n
  split at hk
  ·rename_i e t l hj
   split at hk
   ·rename_i x hx
    split at hk
    ·rename_i q hq
     have ho := (hu j (by simp [Cell.ae])).2
     obtain ⟨V,g,hd,xs,h1,hN⟩ := h.blk j _ hj
     obtain ⟨_,_,_,_,hs,q',h2,h3,h4⟩ := hr
     have h2 : ρ.loc j = _ := h2
     rw [h1] at h2; cases h2
     obtain ⟨hs',h5,h6⟩ := hN.el i x hx
     rw [h3] at h5; cases h5
     obtain ⟨v',g',xs',h7,_,h8,h9⟩ := gz hq h6
     rw [h4] at h7; cases h7
     have how : ∀ k,k ∈ ct g hd -> (ρ.gk sg own).ok true k := fun k hk => .inr ⟨rfl,ho,j,cD hj (h.blk j _ hj) (by simp) (by rw [h1]; exact hk)⟩
     exact ⟨_,hk,h9.rp (fun k' he => how k' (List.mem_append_right _ (cF h3 (List.mem_filterMap.2 ⟨_,List.mem_of_getElem? h4,he⟩)))) (h8.step (fun _ h => h.elim) (fun _ h => h.elim)),fun _ => rfl⟩
    ·cases hk
   ·cases hk
  ·cases hk
 ·rename_i n1
  refine ⟨c,hk,hr,fun d => ?_⟩
  cases hd : c.ae d with
  | false => rfl
  | true =>
   have h1 := (hu d hd).1
   cases c <;> first | (cases h1; done) | exact absurd rfl (n1 _ _ _)
theorem jL (h : Mem B O ρ sg w) {own : Bool} : ∀ {cs : List Cell} {vs : List Value} {k : List Cell -> Option R},aF (rc (ρ.gk sg own) w) cs vs -> (∀ c ∈ cs,∀ d,c.ae d = true -> c.p8 = true /\ own = true) -> df sg cs k = some r -> ∃ cs',k cs' = some r /\ aF (rc (ρ.gk sg own) w) cs' vs /\ ∀ d,cs'.any (·.ae d) = false
 | [],vs,k,hr,hu,hk => by
  cases hr
  exact ⟨[],hk,.nil,fun _ => rfl⟩
 | c :: cs,vs,k,hr,hu,hk => by
  cases hr with
  | cons h0 h1 =>
  simp only [df] at hk
  obtain ⟨c',h2,h3,h4⟩ := lg h h0 (hu c List.mem_cons_self) hk
  obtain ⟨cs',h5,h6,h7⟩ := jL h h1 (fun c hc => hu c (List.mem_cons_of_mem _ hc)) h2
  exact ⟨c' :: cs',h5,.cons h3 h6,fun d => by simp [h4 d,h7 d]⟩
theorem A9 (h : Mem B O ρ sg w) {own : Bool} {x : AV} {v : Value} {k : AV -> Option R} (hr : rav (ρ.gk sg own) w x v) (hu : ∀ c ∈ x.all,∀ d,c.ae d = true -> c.p8 = true /\ own = true) (hk : ln sg x k = some r) : ∃ x',k x' = some r /\ rav (ρ.gk sg own) w x' v /\ ∀ d,x'.ae d = false := by
 cases x with
 | one c =>
  simp only [ln] at hk
  obtain ⟨c',h1,h2,h3⟩ := lg h (c := c) hr (hu c (by simp [AV.all])) hk
  exact ⟨.one c',h1,h2,h3⟩
 | agg cs =>
  obtain ⟨vs,h0,h1⟩ := hr
  simp only [ln] at hk
  obtain ⟨cs',h2,h3,h4⟩ := jL h h1 (fun c hc => hu c hc) hk
  exact ⟨.agg cs',h2,⟨vs,h0,h3⟩,h4⟩
 | tup ps => cases hk
theorem na (h : Mem B O ρ sg w) {own : Bool} : ∀ {xs : List AV} {vs : List Value} {k : List AV -> Option R},aF (rav (ρ.gk sg own) w) xs vs -> (∀ x ∈ xs,∀ c ∈ x.all,∀ d,c.ae d = true -> c.p8 = true /\ own = true) -> eY sg xs k = some r -> ∃ xs',k xs' = some r /\ aF (rav (ρ.gk sg own) w) xs' vs /\ ∀ x ∈ xs',∀ d,x.ae d = false
 | [],vs,k,hr,hu,hk => by
  cases hr
  exact ⟨[],hk,.nil,fun x hx => by cases hx⟩
 | x :: xs,vs,k,hr,hu,hk => by
  cases hr with
  | cons h0 h1 =>
  simp only [eY] at hk
  obtain ⟨x',h2,h3,h4⟩ := A9 h h0 (hu x List.mem_cons_self) hk
  obtain ⟨xs',h5,h6,h7⟩ := na h h1 (fun x hx => hu x (List.mem_cons_of_mem _ hx)) h2
  exact ⟨x' :: xs',h5,.cons h3 h6,fun y hy => by
   rcases List.mem_cons.1 hy with rfl | hy
   ·exact h4
   ·exact h7 y hy⟩
end
end Go.Proofs.YtcddhifkfakcjaaGreat.Lib
namespace Go.Proofs.YtcddhifkfakcjaaGreat.Lib
open Go Go.RowKit
set_option linter.unusedVariables false
set_option linter.unusedSimpArgs false
section
variable {P : Program} {E : Env} {B : Nat} {O : Ow} {w0 w w' : World} {ρ ρ' : al} {a : Act} {R : Type}
theorem nM (t : Ty) (b : Bool) (x : t.T) (d : Nat) : (t.cells b x).any (·.ae d) = false := by
 induction t with
 | pair a c iha ihc => simp only [Ty.cells,List.any_append,iha,ihc]; rfl
 | _ => rfl
theorem Tys.sound : ∀ {ts : List Ty} {cs : List ((t : Ty) × t.T)} {k : Option R} {y : Tys.T ts R},Tys.cap ts cs k = some y -> (Tys.bld ts y).1 = cs /\ k = some (Tys.bld ts y).2
 | [],cs,k,y,h => by
  cases cs with
  | nil => exact ⟨rfl,h⟩
  | cons c r => cases h
 | t :: ts,cs,k,y,h => by
  cases cs with
  | nil => cases h
  | cons c r =>
   obtain ⟨t',x⟩ := c
   simp only [Tys.cap] at h
   split at h
   ·rename_i ht
    subst ht
    split at h
    ·rename_i y1 h1
     cases h
     obtain ⟨h2,h3⟩ := Tys.sound h1
     exact ⟨by simp only [Tys.bld,h2],h3⟩
    ·cases h
   ·cases h
theorem CPs.sound (hm : ∀ g,ρ.ok false g -> ρ.ok true g) : ∀ {ps : List CP} {cs : List Cell} {k : Option R} {y : CPs.T ps R},CPs.cap ps cs k = some y -> k = some (CPs.bld ps y).2 /\ (∀ vs,aF (rc ρ w) cs vs -> aF (rc ρ w) (CPs.bld ps y).1 vs)
 | [],cs,k,y,h => by
  cases cs with
  | nil => exact ⟨h,fun vs hv => hv⟩
  | cons c r => cases h
 | .dat t b :: r,cs,k,y,h => by
  simp only [CPs.cap] at h
  split at h
  ·rename_i x cs1 hp
   split at h
   ·rename_i y1 h1
    cases h
    obtain ⟨h2,h3⟩ := CPs.sound hm h1
    refine ⟨h2,fun vs hv => ?_⟩
    obtain ⟨v0,v1,rfl,h4,h5⟩ := gB hm hp hv
    exact (c8 h4).append (h3 v1 h5)
   ·cases h
  ·cases h
 | .own j :: r,cs,k,y,h => by
  cases cs with
  | nil => cases h
  | cons c cs =>
   cases c <;> simp only [CPs.cap] at h <;> try (cases h; done)
   rename_i j'
   simp only [aq,beq_iff_eq] at h
   split at h
   ·rename_i hj
    subst hj
    obtain ⟨h2,h3⟩ := CPs.sound hm h
    refine ⟨h2,fun vs hv => ?_⟩
    cases hv with
    | cons h0 h1 => exact .cons h0 (h3 _ h1)
   ·cases h
 | .ptr j c :: r,cs,k,y,h => by
  cases cs with
  | nil => cases h
  | cons cc cs =>
   cases cc <;> simp only [CPs.cap] at h <;> try (cases h; done)
   rename_i j' i' c'
   simp only [aq] at h
   split at h
   ·rename_i hj
    simp only [Bool.and_eq_true,beq_iff_eq] at hj
    obtain ⟨⟨rfl,rfl⟩,rfl⟩ := hj
    obtain ⟨h2,h3⟩ := CPs.sound hm h
    refine ⟨h2,fun vs hv => ?_⟩
    cases hv with
    | cons h0 h1 => exact .cons h0 (h3 _ h1)
   ·cases h
 | .und :: r,cs,k,y,h => by
  cases cs with
  | nil => cases h
  | cons c cs =>
   simp only [CPs.cap] at h
   obtain ⟨h2,h3⟩ := CPs.sound hm h
   refine ⟨h2,fun vs hv => ?_⟩
   cases hv with
   | cons h0 h1 => exact .cons trivial (h3 _ h1)
 | .fnc f ts :: r,cs,k,y,h => by
  cases cs with
  | nil => cases h
  | cons c cs =>
   cases c <;> simp only [CPs.cap] at h <;> try (cases h; done)
   rename_i f' caps
   simp only [aq,beq_iff_eq] at h
   split at h
   ·rename_i hf
    subst hf
    obtain ⟨h4,h5⟩ := Tys.sound h
    obtain ⟨h2,h3⟩ := CPs.sound hm h5
    refine ⟨h2,fun vs hv => ?_⟩
    cases hv with
    | cons h0 h1 =>
     simp only [CPs.bld]
     rw [h4]
     exact .cons h0 (h3 _ h1)
   ·cases h
 | .ept t :: r,cs,k,y,h => by
  cases cs with
  | nil => cases h
  | cons c cs =>
   cases c <;> simp only [CPs.cap] at h <;> try (cases h; done)
   rename_i t' x c b
   split at h
   ·rename_i ht
    subst ht
    simp only [aq,beq_iff_eq] at h
    split at h
    ·rename_i hc
     subst hc
     split at h
     ·rename_i y1 hy
      cases h
      obtain ⟨h2,h3⟩ := CPs.sound hm hy
      refine ⟨h2,fun vs hv => ?_⟩
      cases hv with
      | cons h0 h1 =>
       refine .cons ?_ (h3 _ h1)
       obtain ⟨a,ha,hv⟩ := h0
       refine ⟨a,ha.step (fun g hg => ?_) (fun _ _ => rfl),hv⟩
       cases b with
       | true => exact hg
       | false => exact hm g hg
     ·cases h
    ·cases h
   ·cases h
 | .fnp f js :: r,cs,k,y,h => by
  cases cs with
  | nil => cases h
  | cons cc cs =>
   cases cc <;> simp only [CPs.cap] at h <;> try (cases h; done)
   rename_i f' js'
   simp only [aq] at h
   split at h
   ·rename_i hj
    simp only [Bool.and_eq_true,beq_iff_eq] at hj
    obtain ⟨rfl,rfl⟩ := hj
    obtain ⟨h2,h3⟩ := CPs.sound hm h
    refine ⟨h2,fun vs hv => ?_⟩
    cases hv with
    | cons h0 h1 => exact .cons h0 (h3 _ h1)
   ·cases h
 | .nest j :: r,cs,k,y,h => by
  cases cs with
  | nil => cases h
  | cons cc cs =>
   cases cc <;> simp only [CPs.cap] at h <;> try (cases h; done)
   rename_i j'
   simp only [aq,beq_iff_eq] at h
   split at h
   ·rename_i hj
    subst hj
    obtain ⟨h2,h3⟩ := CPs.sound hm h
    refine ⟨h2,fun vs hv => ?_⟩
    cases hv with
    | cons h0 h1 => exact .cons h0 (h3 _ h1)
   ·cases h
theorem CPs.len {ρ : al} {w : World} : ∀ {ps : List CP} {y : CPs.T ps R} (d : Nat),(CPs.bld ps y).1.any (·.ae d) = true -> ps.any (·.ae d) = true
 | [],y,d,h => h
 | .dat t b :: r,y,d,h => by
  simp only [CPs.bld,List.any_append,nM,Bool.false_or] at h
  simp only [List.any_cons,CP.ae,Bool.false_or]
  exact CPs.len (ρ := ρ) (w := w) d h
 | .own j :: r,y,d,h => by
  simp only [CPs.bld,List.any_cons,Cell.ae,Bool.or_eq_true] at h
  simp only [List.any_cons,CP.ae,Bool.or_eq_true]
  exact h.imp id (CPs.len (ρ := ρ) (w := w) d)
 | .ptr j c :: r,y,d,h => by
  simp only [CPs.bld,List.any_cons,Cell.ae,Bool.or_eq_true] at h
  simp only [List.any_cons,CP.ae,Bool.or_eq_true]
  exact h.imp id (CPs.len (ρ := ρ) (w := w) d)
 | .und :: r,y,d,h => by
  simp only [CPs.bld,List.any_cons,Cell.ae,Bool.false_or] at h
  simp only [List.any_cons,CP.ae,Bool.false_or]
  exact CPs.len (ρ := ρ) (w := w) d h
 | .fnc f ts :: r,y,d,h => by
  simp only [CPs.bld,List.any_cons,Cell.ae,Bool.false_or] at h
  simp only [List.any_cons,CP.ae,Bool.false_or]
  exact CPs.len (ρ := ρ) (w := w) d h
 | .ept t :: r,y,d,h => by
  simp only [CPs.bld,List.any_cons,Cell.ae,Bool.false_or] at h
  simp only [List.any_cons,CP.ae,Bool.false_or]
  exact CPs.len (ρ := ρ) (w := w) d h
 | .fnp f js :: r,y,d,h => by
  simp only [CPs.bld,List.any_cons,Cell.ae,Bool.or_eq_true] at h
  simp only [List.any_cons,CP.ae,Bool.or_eq_true]
  exact h.imp id (CPs.len (ρ := ρ) (w := w) d)
 | .nest j :: r,y,d,h => by
  simp only [CPs.bld,List.any_cons,Cell.ae,Bool.or_eq_true] at h
  simp only [List.any_cons,CP.ae,Bool.or_eq_true]
  exact h.imp id (CPs.len (ρ := ρ) (w := w) d)
theorem SPs.sound (hm : ∀ g,ρ.ok false g -> ρ.ok true g) : ∀ {ss : List SP} {vs : List AV} {k : Option R} {y : SPs.T ss R},SPs.cap ss vs k = some y -> k = some (SPs.bld ss y).2 /\ (SPs.bld ss y).1.length = vs.length /\
  (∀ (i : Nat) (v' : AV),(SPs.bld ss y).1[i]? = some v' -> ∃ v,vs[i]? = some v /\ (∀ u,rav ρ w v u -> rav ρ w v' u) /\ ∀ d,v'.ae d = true -> ss.any (·.ae d) = true)
 | [],vs,k,y,h => by
  cases vs with
  | nil => exact ⟨h,rfl,fun i v' hi => by simp [SPs.bld] at hi⟩
  | cons c r => cases h
 | .und :: r,vs,k,y,h => by
  cases vs with
  | nil => cases h
  | cons v vs =>
   simp only [SPs.cap] at h
   obtain ⟨h1,h2,h3⟩ := SPs.sound hm h
   refine ⟨h1,by simp [SPs.bld,h2],fun i v' hi => ?_⟩
   cases i with
   | zero => simp only [SPs.bld,List.getElem?_cons_zero,Option.some.injEq] at hi; subst hi; exact ⟨v,rfl,fun _ _ => trivial,fun d hd => by cases hd⟩
   | succ i =>
    simp only [SPs.bld,List.getElem?_cons_succ] at hi
    obtain ⟨x,h4,h5,h6⟩ := h3 i v' hi
    exact ⟨x,by simpa using h4,h5,fun d hd => by simp only [List.any_cons,h6 d hd,Bool.or_true]⟩
 | .one p :: r,vs,k,y,h => by
  cases vs with
  | nil => cases h
  | cons v vs =>
   cases v <;> simp only [SPs.cap] at h <;> try (cases h; done)
   rename_i c
   obtain ⟨h0,h0'⟩ := CPs.sound (w := w) hm h
   obtain ⟨h1,h2,h3⟩ := SPs.sound hm h0
   refine ⟨h1,by simp [SPs.bld,h2],fun i v' hi => ?_⟩
   cases i with
   | zero =>
    simp only [SPs.bld,List.getElem?_cons_zero,Option.some.injEq] at hi
    subst hi
    refine ⟨.one c,rfl,fun u hu => ?_,fun d hd => ?_⟩
    ·have := h0' [u] (.cons hu .nil)
     generalize (CPs.bld [p] y).1 = l at this
     cases this with
     | cons h4 h5 => cases h5; exact h4
    ·have hl := CPs.len (ρ := ρ) (w := w) (ps := [p]) (y := y) d
     generalize (CPs.bld [p] y).1 = l at hl hd
     have : l.any (·.ae d) = true := by
      unfold oneOf at hd
      split at hd
      ·simpa [AV.ae] using hd
      ·cases hd
     have := hl this
     simp only [List.any_cons,SP.ae,List.any_nil,Bool.or_false] at this ⊢
     rw [this]; rfl
   | succ i =>
    simp only [SPs.bld,List.getElem?_cons_succ] at hi
    obtain ⟨x,h4,h5,h6⟩ := h3 i v' hi
    exact ⟨x,by simpa using h4,h5,fun d hd => by simp only [List.any_cons,h6 d hd,Bool.or_true]⟩
 | .agg ps :: r,vs,k,y,h => by
  cases vs with
  | nil => cases h
  | cons v vs =>
   cases v <;> simp only [SPs.cap] at h <;> try (cases h; done)
   rename_i cs
   obtain ⟨h0,h0'⟩ := CPs.sound (w := w) hm h
   obtain ⟨h1,h2,h3⟩ := SPs.sound hm h0
   refine ⟨h1,by simp [SPs.bld,h2],fun i v' hi => ?_⟩
   cases i with
   | zero =>
    simp only [SPs.bld,List.getElem?_cons_zero,Option.some.injEq] at hi
    subst hi
    refine ⟨.agg cs,rfl,fun u hu => ?_,fun d hd => ?_⟩
    ·obtain ⟨us,rfl,hus⟩ := hu
     exact ⟨us,rfl,h0' us hus⟩
    ·have := CPs.len (ρ := ρ) (w := w) (ps := ps) (y := y) d hd
     simp only [List.any_cons,SP.ae,this,Bool.true_or]
   | succ i =>
    simp only [SPs.bld,List.getElem?_cons_succ] at hi
    obtain ⟨x,h4,h5,h6⟩ := h3 i v' hi
    exact ⟨x,by simpa using h4,h5,fun d hd => by simp only [List.any_cons,h6 d hd,Bool.or_true]⟩
theorem ug (hm : ∀ g,ρ.ok false g -> ρ.ok true g) {j : Nat} {e : TypeId} {t : Ty} {l : List t.T} {b b' : Bool} (hb : (!b' || b) = true) (h : eZ ρ w j (.arr e t l b')) : eZ ρ w j (.arr e t l b) := by
 cases b' with
 | false =>
  cases b with
  | false => exact h
  | true =>
   obtain ⟨v,g,xs,h0,h1,h2⟩ := h
   exact ⟨v,g,xs,h0,h1.step hm (fun _ _ => rfl),h2⟩
 | true => cases b with | true => exact h | false => cases hb
theorem GPs.sound (hm : ∀ g,ρ.ok false g -> ρ.ok true g) {sg : Sig} : ∀ {gs : List (Nat × GP)} {y : GPs.T gs},GPs.cap gs sg = some y ->
  (∀ j b',(GPs.bld gs y).get j = some b' -> ∃ b,sg.get j = some b /\ (eZ ρ w j b -> eZ ρ w j b') /\ b.kind = b'.kind /\ ∀ d,b'.ae d = true -> gs.any (·.2.ae d) = true) /\
  (∀ d,gs.any (·.1 == d) = true -> ((GPs.bld gs y).get d).isSome = true)
 | [],y,h => by
  constructor
  ·intro j b' hj
   cases hj
  ·intro d hd
   cases hd
 | (i,.arr e t b) :: r,y,h => by
  simp only [GPs.cap] at h
  split at h
  ·rename_i e' t' l b' hg
   split at h
   ·rename_i ht
    subst ht
    simp only [aq] at h
    split at h
    ·rename_i hc
     simp only [Bool.and_eq_true,beq_iff_eq] at hc
     obtain ⟨rfl,hb⟩ := hc
     split at h
     ·rename_i y1 h1
      cases h
      obtain ⟨ih,ih2⟩ := GPs.sound hm h1
      refine ⟨fun j b2 hj => ?_,fun d hd => ?_⟩
      ·simp only [GPs.bld,Sig.get] at hj
       cases hij : (i == j) with
       | true =>
        rw [hij] at hj
        simp only [cond_true,Option.some.injEq] at hj
        have := eq_of_beq hij
        subst this
        subst hj
        exact ⟨_,hg,fun h => ug hm hb h,rfl,fun d hd => by cases hd⟩
       | false =>
        rw [hij] at hj
        obtain ⟨b3,h3,h4,h5,h6⟩ := ih j b2 (by simpa using hj)
        exact ⟨b3,h3,h4,h5,fun d hd => by simp only [List.any_cons,h6 d hd,Bool.or_true]⟩
      ·simp only [GPs.bld,Sig.get]
       simp only [List.any_cons,Bool.or_eq_true] at hd
       cases hij : (i == d) with
       | true => rfl
       | false => rw [hij] at hd; simpa using ih2 d (by simpa using hd)
     ·cases h
    ·cases h
   ·cases h
  ·cases h
 | (i,.box ty ps) :: r,y,h => by
  simp only [GPs.cap] at h
  split at h
  ·rename_i ty' cs hg
   simp only [aq,beq_iff_eq] at h
   split at h
   ·rename_i hty
    subst hty
    obtain ⟨h0,h0'⟩ := CPs.sound (w := w) hm h
    obtain ⟨ih,ih2⟩ := GPs.sound hm h0
    refine ⟨fun j b2 hj => ?_,fun d hd => ?_⟩
    ·simp only [GPs.bld,Sig.get] at hj
     cases hij : (i == j) with
     | true =>
      rw [hij] at hj
      simp only [cond_true,Option.some.injEq] at hj
      have := eq_of_beq hij
      subst this
      subst hj
      refine ⟨_,hg,fun h => ?_,rfl,fun d hd => ?_⟩
      ·obtain ⟨g,vs,h1,h2,h3⟩ := h
       exact ⟨g,vs,h1,h2,h0' vs h3⟩
      ·have := CPs.len (ρ := ρ) (w := w) (ps := ps) (y := y) d hd
       simp only [List.any_cons,GP.ae,this,Bool.true_or]
     | false =>
      rw [hij] at hj
      obtain ⟨b3,h3,h4,h5,h6⟩ := ih j b2 (by simpa using hj)
      exact ⟨b3,h3,h4,h5,fun d hd => by simp only [List.any_cons,h6 d hd,Bool.or_true]⟩
    ·simp only [GPs.bld,Sig.get]
     simp only [List.any_cons,Bool.or_eq_true] at hd
     cases hij : (i == d) with
     | true => rfl
     | false => rw [hij] at hd; simpa using ih2 d (by simpa using hd)
   ·cases h
  ·cases h
 | (i,.nst e t) :: r,y,h => by
  simp only [GPs.cap] at h
  split at h
  ·rename_i e' t' l hg
   split at h
   ·rename_i ht
    subst ht
    simp only [aq,beq_iff_eq] at h
    split at h
    ·rename_i hc
     subst hc
     split at h
     ·rename_i y1 h1
      cases h
      obtain ⟨ih,ih2⟩ := GPs.sound hm h1
      refine ⟨fun j b2 hj => ?_,fun d hd => ?_⟩
      ·simp only [GPs.bld,Sig.get] at hj
       cases hij : (i == j) with
       | true =>
        rw [hij] at hj
        simp only [cond_true,Option.some.injEq] at hj
        have := eq_of_beq hij
        subst this
        subst hj
        exact ⟨_,hg,fun h => h,rfl,fun d hd => by cases hd⟩
       | false =>
        rw [hij] at hj
        obtain ⟨b3,h3,h4,h5,h6⟩ := ih j b2 (by simpa using hj)
        exact ⟨b3,h3,h4,h5,fun d hd => by simp only [List.any_cons,h6 d hd,Bool.or_true]⟩
      ·simp only [GPs.bld,Sig.get]
       simp only [List.any_cons,Bool.or_eq_true] at hd
       cases hij : (i == d) with
       | true => rfl
       | false => rw [hij] at hd; simpa using ih2 d (by simpa using hd)
     ·cases h
    ·cases h
   ·cases h
  ·cases h
theorem Sim.cap {st : St} {ss : List SP} {gs : List (Nat × GP)} {v : StT ss gs} (h : Sim P B O w0 ρ st a w) (hwf : mo ss gs) (hc : jH ss gs st = some v) : Sim P B O w0 ρ (ar ss gs v) a w := by
 unfold jH at hc
 obtain ⟨h1,h2,h3⟩ := SPs.sound (w := w) h.mem.okm hc
 obtain ⟨h4,h5⟩ := GPs.sound (w := w) h.mem.okm h1
 have ho : ∀ j g,aP ρ (ar ss gs v).sg j g -> aP ρ st.sg j g := fun j g hj => by
  exact hj.tr (fun b' hb => by
   obtain ⟨b,h6,_,h8,_⟩ := h4 j b' hb
   exact ⟨b,h6,h8⟩) rfl
 refine ⟨⟨fun j b' hj => ?_,fun i j g hi hj => h.mem.inj i j g (ho i g hi) (ho j g hj),fun j g hj => h.mem.old j g (ho j g hj),h.mem.okb,fun b g hg j hj => h.mem.oko b g hg j (ho j g hj),h.mem.okm,h.mem.okx,h.mem.oky,fun j b' d hj hd => ?_⟩,?_,fun i v' hi => ?_,fun i v' d hi hd => ?_,h.defers,h.fr,h.base,h.pin,h.glo⟩
 ·obtain ⟨b,h6,h7,_⟩ := h4 j b' hj
  exact h7 (h.mem.blk j b h6)
 ·obtain ⟨b,h6,h7,h8,h9⟩ := h4 j b' hj
  exact h5 d (hwf d (by rw [h9 d hd,Bool.or_true]))
 ·rw [h.len]; exact h2.symm
 ·obtain ⟨x,h6,h7,_⟩ := h3 i v' hi
  obtain ⟨u,h8,h9⟩ := h.sl i x h6
  exact ⟨u,h8,h7 u h9⟩
 ·obtain ⟨x,h6,h7,h8⟩ := h3 i v' hi
  exact h5 d (hwf d (by rw [h8 d hd,Bool.true_or]))
theorem aL.run_bind {α : Type} (o : aL α) (k : α -> Option R) : o.run k = (o.run some).bind k := by
 induction o with
 | no => rfl
 | done x => rfl
 | br c a b iha ihb => simp only [aL.run]; cases c <;> assumption
def v8 (E : Env) (call : aJ) (g : FuncId) (args : List AV) : Option (AV × Sig) :=
 match jm args g E.prim with
 | some o => o.run some
 | none => call g args []
theorem sL {call : aJ} {g : FuncId} {args : List AV} (k : AV × Sig -> Option R) : Kf E call g args k = (v8 E call g args).bind k := by
 unfold Kf v8
 cases hl : jm args g E.prim with
 | none => rfl
 | some o => exact aL.run_bind _ _
theorem jc {g : FuncId} {args : List AV} {o : aL (AV × Sig)} : ∀ {l : List (FuncId × Prim)},jm args g l = some o -> ∃ p v,(g,p) ∈ l /\ SPs.cap p.ss args (some ()) = some v /\ o = p.F v
 | [],h => by cases h
 | (f,p) :: r,h => by
  simp only [jm,aq,beq_iff_eq] at h
  split at h
  ·rename_i hf
   subst hf
   split at h
   ·rename_i v hv
    cases h
    exact ⟨p,v,List.mem_cons_self,hv,rfl⟩
   ·obtain ⟨p',v,h1,h2,h3⟩ := jc h
    exact ⟨p',v,List.mem_cons_of_mem _ h1,h2,h3⟩
  ·obtain ⟨p',v,h1,h2,h3⟩ := jc h
   exact ⟨p',v,List.mem_cons_of_mem _ h1,h2,h3⟩
theorem Gx (w : World) {ss : List SP} {vs : List AV} {y : SPs.T ss Unit} (h : SPs.cap ss vs (some ()) = some y) (hu : ∀ v ∈ vs,∀ d,v.ae d = false) : ∀ v ∈ (SPs.bld (R := Unit) ss y).1,∀ d,v.ae d = false := by
 have hcp : ∀ {R : Type} {ps : List CP} {cs : List Cell} {k : Option R} {y : CPs.T ps R},CPs.cap ps cs k = some y -> ∀ d,cs.any (·.ae d) = false -> (CPs.bld ps y).1.any (·.ae d) = false := by
  intro R ps
  induction ps with
  | nil => intro cs k y h d hd; rfl
  | cons p r ih =>
   intro cs k y h d hd
   cases p with
   | dat t b =>
    simp only [CPs.cap] at h
    split at h
    ·rename_i x cs1 hp
     split at h
     ·rename_i y1 h1
      cases h
      simp only [CPs.bld,List.any_append,nM,Bool.false_or]
      refine ih h1 d ?_
      have : ∀ {t : Ty} {cs : List Cell} {p : t.T × List Cell},t.parse b cs = some p -> cs.any (·.ae d) = false -> p.2.any (·.ae d) = false := by
       intro t
       induction t with
       | pair a c iha ihc =>
        intro cs p h hd
        simp only [Ty.parse,Option.bind_eq_some_iff] at h
        obtain ⟨p1,h1,p2,h2,h3⟩ := h
        cases h3
        exact ihc h2 (iha h1 hd)
       | int k =>
        intro cs p h hd
        cases cs with
        | nil => simp [Ty.parse] at h
        | cons c r =>
         cases c <;> simp only [Ty.parse] at h <;> try (cases h; done)
         split at h
         ·cases h; simpa [Cell.ae] using hd
         ·cases h
       | bool =>
        intro cs p h hd
        cases cs with
        | nil => simp [Ty.parse] at h
        | cons c r =>
         cases c <;> simp only [Ty.parse] at h <;> try (cases h; done)
         cases h; simpa [Cell.ae] using hd
       | str =>
        intro cs p h hd
        cases cs with
        | nil => simp [Ty.parse] at h
        | cons c r =>
         cases c <;> simp only [Ty.parse] at h <;> try (cases h; done)
         cases h; simpa [Cell.ae] using hd
       | nul f =>
        intro cs p h hd
        cases cs with
        | nil => simp [Ty.parse] at h
        | cons c r =>
         cases c <;> simp only [Ty.parse] at h <;> try (cases h; done)
         split at h
         ·cases h; simpa [Cell.ae] using hd
         ·cases h
       | sl e t _ =>
        intro cs p h hd
        cases cs with
        | nil => simp [Ty.parse] at h
        | cons c r =>
         simp only [List.any_cons,Bool.or_eq_false_iff] at hd
         cases c <;> simp only [Ty.parse] at h <;> try (cases h; done)
         ·cases h; exact hd.2
         ·cases h; exact hd.2
         ·split at h
          ·split at h
           ·cases h; exact hd.2
           ·cases h
          ·cases h
      exact this hp hd
     ·cases h
    ·cases h
   | own j =>
    cases cs with
    | nil => cases h
    | cons c cs =>
     cases c <;> simp only [CPs.cap] at h <;> try (cases h; done)
     simp only [aq,beq_iff_eq] at h
     split at h
     ·rename_i hj
      subst hj
      simp only [List.any_cons,Bool.or_eq_false_iff] at hd
      simp only [CPs.bld,List.any_cons,hd.1,ih h d hd.2]; rfl
     ·cases h
   | ptr j c =>
    cases cs with
    | nil => cases h
    | cons cc cs =>
     cases cc <;> simp only [CPs.cap] at h <;> try (cases h; done)
     simp only [aq] at h
     split at h
     ·rename_i hj
      simp only [Bool.and_eq_true,beq_iff_eq] at hj
      obtain ⟨⟨rfl,rfl⟩,rfl⟩ := hj
      simp only [List.any_cons,Bool.or_eq_false_iff] at hd
      simp only [CPs.bld,List.any_cons,hd.1,ih h d hd.2]; rfl
     ·cases h
   | und =>
    cases cs with
    | nil => cases h
    | cons c cs =>
     simp only [CPs.cap] at h
     simp only [List.any_cons,Bool.or_eq_false_iff] at hd
     simp only [CPs.bld,List.any_cons,ih h d hd.2]; rfl
   | fnc f ts =>
    cases cs with
    | nil => cases h
    | cons c cs =>
     cases c <;> simp only [CPs.cap] at h <;> try (cases h; done)
     simp only [aq,beq_iff_eq] at h
     split at h
     ·simp only [List.any_cons,Bool.or_eq_false_iff] at hd
      obtain ⟨_,h5⟩ := Tys.sound h
      simp only [CPs.bld,List.any_cons,ih h5 d hd.2]; rfl
     ·cases h
   | ept t =>
    cases cs with
    | nil => cases h
    | cons c cs =>
     cases c <;> simp only [CPs.cap] at h <;> try (cases h; done)
     split at h
     ·simp only [aq,beq_iff_eq] at h
      split at h
      ·split at h
       ·rename_i y1 hy
        cases h
        simp only [List.any_cons,Bool.or_eq_false_iff] at hd
        simp only [CPs.bld,List.any_cons,ih hy d hd.2]; rfl
       ·cases h
      ·cases h
     ·cases h
   | fnp f js =>
    cases cs with
    | nil => cases h
    | cons c cs =>
     cases c <;> simp only [CPs.cap] at h <;> try (cases h; done)
     simp only [aq] at h
     split at h
     ·rename_i hj
      simp only [Bool.and_eq_true,beq_iff_eq] at hj
      obtain ⟨rfl,rfl⟩ := hj
      simp only [List.any_cons,Bool.or_eq_false_iff] at hd
      simp only [CPs.bld,List.any_cons,hd.1,ih h d hd.2]; rfl
     ·cases h
   | nest j =>
    cases cs with
    | nil => cases h
    | cons c cs =>
     cases c <;> simp only [CPs.cap] at h <;> try (cases h; done)
     simp only [aq,beq_iff_eq] at h
     split at h
     ·rename_i hj
      subst hj
      simp only [List.any_cons,Bool.or_eq_false_iff] at hd
      simp only [CPs.bld,List.any_cons,hd.1,ih h d hd.2]; rfl
     ·cases h
 have main : ∀ {R : Type} {ss : List SP} {vs : List AV} {k : Option R} {y : SPs.T ss R},SPs.cap ss vs k = some y -> (∀ v ∈ vs,∀ d,v.ae d = false) -> ∀ v ∈ (SPs.bld ss y).1,∀ d,v.ae d = false := by
  intro R ss
  induction ss with
  | nil => intro vs k y h hu v hv; simp [SPs.bld] at hv
  | cons s r ih =>
   intro vs k y h hu v hv d
   cases vs with
   | nil => cases s <;> cases h
   | cons v0 vs =>
    have hu' : ∀ v ∈ vs,∀ d,v.ae d = false := fun v hv => hu v (List.mem_cons_of_mem _ hv)
    cases s with
    | und =>
     simp only [SPs.cap] at h
     rcases List.mem_cons.1 hv with rfl | hv
     ·rfl
     ·exact ih h hu' v hv d
    | one p =>
     cases v0 <;> simp only [SPs.cap] at h <;> try (cases h; done)
     rename_i c
     have h0 := (CPs.sound (ρ := ⟨fun _ => .dead,fun _ _ => False⟩) (w := w) (fun _ h => h) h).1
     rcases List.mem_cons.1 hv with rfl | hv
     ·have := hcp h d (by simpa [AV.ae] using hu (.one c) List.mem_cons_self d)
      generalize (CPs.bld [p] y).1 = l at this
      unfold oneOf
      split
      ·simpa [AV.ae] using this
      ·rfl
     ·exact ih h0 hu' v hv d
    | agg ps =>
     cases v0 <;> simp only [SPs.cap] at h <;> try (cases h; done)
     rename_i cs
     have h0 := (CPs.sound (ρ := ⟨fun _ => .dead,fun _ _ => False⟩) (w := w) (fun _ h => h) h).1
     rcases List.mem_cons.1 hv with rfl | hv
     ·exact hcp h d (hu (.agg cs) List.mem_cons_self d)
     ·exact ih h0 hu' v hv d
 exact main h hu
theorem IQ (hE : Env.Ok P E) {call : aJ} (hC : cJ P call) {g : FuncId} {args : List AV} {res : AV} {out : Sig} (h : v8 E call g args = some (res,out)) : wA P g args res out := by
 unfold v8 at h
 split at h
 ·rename_i o ho
  obtain ⟨p,v,hp,hv,rfl⟩ := jc ho
  intro ρ0 w vs h1 h2 hgl h3 h4
  have hF := h
  obtain ⟨h5,h6,h7⟩ := SPs.sound (w := w) h2 hv
  refine hE.prim _ hp v res out hF ρ0 w vs h1 h2 hgl ?_ (Gx w hv h4)
  generalize (SPs.bld (R := Unit) p.ss v).1 = l at h6 h7
  clear hv h4 h ho hgl
  induction h3 generalizing l with
  | nil =>
   cases l with
   | nil => exact .nil
   | cons x l => simp at h6
  | @cons x u xs us hx hxs ih =>
   cases l with
   | nil => simp at h6
   | cons y l =>
    refine .cons ?_ (ih l (by simpa using h6) fun i v' hi => by simpa using h7 (i + 1) v' (by simpa using hi))
    obtain ⟨z,h8,h9,_⟩ := h7 0 y rfl
    have : x = z := by simpa using h8
    subst this
    exact h9 u hx
 ·exact hC g args res out h
theorem aA {ss : List SP} {gs : List (Nat × GP)} (h : wfB ss gs = true) : mo ss gs := by
 simp only [wfB,Bool.and_eq_true,List.all_eq_true] at h
 have key : ∀ (p : CP) (d : Nat),(match p with | .own j | .ptr j _ | .nest j => gs.any (·.1 == j) | .fnp _ js => js.all fun j => gs.any (·.1 == j) | _ => true) = true -> p.ae d = true -> gs.any (·.1 == d) = true := by
  intro p d h1 h2
  cases p with
  | own j => have := eq_of_beq h2; subst this; exact h1
  | ptr j c => have := eq_of_beq h2; subst this; exact h1
  | nest j => have := eq_of_beq h2; subst this; exact h1
  | dat t b => cases h2
  | und => cases h2
  | fnc f ts => cases h2
  | ept t => cases h2
  | fnp f js => exact List.all_eq_true.1 h1 d (List.contains_iff_mem.1 h2)
 intro d hd
 rw [Bool.or_eq_true,List.any_eq_true,List.any_eq_true] at hd
 rcases hd with ⟨s,hs,hd⟩ | ⟨g,hg,hd⟩
 ·have := h.1 s hs
  cases s with
  | und => cases hd
  | one p => exact key p d this hd
  | agg ps =>
   obtain ⟨p,hp,hd⟩ := List.any_eq_true.1 hd
   exact key p d (List.all_eq_true.1 this p hp) hd
 ·have := h.2 g hg
  obtain ⟨j,g⟩ := g
  cases g with
  | arr e t b => cases hd
  | nst e t => cases hd
  | box ty ps =>
   obtain ⟨p,hp,hd⟩ := List.any_eq_true.1 hd
   exact key p d (List.all_eq_true.1 this p hp) hd
end
end Go.Proofs.YtcddhifkfakcjaaGreat.Lib
namespace Go.Proofs.YtcddhifkfakcjaaGreat.Lib
open Go Go.RowKit
set_option linter.unusedVariables false
set_option linter.unusedSimpArgs false
theorem lK : ∀ {l : List Nat},nodup l = true -> ∀ (i j : Nat) (a : Nat),l[i]? = some a -> l[j]? = some a -> i = j
 | [],_,i,j,a,h,_ => by simp at h
 | x :: l,hn,i,j,a,hi,hj => by
  simp only [nodup,Bool.and_eq_true,Bool.not_eq_true'] at hn
  cases i with
  | zero =>
   cases j with
   | zero => rfl
   | succ j =>
    simp at hi hj
    subst hi
    have := List.mem_of_getElem? hj
    simp [this] at hn
  | succ i =>
   cases j with
   | zero =>
    simp at hi hj
    subst hj
    have := List.mem_of_getElem? hi
    simp [this] at hn
   | succ j =>
    simp at hi hj
    rw [lK hn.2 i j a hi hj]
theorem kI {js : List (Nat × Nat)} (h : bZ js = true) {i j k : Nat} (h1 : (i,j) ∈ js) (h2 : (i,k) ∈ js) : j = k := by
 simp only [bZ,Bool.and_eq_true] at h
 obtain ⟨a,ha⟩ := List.getElem?_of_mem h1
 obtain ⟨b,hb⟩ := List.getElem?_of_mem h2
 have := lK h.1 a b i (by rw [List.getElem?_map,ha]; rfl) (by rw [List.getElem?_map,hb]; rfl)
 subst this
 rw [ha] at hb
 cases hb; rfl
theorem vC {js : List (Nat × Nat)} (h : bZ js = true) {i j k : Nat} (h1 : (i,k) ∈ js) (h2 : (j,k) ∈ js) : i = j := by
 simp only [bZ,Bool.and_eq_true] at h
 obtain ⟨a,ha⟩ := List.getElem?_of_mem h1
 obtain ⟨b,hb⟩ := List.getElem?_of_mem h2
 have := lK h.2 a b k (by rw [List.getElem?_map,ha]; rfl) (by rw [List.getElem?_map,hb]; rfl)
 subst this
 rw [ha] at hb
 cases hb; rfl
section
variable {P : Program} {E : Env} {B : Nat} {O : Ow} {w0 w w' : World} {ρ ρ' : al} {a : Act} {R : Type} {r : R} {sg sg' : Sig} {st : St} {call : aJ}
def Out (sg out : Sig) (js : List (Nat × Nat)) : Prop := ∀ i b,out.get i = some b -> ∃ j,(i,j) ∈ js /\ sg.get j = some b /\ ((∃ e t l q,b = .arr e t l q) ∨ (∃ ty cs,b = .box ty cs /\ cs.all (·.BG) = true) ∨ ∃ e t l,b = .nst e t l)
theorem qi {c : Cell} (h : c.BG = true) (d : Nat) : c.ae d = false := by cases c <;> first | rfl | cases h
theorem ez (h : Mem B O ρ sg w) : ∀ {cs : List Cell} {n : Nat} {vs : List Value} {cs' : List Cell} {out : Sig} {js : List (Nat × Nat)},aF (rc ρ w) cs vs -> eF sg cs n = some (cs',out,js) ->
  (∀ L : Nat -> Loc,(∀ i j,(i,j) ∈ js -> L i = ρ.loc j) -> aF (rc ⟨L,ρ.ok⟩ w) cs' vs) /\ Out sg out js /\ (∀ d,cs'.any (·.ae d) = true -> (out.get d).isSome = true)
 | [],n,vs,cs',out,js,hr,hl => by
  simp only [eF,Option.some.injEq,Prod.mk.injEq] at hl
  obtain ⟨rfl,rfl,rfl⟩ := hl
  cases hr
  exact ⟨fun _ _ => .nil,(fun i b hi => by cases hi),fun d hd => by cases hd⟩
 | c :: cs,n,vs,cs',out,js,hr,hl => by
  cases hr with
  | @cons _ u0 _ us h0 h1 =>
  simp only [eF] at hl
  split at hl
  ·rename_i cs1 out1 js1 hrec
   obtain ⟨i1,i2,i3⟩ := ez h h1 hrec
   have plain : ∀ {d : Cell},(∀ x,d.ae x = false) -> rc ρ w d u0 -> (cs',out,js) = (d :: cs1,out1,js1) -> (∀ L : Nat -> Loc,(∀ i j,(i,j) ∈ js -> L i = ρ.loc j) -> aF (rc ⟨L,ρ.ok⟩ w) cs' (u0 :: us)) /\ Out sg out js /\ (∀ d,cs'.any (·.ae d) = true -> (out.get d).isSome = true) := by
    intro d hu hd he
    cases he
    refine ⟨fun L hL => .cons (cM (ρ := ρ) (ρ' := ⟨L,ρ.ok⟩) (w := w) (U := fun _ => False) ⟨fun _ h => h.elim,fun _ _ h => h,fun _ _ _ => rfl⟩ (fun x hx => by rw [hu x] at hx; cases hx) hd) (i1 L hL),i2,fun x hx => ?_⟩
    simp only [List.any_cons,hu x,Bool.false_or] at hx
    exact i3 x hx
   split at hl
   ·rename_i j
    split at hl
    ·rename_i e t l b hj
     simp only [Option.some.injEq,Prod.mk.injEq] at hl
     obtain ⟨rfl,rfl,rfl⟩ := hl
     refine ⟨fun L hL => .cons ?_ (i1 L (fun i j hij => hL i j (List.mem_cons_of_mem _ hij))),fun i b' hi => ?_,fun x hx => ?_⟩
     ·obtain ⟨g,sz,h2⟩ := h0
      exact ⟨g,sz,(hL _ j List.mem_cons_self).trans h2⟩
     ·simp only [Sig.get,aq] at hi
      split at hi
      ·rename_i he
       cases hi
       have he := eq_of_beq he
       subst he
       exact ⟨j,List.mem_cons_self,hj,.inl ⟨_,_,_,_,rfl⟩⟩
      ·obtain ⟨j',a1,a2⟩ := i2 i b' hi
       exact ⟨j',List.mem_cons_of_mem _ a1,a2⟩
     ·simp only [List.any_cons,Bool.or_eq_true] at hx
      simp only [Sig.get,aq]
      split
      ·rfl
      ·rename_i hne
       rcases hx with hx | hx
       ·exact absurd hx hne
       ·exact i3 x hx
    ·rename_i e t l b hj
     simp only [Option.some.injEq] at hl
     exact plain (fun _ => rfl) ((gn h hj).1 _ h0) hl.symm
    ·cases hl
   ·rename_i j o m
    split at hl
    ·rename_i e t l b hj
     simp only [Option.some.injEq] at hl
     exact plain (fun _ => rfl) ((gn h hj).2 _ _ _ h0) hl.symm
    ·cases hl
   ·rename_i j i o
    split at hl
    ·rename_i ty bs hj
     simp only [aq] at hl
     split at hl
     ·rename_i hc
      simp only [Bool.and_eq_true,beq_iff_eq] at hc
      obtain ⟨rfl,rfl,hf⟩ := hc
      simp only [Option.some.injEq,Prod.mk.injEq] at hl
      obtain ⟨rfl,rfl,rfl⟩ := hl
      refine ⟨fun L hL => .cons ?_ (i1 L (fun i j hij => hL i j (List.mem_cons_of_mem _ hij))),fun i b' hi => ?_,fun x hx => ?_⟩
      ·obtain ⟨g,vs,h2,_⟩ := h.blk j _ hj
       rcases h0 with ⟨_,g',h3,h4⟩ | ⟨_,_,_,_,_,h3,_⟩
       ·exact .inl ⟨rfl,g',(hL _ j List.mem_cons_self).trans h3,h4⟩
       ·rw [h2] at h3; cases h3
      ·simp only [Sig.get,aq] at hi
       split at hi
       ·rename_i he
        cases hi
        have he := eq_of_beq he
        subst he
        exact ⟨j,List.mem_cons_self,hj,.inr (.inl ⟨_,_,rfl,hf⟩)⟩
       ·obtain ⟨j',a1,a2⟩ := i2 i b' hi
        exact ⟨j',List.mem_cons_of_mem _ a1,a2⟩
      ·simp only [List.any_cons,Bool.or_eq_true] at hx
       simp only [Sig.get,aq]
       split
       ·rfl
       ·rename_i hne
        rcases hx with hx | hx
        ·exact absurd hx hne
        ·exact i3 x hx
     ·cases hl
    ·cases hl
   ·rename_i j
    split at hl
    ·rename_i e t l hj
     simp only [Option.some.injEq,Prod.mk.injEq] at hl
     obtain ⟨rfl,rfl,rfl⟩ := hl
     refine ⟨fun L hL => .cons ?_ (i1 L (fun i j hij => hL i j (List.mem_cons_of_mem _ hij))),fun i b' hi => ?_,fun x hx => ?_⟩
     ·obtain ⟨g,sz,hd,h2⟩ := h0
      exact ⟨g,sz,hd,(hL _ j List.mem_cons_self).trans h2⟩
     ·simp only [Sig.get,aq] at hi
      split at hi
      ·rename_i he
       cases hi
       have he := eq_of_beq he
       subst he
       exact ⟨j,List.mem_cons_self,hj,.inr (.inr ⟨_,_,_,rfl⟩)⟩
      ·obtain ⟨j',a1,a2⟩ := i2 i b' hi
       exact ⟨j',List.mem_cons_of_mem _ a1,a2⟩
     ·simp only [List.any_cons,Bool.or_eq_true] at hx
      simp only [Sig.get,aq]
      split
      ·rfl
      ·rename_i hne
       rcases hx with hx | hx
       ·exact absurd hx hne
       ·exact i3 x hx
    ·cases hl
   ·cases hl
   ·cases hl
   ·cases hl
   ·cases hl
   ·rename_i n1 n2 n3 n4 n5 n6 n7 n8
    simp only [Option.some.injEq] at hl
    refine plain (fun x => ?_) h0 hl.symm
    cases c <;> first | rfl | exact absurd rfl (n1 _) | exact absurd rfl (n2 _ _ _) | exact absurd rfl (n3 _ _ _) | exact absurd rfl (n4 _) | exact absurd rfl (n5 _ _) | exact absurd rfl (n6 _ _ _) | exact absurd rfl (n7 _ _ _)
  ·cases hl
theorem Out.append {out out' : Sig} {js js' : List (Nat × Nat)} (h : Out sg out js) (h' : Out sg out' js') : Out sg (out ++ out') (js ++ js') := by
 intro i b hi
 rw [Sig.get_append] at hi
 cases ho : out.get i with
 | some b0 =>
  rw [ho] at hi
  cases hi
  obtain ⟨j,a1,a2⟩ := h i _ ho
  exact ⟨j,List.mem_append_left _ a1,a2⟩
 | none =>
  rw [ho] at hi
  obtain ⟨j,a1,a2⟩ := h' i b hi
  exact ⟨j,List.mem_append_right _ a1,a2⟩
theorem fq {v : AV} {u : Value} {g : Bool} {cs : List Cell} (hr : rav ρ w v u) (hp : iO v = some (g,cs)) : rp ρ w (g,cs) u := by
 unfold iO at hp
 split at hp
 ·cases hp; exact ⟨_,rfl,hr⟩
 ·cases hp; exact hr
 ·cases hp
theorem zI {g : Bool} {cs : List Cell} {u : Value} (h : rp ρ w (g,cs) u) : ∃ vs,aF (rc ρ w) cs vs /\ ∀ (ρ' : al) (cs' : List Cell),aF (rc ρ' w) cs' vs -> rp ρ' w (g,cs') u := by
 cases g with
 | true =>
  obtain ⟨vs,rfl,h⟩ := h
  exact ⟨vs,h,fun ρ' cs' h' => ⟨vs,rfl,h'⟩⟩
 | false =>
  obtain ⟨c,rfl,h⟩ := h
  refine ⟨[u],.cons h .nil,fun ρ' cs' h' => ?_⟩
  cases h' with
  | cons h1 h2 => cases h2; exact ⟨_,rfl,h1⟩
theorem fY (h : Mem B O ρ sg w) : ∀ {vs : List AV} {n : Nat} {us : List Value} {ps : List (Bool × List Cell)} {out : Sig} {js : List (Nat × Nat)},aF (rav ρ w) vs us -> gN sg vs n = some (ps,out,js) ->
  (∀ L : Nat -> Loc,(∀ i j,(i,j) ∈ js -> L i = ρ.loc j) -> aF (rp ⟨L,ρ.ok⟩ w) ps us) /\ Out sg out js /\ (∀ d,ps.any (·.2.any (·.ae d)) = true -> (out.get d).isSome = true)
 | [],n,us,ps,out,js,hr,hl => by
  simp only [gN,Option.some.injEq,Prod.mk.injEq] at hl
  obtain ⟨rfl,rfl,rfl⟩ := hl
  cases hr
  exact ⟨fun _ _ => .nil,(fun i b hi => by cases hi),fun d hd => by cases hd⟩
 | v :: vs,n,us,ps,out,js,hr,hl => by
  cases hr with
  | @cons _ u0 _ us h0 h1 =>
  simp only [gN] at hl
  split at hl
  ·rename_i g cs hp
   split at hl
   ·rename_i cs1 out1 js1 ps2 out2 js2 hc ht
    simp only [Option.some.injEq,Prod.mk.injEq] at hl
    obtain ⟨rfl,rfl,rfl⟩ := hl
    obtain ⟨vs0,a1,a2⟩ := zI (fq h0 hp)
    obtain ⟨b1,b2,b3⟩ := ez h a1 hc
    obtain ⟨c1,c2,c3⟩ := fY h h1 ht
    refine ⟨fun L hL => .cons (a2 _ _ (b1 L fun i j hij => hL i j (List.mem_append_left _ hij))) (c1 L fun i j hij => hL i j (List.mem_append_right _ hij)),b2.append c2,fun d hd => ?_⟩
    rw [Sig.get_append]
    simp only [List.any_cons,Bool.or_eq_true] at hd
    rcases hd with hd | hd
    ·have := b3 d hd
     obtain ⟨b,hb⟩ := Option.isSome_iff_exists.1 this
     rw [hb]; rfl
    ·have := c3 d hd
     cases hb : out1.get d with
     | some b => rfl
     | none => exact this
   ·cases hl
  ·cases hl
theorem pQ (h : Mem B O ρ sg w) {out : Sig} {js : List (Nat × Nat)} (ho : Out sg out js) (hj : bZ js = true) :
  ∃ L : Nat -> Loc,(∀ i j,(i,j) ∈ js -> L i = ρ.loc j) /\ Mem B O ⟨L,ρ.ok⟩ out w := by
 have hex : ∀ i,∃ l : Loc,∀ j,(i,j) ∈ js -> l = ρ.loc j := by
  intro i
  by_cases hi : ∃ j,(i,j) ∈ js
  ·obtain ⟨j,hj1⟩ := hi
   exact ⟨ρ.loc j,fun k hk => by rw [kI hj hj1 hk]⟩
  ·exact ⟨.dead,fun j hj => absurd ⟨j,hj⟩ hi⟩
 refine ⟨fun i => Classical.choose (hex i),fun i j hij => Classical.choose_spec (hex i) j hij,?_⟩
 have hL : ∀ i j,(i,j) ∈ js -> Classical.choose (hex i) = ρ.loc j := fun i j hij => Classical.choose_spec (hex i) j hij
 have hown : ∀ i g,aP ⟨fun i => Classical.choose (hex i),ρ.ok⟩ out i g -> ∃ j,(i,j) ∈ js /\ aP ρ sg j g := by
  intro i g hi
  obtain ⟨b,h1,h2,h3⟩ := aE.1 hi
  obtain ⟨j,a1,a2,hb⟩ := ho i b h1
  exact ⟨j,a1,hi.tr (fun b' h => by rw [h1] at h; cases h; exact ⟨b,a2,rfl⟩) (hL i j a1)⟩
 refine ⟨fun i b hi => ?_,fun i k g hi hk => ?_,fun i g hi => ?_,h.okb,fun q g hq i hi => ?_,h.okm,h.okx,h.oky,fun i b d hi hd => ?_⟩
 ·obtain ⟨j,a1,a2,⟨e,t,l,q,rfl⟩ | ⟨ty,cs,rfl,hf⟩ | ⟨e,t,l,rfl⟩⟩ := ho i b hi
  ·obtain ⟨v,g,xs,b1,b2⟩ := h.blk j _ a2
   exact ⟨v,g,xs,(hL i j a1).trans b1,b2⟩
  rotate_left
  ·obtain ⟨v,g,hd,xs,b1,b2⟩ := h.blk j _ a2
   exact ⟨v,g,hd,xs,(hL i j a1).trans b1,b2⟩
  ·obtain ⟨g,vs,b1,b2,b3⟩ := h.blk j _ a2
   refine ⟨g,vs,(hL i j a1).trans b1,b2,?_⟩
   clear b1 b2 a2 hi
   induction b3 with
   | nil => exact .nil
   | cons h1 _ ih =>
    rw [List.all_cons,Bool.and_eq_true] at hf
    exact .cons (cM (ρ := ρ) (ρ' := ⟨fun i => Classical.choose (hex i),ρ.ok⟩) (w := w) (w' := w) (U := fun _ => False) ⟨fun _ h => h.elim,fun _ _ h => h,fun _ _ _ => rfl⟩ (fun x hx => by rw [qi hf.1 x] at hx; cases hx) h1) (ih hf.2)
 ·obtain ⟨j,a1,a2⟩ := hown i g hi
  obtain ⟨j',a3,a4⟩ := hown k g hk
  have := h.inj j j' g a2 a4
  subst this
  exact vC hj a1 a3
 ·obtain ⟨j,a1,a2⟩ := hown i g hi
  exact h.old j g a2
 ·obtain ⟨j,a1,a2⟩ := hown i g hi
  exact h.oko q g hq j a2
 ·obtain ⟨j,a1,a2,⟨e,t,l,q,rfl⟩ | ⟨ty,cs,rfl,hf⟩ | ⟨e,t,l,rfl⟩⟩ := ho i b hi
  ·cases hd
  rotate_left
  ·cases hd
  ·simp only [Blk.ae,List.any_eq_true] at hd
   obtain ⟨c,hc,hd⟩ := hd
   rw [qi (List.all_eq_true.1 hf c hc) d] at hd
   cases hd
end
end Go.Proofs.YtcddhifkfakcjaaGreat.Lib
namespace Go.Proofs.YtcddhifkfakcjaaGreat.Lib
open Go Go.RowKit
set_option linter.unusedVariables false
set_option linter.unusedSimpArgs false
section
variable {P : Program} {E : Env} {B : Nat} {O O' : Ow} {w0 w w' : World} {ρ ρ' : al} {a : Act} {R : Type} {r : R} {sg sg' : Sig} {st : St} {call : aJ}
theorem Mem.ow (h : Mem B O ρ sg w) (h1 : O'.o = O.o) (h2 : O'.ok0 = O.ok0) : Mem B O' ρ sg w :=
 ⟨h.blk,h.inj,fun j g hj => by rw [h1]; exact h.old j g hj,h.okb,h.oko,h.okm,fun b g hg => by rw [h1,h2]; exact h.okx b g hg,fun b g hg => h.oky b g (by rw [← h2]; exact hg),h.dom⟩
theorem Am {c : Cell} {v : Value} (hp : c.plain = true) (h : rc ρ w c v) : rc ρ' w' c v := by
 cases c with
 | int k n => exact h
 | bool b => exact h
 | str s => exact h
 | _ => cases hp
theorem kW {x : AV} {v : Value} (hp : x.plain = true) (h : rav ρ w x v) : rav ρ' w' x v := by
 cases x with
 | one c => exact Am hp h
 | agg cs =>
  obtain ⟨vs,h0,h1⟩ := h
  exact ⟨vs,h0,h1.imp fun c v hc h => Am (List.all_eq_true.1 hp c hc) h⟩
 | tup ps => cases hp
theorem tN {c : Cell} (hp : c.plain = true) (d : Nat) : c.ae d = false := by
 cases c with
 | int k n => rfl
 | bool b => rfl
 | str s => rfl
 | _ => cases hp
theorem lR {x : AV} (hp : x.plain = true) (d : Nat) : x.ae d = false := by
 cases x with
 | one c => exact tN hp d
 | agg cs =>
  cases h : (AV.agg cs).ae d with
  | false => rfl
  | true =>
   obtain ⟨c,hc,hu⟩ := List.any_eq_true.1 h
   rw [tN (List.all_eq_true.1 hp c hc) d] at hu
   cases hu
 | tup ps => cases hp
theorem iU {js : List (Nat × Nat)} {i j : Nat} (h : cK js j = some i) : (i,j) ∈ js := by
 induction js with
 | nil => cases h
 | cons q r ih =>
  obtain ⟨i',j'⟩ := q
  simp only [cK,aq,beq_iff_eq] at h
  split at h
  ·rename_i he; cases h; rw [he]; exact List.mem_cons_self
  ·exact List.mem_cons_of_mem _ (ih h)
theorem qj {js : List (Nat × Nat)} {i j : Nat} (h : (i,j) ∈ js) : ∃ i',cK js j = some i' := by
 induction js with
 | nil => cases h
 | cons q r ih =>
  obtain ⟨i0,j0⟩ := q
  simp only [cK,aq,beq_iff_eq]
  split
  ·exact ⟨_,rfl⟩
  ·rename_i hn
   rcases List.mem_cons.1 h with h | h
   ·cases h; exact absurd rfl hn
   ·exact ih h
theorem im (js : List (Nat × Nat)) (upd sg : Sig) (j : Nat) : (jT js upd sg).get j = (sg.get j).map fun b => (match jA js upd j with | some b' => b' | none => b) := by
 induction sg with
 | nil => rfl
 | cons q r ih =>
  obtain ⟨i,b⟩ := q
  simp only [jT,Sig.get,ih,aq,beq_iff_eq]
  split
  ·rename_i he; subst he; rfl
  ·rfl
theorem Blk.Alike.kind {b b' : Blk} (h : b.Alike b') : b.kind = b'.kind := by
 cases b with
 | arr e t l q => obtain ⟨_,_,_,_,rfl⟩ := h; rfl
 | nst e t l => obtain ⟨_,_,_,rfl⟩ := h; rfl
 | _ => exact h.elim
theorem Blk.Alike.T5 {b b' : Blk} (h : b.Alike b') (d : Nat) : b'.ae d = false := by
 cases b with
 | arr e t l q => obtain ⟨_,_,_,_,rfl⟩ := h; rfl
 | nst e t l => obtain ⟨_,_,_,rfl⟩ := h; rfl
 | _ => exact h.elim
theorem Mem.DQ (h : Mem B O ρ sg w) {js : List (Nat × Nat)} {upd : Sig}
  (hf : ∀ j b',jA js upd j = some b' -> (sg.get j).isSome = true -> (∃ b,sg.get j = some b /\ b.Alike b') /\ eZ ρ w' j b')
  (hw : ∀ k,k < w.heap.size -> (∀ i j,(i,j) ∈ js -> ¬ aP ρ sg j k) -> w'.heap[k]? = w.heap[k]?) (hs : w.heap.size <= w'.heap.size)
  (hj : ∀ i j k,(i,j) ∈ js -> aP ρ sg j k -> jA js upd j = none -> w'.heap[k]? = w.heap[k]?) : Mem B O ρ (jT js upd sg) w' := by
 have hown : ∀ j g,aP ρ (jT js upd sg) j g -> aP ρ sg j g := by
  intro j g ho
  obtain ⟨b',h1,h2,h3⟩ := aE.1 ho
  rw [im,Option.map_eq_some_iff] at h1
  obtain ⟨b,h4,h5⟩ := h1
  cases hb : jA js upd j with
  | none =>
   rw [hb] at h5
   simp only at h5
   subst h5
   exact aE.2 ⟨b,h4,h2,h3⟩
  | some b0 =>
   rw [hb] at h5
   simp only at h5
   subst h5
   obtain ⟨⟨b1,h6,h7⟩,_⟩ := hf j b0 hb (by rw [h4]; rfl)
   exact ho.tr (fun b' hb' => by
    rw [im,h4,Option.map_some,hb] at hb'
    simp only [Option.some.injEq] at hb'
    subst hb'
    exact ⟨b1,h6,h7.kind⟩) rfl
 have hok : ∀ b g,ρ.ok b g -> w'.heap[g]? = w.heap[g]? := fun b g hg => hw g (h.okb b g hg) fun i j _ => h.oko b g hg j
 have hstep : Step (fun _ => True) ρ ρ w w' := ⟨fun _ _ => rfl,fun _ _ h => h,hok⟩
 refine ⟨fun j b' hb' => ?_,fun i j g hi hj => h.inj i j g (hown i g hi) (hown j g hj),fun j g hg => h.old j g (hown j g hg),fun b g hg => Nat.lt_of_lt_of_le (h.okb b g hg) hs,fun b g hg j hj => h.oko b g hg j (hown j g hj),h.okm,h.okx,h.oky,fun j b' d hb' hd => ?_⟩
 ·rw [im,Option.map_eq_some_iff] at hb'
  obtain ⟨b,h4,h5⟩ := hb'
  cases hb : jA js upd j with
  | some b0 =>
   rw [hb] at h5
   simp only at h5
   subst h5
   exact (hf j b0 hb (by rw [h4]; rfl)).2
  | none =>
   rw [hb] at h5
   simp only at h5
   subst h5
   refine cd hstep trivial (fun _ _ => trivial) (fun g hg hn => ?_) (h.blk j b h4)
   have ho : aP ρ sg j g := cD h4 (h.blk j b h4) hn hg
   by_cases hin : ∃ i,(i,j) ∈ js
   ·obtain ⟨i,hi⟩ := hin
    exact hj i j g hi ho hb
   ·refine hw g (h.lt ho) fun i k hk hk' => hin ⟨i,?_⟩
    have := h.inj k j g hk' ho
    subst this
    exact hk
 ·rw [im,Option.map_eq_some_iff] at hb'
  obtain ⟨b,h4,h5⟩ := hb'
  rw [im,Option.isSome_map]
  cases hb : jA js upd j with
  | some b0 =>
   rw [hb] at h5
   simp only at h5
   subst h5
   obtain ⟨⟨b1,_,h7⟩,_⟩ := hf j b0 hb (by rw [h4]; rfl)
   rw [h7.T5] at hd
   cases hd
  | none =>
   rw [hb] at h5
   simp only at h5
   subst h5
   exact h.dom j b d h4 hd
theorem AG {p : Bool × List Cell} {v : Value} (h : rp ρ w p v) : rav ρ w (zN p) v := by
 obtain ⟨g,cs⟩ := p
 cases g with
 | true => exact h
 | false => obtain ⟨c,rfl,h⟩ := h; exact h
theorem uH {p : Bool × List Cell} {d : Nat} (h : (zN p).ae d = true) : p.2.any (·.ae d) = true := by
 obtain ⟨g,cs⟩ := p
 cases g with
 | true => exact h
 | false =>
  have h : (oneOf cs).ae d = true := h
  unfold oneOf at h
  split at h
  ·simpa [AV.ae] using h
  ·cases h
theorem tS (w : World) (hm : ∀ g,ρ.ok false g -> ρ.ok true g) {ss : List SP} {gs : List (Nat × GP)} {v : StT ss gs} (hc : jH ss gs st = some v) {j g : Nat} (hj : aP ρ (ar ss gs v).sg j g) : aP ρ st.sg j g := by
 unfold jH at hc
 obtain ⟨h1,_,_⟩ := SPs.sound (w := w) hm hc
 obtain ⟨h4,_⟩ := GPs.sound (w := w) hm h1
 exact hj.tr (fun b' hb => by
  obtain ⟨b,h6,_,h8,_⟩ := h4 j b' hb
  exact ⟨b,h6,h8⟩) rfl
theorem J9 (w : World) (hm : ∀ g,ρ.ok false g -> ρ.ok true g) {ss : List SP} {gs : List (Nat × GP)} {v : StT ss gs} (hc : jH ss gs st = some v) {j : Nat} {b' : Blk} (hj : (ar ss gs v).sg.get j = some b') : ∃ b,st.sg.get j = some b /\ b.kind = b'.kind := by
 unfold jH at hc
 obtain ⟨h1,_,_⟩ := SPs.sound (w := w) hm hc
 obtain ⟨h4,_⟩ := GPs.sound (w := w) hm h1
 obtain ⟨b,h6,_,h8,_⟩ := h4 j b' hj
 exact ⟨b,h6,h8⟩
theorem JO {b b' b0 : Blk} (h : b.Alike b') (hk : b0.kind = b.kind) : b0.Alike b' := by
 cases b with
 | arr e t l q => cases b0 <;> first | (cases hk; done) | exact h
 | nst e t l => cases b0 <;> first | (cases hk; done) | exact h
 | _ => exact h.elim
theorem jY (h : Sim P B O w0 ρ st a w) {o : Oper} {c : Call} {g : FuncId} (ho : o.op = .call c) (hc : c.callee = .value (.func g)) {m : Mrk} (hm : dE P g m) {k : St -> Option R} (hk : gw st o.dst m (c.args.toList.map (au st.sl)) k = some r)
  {next : Act -> World -> Prop} {Q : Exit -> Act -> World -> Prop} (hnext : ∀ ρ' st' a' w',k st' = some r -> Sim P B O w0 ρ' st' a' w' -> next a' w') : o.wp P a w next Q := by
 unfold gw at hk
 split at hk
 ·rename_i ps out js ht
  rw [aq] at hk
  split at hk
  ·rename_i hj0
   rw [Bool.and_eq_true] at hj0
   have hj := hj0.1
   have hja := hj0.2
   split at hk
   ·rename_i v hv
    rw [aL.run_bind,Option.bind_eq_some_iff] at hk
    obtain ⟨⟨res,upd⟩,hF,hk⟩ := hk
    simp only [aq] at hk
    split at hk
    ·rename_i hpl
     rw [Bool.and_eq_true] at hpl
     have hav : aF (rav ρ w) (c.args.toList.map (au st.sl)) (c.args.toList.map a.eval) := by
      induction c.args.toList with
      | nil => exact .nil
      | cons x xs ih => exact .cons (h.eval x).1 ih
     obtain ⟨b1,b2,b3⟩ := fY h.mem hav ht
     obtain ⟨L,c1,c2⟩ := pQ h.mem b2 hj
     have b2 : ∀ i b,out.get i = some b -> ∃ j,(i,j) ∈ js /\ st.sg.get j = some b := fun i b hi => by
      obtain ⟨j,a1,a2,_⟩ := b2 i b hi
      exact ⟨j,a1,a2⟩
     have hargs := b1 L c1
     obtain ⟨hwf,⟨fn,hfn,hbody,hname⟩,hcalls⟩ := hm
     have hS : Sim P B ⟨O.o,O.ok0,L⟩ w ⟨L,ρ.ok⟩ ⟨ps.map zN,out⟩ { tmps := (c.args.toList.map a.eval).toArray,defers := [] } w := by
      have hal : aF (rav ⟨L,ρ.ok⟩ w) (ps.map zN) (c.args.toList.map a.eval) := hargs.b9 _ fun p u _ h => AG h
      refine ⟨c2.ow rfl rfl,by simp [← hal.length],fun i v hi => ?_,fun i v d hi hd => ?_,rfl,da.refl _ _ _,h.base,fun _ _ => rfl,h.L4⟩
      ·obtain ⟨u,h1,h2⟩ := hal.get i hi
       exact ⟨u,by simpa using h1,h2⟩
      ·simp only [List.getElem?_map,Option.map_eq_some_iff] at hi
       obtain ⟨p,hp,rfl⟩ := hi
       exact b3 d (List.any_eq_true.2 ⟨p,List.mem_of_getElem? hp,uH hd⟩)
     have hcl := hcalls v res upd hF _ _ _ _ _ (hS.cap hwf hv)
     have hrun : (execOp a.eval o).run P w = .ok (.enter g (c.args.toList.map a.eval).toArray) w := by
      have hargs : (c.args.toList.map a.eval).toArray = c.args.map a.eval := by
       apply Array.ext'
       simp
      rw [hargs]
      unfold execOp
      have hbn : ¬ (fn.body = none) := by intro hb; rw [hb] at hbody; cases hbody
      have hnn : ¬ (fn.name = "runtime.NumGoroutine") := by intro hn; rw [hn] at hname; simp at hname
      have hfe : a.eval (.func g) = .func (.func g) #[] #[] := rfl
      simp [ho,hc,resolve,hfe,Deferred.ofValue,Sem.run_bind,invoke,callFunc,hfn]
      rw [if_neg hnn,if_neg hbn]
     unfold Oper.wp
     rw [hrun,Oper.upon_enter]
     refine hcl.mono fun e w' hh => ?_
     obtain ⟨u,rfl,hr,hupd,hos,htape,hout,hsz,hfr⟩ := hh
     have hL : ∀ i j,(i,j) ∈ js -> L i = ρ.loc j := c1
     have hown : ∀ i g,aP ⟨L,ρ.ok⟩ out i g -> ∃ j,(i,j) ∈ js /\ aP ρ st.sg j g := by
      intro i g hi
      obtain ⟨b,h1,h2,h3⟩ := aE.1 hi
      obtain ⟨j,a1,a2⟩ := b2 i b h1
      exact ⟨j,a1,hi.tr (fun b' h => by rw [h1] at h; cases h; exact ⟨b,a2,rfl⟩) (hL i j a1)⟩
     have hframe : ∀ k,k < w.heap.size -> (∀ i j,(i,j) ∈ js -> ¬ aP ρ st.sg j k) -> w'.heap[k]? = w.heap[k]? := by
      intro k hk hn
      refine hfr k hk fun i hi => ?_
      obtain ⟨j,h1,h2⟩ := hown i k (tS w (ρ := ⟨L,ρ.ok⟩) (st := ⟨ps.map zN,out⟩) h.mem.okm hv hi)
      exact hn i j h1 h2
     have hup : ∀ j b',jA js upd j = some b' -> (∃ b,st.sg.get j = some b /\ b.Alike b') /\ eZ ρ w' j b' := by
      intro j b' hb
      unfold jA at hb
      split at hb
      ·rename_i i hi
       have hij := iU hi
       obtain ⟨⟨b1,h1,h2⟩,h3⟩ := hupd i b' hb
       obtain ⟨b0,h5,h5'⟩ := J9 w (ρ := ⟨L,ρ.ok⟩) (st := ⟨ps.map zN,out⟩) h.mem.okm hv h1
       obtain ⟨j',h6,h7⟩ := b2 i b0 h5
       have := kI hj h6 hij
       subst this
       refine ⟨⟨b0,h7,JO h2 h5'⟩,?_⟩
       cases b1 with
       | arr e t l q =>
        obtain ⟨_,_,_,_,rfl⟩ := h2
        obtain ⟨va,gg,xs,d1,d2⟩ := h3
        exact ⟨va,gg,xs,(hL i _ h6).symm.trans d1,d2⟩
       | nst e t l =>
        obtain ⟨_,_,_,rfl⟩ := h2
        obtain ⟨va,gg,hd,xs,d1,d2⟩ := h3
        exact ⟨va,gg,hd,xs,(hL i _ h6).symm.trans d1,d2⟩
       | _ => exact h2.elim
      ·cases hb
     have hquiet : ∀ i j k,(i,j) ∈ js -> aP ρ st.sg j k -> jA js upd j = none -> w'.heap[k]? = w.heap[k]? := by
      intro i j k hij hjk hnone
      obtain ⟨i',hi'⟩ := qj hij
      have h1 := List.all_eq_true.1 hpl.2 _ (iU hi')
      unfold jA at hnone
      rw [hi'] at hnone
      simp only at hnone h1
      rw [hnone] at h1
      cases h1
     have hM := h.mem.DQ (w' := w') (js := js) (upd := upd) (fun j b' hb _ => hup j b' hb) hframe hsz hquiet
     have hok : ∀ b g,ρ.ok b g -> w'.heap[g]? = w.heap[g]? := fun b g hg => hframe g (h.mem.okb b g hg) fun i j _ => h.mem.oko b g hg j
     have hstep : Step (fun _ => True) ρ ρ w w' := ⟨fun _ _ => rfl,fun _ _ h => h,hok⟩
     have hkp : da B O w w' := ⟨hos,htape,hout,hsz,fun k hk hn => hframe k (Nat.lt_of_lt_of_le hk h.base) fun i j _ hjk => by
      rcases h.mem.old j k hjk with h0 | h0
      ·omega
      ·exact hn h0⟩
     have hS' : Sim P B O w0 ρ ⟨st.sl,jT js upd st.sg⟩ a w' := by
      refine ⟨hM,h.len,fun i v hi => ?_,fun i v d hi hd => ?_,h.defers,h.fr.trans hkp,Nat.le_trans h.base hsz,h.pin,h.glo⟩
      ·obtain ⟨u,h1,h2⟩ := h.sl i v hi
       exact ⟨u,h1,bQ hstep (fun _ _ => trivial) h2⟩
      ·show (Sig.get d (jT js upd st.sg)).isSome = true
       rw [im,Option.isSome_map]
       exact h.dom i v d hi hd
     exact hnext ρ _ _ w' hk (hS'.put o.dst (kW hpl.1 hr) (fun d hd => by rw [lR hpl.1 d] at hd; cases hd))
    ·cases hk
   ·cases hk
  ·cases hk
 ·cases hk
theorem AL : ∀ {hd : List (List (Value × Option Nat))} {i i' k : Nat} {hs hs' : List (Value × Option Nat)},(kids hd).Nodup -> hd[i]? = some hs -> hd[i']? = some hs' -> k ∈ hs.filterMap (·.2) -> k ∈ hs'.filterMap (·.2) -> i = i'
 | [],i,i',k,hs,hs',_,h,_,_,_ => by simp at h
 | h0 :: hd,i,i',k,hs,hs',hn,h1,h2,h3,h4 => by
  have e : kids (h0 :: hd) = h0.filterMap (·.2) ++ kids hd := by unfold kids; rw [List.flatten_cons,List.filterMap_append]
  rw [e,List.nodup_append] at hn
  cases i with
  | zero =>
   cases i' with
   | zero => rfl
   | succ i' =>
    simp only [List.getElem?_cons_zero,Option.some.injEq] at h1
    subst h1
    exact absurd rfl (hn.2.2 k h3 k (cF (by simpa using h2) h4))
  | succ i =>
   cases i' with
   | zero =>
    simp only [List.getElem?_cons_zero,Option.some.injEq] at h2
    subst h2
    exact absurd rfl (hn.2.2 k h4 k (cF (by simpa using h1) h3))
   | succ i' => exact congrArg (· + 1) (AL hn.2.1 (i := i) (i' := i') (by simpa using h1) (by simpa using h2) h3 h4)
theorem qT : ∀ {hd : List (List (Value × Option Nat))} {i : Nat} {hs : List (Value × Option Nat)},(kids hd).Nodup -> hd[i]? = some hs -> (hs.filterMap (·.2)).Nodup
 | [],i,hs,_,h => by simp at h
 | h0 :: hd,i,hs,hn,h1 => by
  have e : kids (h0 :: hd) = h0.filterMap (·.2) ++ kids hd := by unfold kids; rw [List.flatten_cons,List.filterMap_append]
  rw [e,List.nodup_append] at hn
  cases i with
  | zero =>
   simp only [List.getElem?_cons_zero,Option.some.injEq] at h1
   subst h1
   exact hn.1
  | succ i => exact qT hn.2.1 (by simpa using h1)
theorem jg {v : Value} {g : Option Nat} {xs : List Value} : ∀ {t : Ty} {x : t.T} {k : Nat} {q : Fc} {y : t.T} {l2 : List q.1.2.T} {cs : List Value} {hs : List (Value × Option Nat)},t.rowAt x k = some q -> t.setRow x k ⟨q.1,l2⟩ = some y -> Rn w t x cs hs -> hs[k]? = some (v,g) -> (hs.filterMap (·.2)).Nodup -> (∀ k' ∈ hs.filterMap (·.2),g ≠ some k' -> w'.heap[k']? = w.heap[k']?) ->
  bU (fun _ => False) w' q.1.2 l2 xs -> Have w' q.1.1 q.1.2.sz v l2.length xs g -> Rn w' t y cs hs
 | .int _,_,_,_,_,_,_,_,h,_,_,_,_,_,_,_ => by cases h
 | .bool,_,_,_,_,_,_,_,h,_,_,_,_,_,_,_ => by cases h
 | .str,_,_,_,_,_,_,_,h,_,_,_,_,_,_,_ => by cases h
 | .nul _,_,_,_,_,_,_,_,h,_,_,_,_,_,_,_ => by cases h
 | .sl e t,l,k,q,y,l2,_,_,h,hs,hr,hk,_,_,h1,h2 => by
  obtain ⟨hf,v0,g0,xs0,rfl,rfl,_,_⟩ := hr
  cases k with
  | succ k => simp [Ty.rowAt] at h
  | zero =>
   simp only [Ty.rowAt,Option.some.injEq] at h
   subst h
   simp only [List.getElem?_cons_zero,Option.some.injEq,Prod.mk.injEq] at hk
   obtain ⟨rfl,rfl⟩ := hk
   simp only [Ty.setRow] at hs
   rw [dif_pos trivial] at hs
   cases hs
   exact ⟨hf,_,_,xs,rfl,rfl,h1,h2⟩
 | .pair a b,p,k,q,y,l2,_,_,h,hs,hr,hk,hn,hw,h1,h2 => by
  obtain ⟨c0,c1,h3,h4,rfl,rfl,h5,h6⟩ := hr
  rw [List.filterMap_append,List.nodup_append] at hn
  simp only [Ty.rowAt,aq,Nat.blt_eq] at h
  simp only [Ty.setRow,aq,Nat.blt_eq] at hs
  split at h
  ·rename_i hlt
   rw [if_pos hlt] at hs
   split at hs
   ·rename_i x' hx'
    cases hs
    have hk' : h3[k]? = some (v,g) := by rwa [List.getElem?_append_left (by rw [h5.mE]; exact hlt)] at hk
    refine ⟨c0,c1,h3,h4,rfl,rfl,jg h hx' h5 hk' hn.1 (fun k' hm he => hw k' (by rw [List.filterMap_append]; exact List.mem_append_left _ hm) he) h1 h2,h6.step fun k' hm => hw k' (by rw [List.filterMap_append]; exact List.mem_append_right _ hm) fun he => ?_⟩
    exact hn.2.2 k' (List.mem_filterMap.2 ⟨_,List.mem_of_getElem? hk',he⟩) k' hm rfl
   ·cases hs
  ·rename_i hge
   rw [if_neg hge] at hs
   split at hs
   ·rename_i x' hx'
    cases hs
    have hk' : h4[k - a.nB]? = some (v,g) := by rwa [List.getElem?_append_right (by rw [h5.mE]; omega),h5.mE] at hk
    refine ⟨c0,c1,h3,h4,rfl,rfl,h5.step fun k' hm => hw k' (by rw [List.filterMap_append]; exact List.mem_append_left _ hm) fun he => ?_,jg h hx' h6 hk' hn.2.1 (fun k' hm he => hw k' (by rw [List.filterMap_append]; exact List.mem_append_right _ hm) he) h1 h2⟩
    exact hn.2.2 k' hm k' (List.mem_filterMap.2 ⟨_,List.mem_of_getElem? hk',he⟩) rfl
   ·cases hs
theorem rz (h : Sim P B O w0 ρ st a w) {o : Oper} {c : Call} {g : FuncId} (ho : o.op = .call c) (hc : c.callee = .value (.func g)) {m : Mrk} (hm : dE P g m) {k : St -> Option R} {j i k0 : Nat} {rest : List AV} (hargs : c.args.toList.map (au st.sl) = .one (.inn j i k0) :: rest) (hk : il st o.dst m j i k0 rest k = some r)
  {next : Act -> World -> Prop} {Q : Exit -> Act -> World -> Prop} (hnext : ∀ ρ' st' a' w',k st' = some r -> Sim P B O w0 ρ' st' a' w' -> next a' w') : o.wp P a w next Q := by
 unfold il at hk
 split at hk
 ·rename_i e t l hj
  split at hk
  ·rename_i x hx
   split at hk
   ·rename_i q hq
    rw [aq] at hk
    split at hk
    ·rename_i hrest
     split at hk
     ·rename_i v hv
      rw [aL.run_bind,Option.bind_eq_some_iff] at hk
      obtain ⟨⟨res,upd⟩,hF,hk⟩ := hk
      simp only [aq] at hk
      split at hk
      ·rename_i hpl
       split at hk
       ·rename_i e2 t2 l2 q2 hupd2
        split at hk
        ·rename_i ht2
         subst ht2
         simp only [beq_iff_eq] at hk
         split at hk
         ·rename_i he2
          subst he2
          split at hk
          ·rename_i y hy
           have hav : aF (rav ρ w) (c.args.toList.map (au st.sl)) (c.args.toList.map a.eval) := by
            induction c.args.toList with
            | nil => exact .nil
            | cons x xs ih => exact .cons (h.eval x).1 ih
           rw [hargs] at hav
           generalize hus : c.args.toList.map a.eval = us at hav
           cases hav with
           | @cons _ u0 _ us hu0 hus' =>
           obtain ⟨V,gO,sz,hd,hs,gI,b1,b2,b3⟩ := hu0
           obtain ⟨V',gO',hd',xs,b4,hN⟩ := h.mem.blk j _ hj
           rw [b1] at b4; cases b4
           obtain ⟨hs',b5,hR⟩ := hN.el i x hx
           rw [b2] at b5; cases b5
           obtain ⟨v',g',ys,b6,hfl,hE,hH⟩ := gz hq hR
           rw [b3] at b6; cases b6
           have hin : ∀ k',gI = some k' -> k' ∈ kids hd := fun k' he => cF b2 (List.mem_filterMap.2 ⟨_,List.mem_of_getElem? b3,he⟩)
           have hoj : ∀ k',gI = some k' -> aP ρ st.sg j k' := fun k' he => cD hj (h.mem.blk j _ hj) (by simp) (by rw [b1]; exact List.mem_append_right _ (hin k' he))
           let L : Nat -> Loc := fun n => if n = 4294971392 then .arr u0 gI q.1.2.sz else .dead
           have hLI : L 4294971392 = .arr u0 gI q.1.2.sz := if_pos rfl
           have hown1 : ∀ n k',aP ⟨L,ρ.ok⟩ [(4294971392,.arr q.1.1 q.1.2 q.2 false)] n k' -> n = 4294971392 /\ gI = some k' := by
            intro n k' hh
            have h1 := hh.own
            by_cases hn : n = 4294971392
            ·subst hn
             refine ⟨rfl,?_⟩
             simp only [hLI] at h1
             cases gI with
             | none => exact h1.elim
             | some gI => rw [show k' = gI from h1]
            ·have h2 : L n = .dead := if_neg hn
             simp only [h2] at h1
             exact h1.elim
           have hMem : Mem B ⟨O.o,O.ok0,L⟩ ⟨L,ρ.ok⟩ [(4294971392,.arr q.1.1 q.1.2 q.2 false)] w := by
            refine ⟨fun n b hb => ?_,fun n n' k' h1 h2 => (hown1 n k' h1).1.trans (hown1 n' k' h2).1.symm,fun n k' h1 => h.mem.old j k' (hoj k' (hown1 n k' h1).2),h.mem.okb,fun b k' hb n h1 => h.mem.oko b k' hb j (hoj k' (hown1 n k' h1).2),h.mem.okm,h.mem.okx,h.mem.oky,fun n b d hb hd => ?_⟩
            ·simp only [Sig.get,aq] at hb
             split at hb
             ·rename_i hn
              cases hb
              have hn := eq_of_beq hn
              subst hn
              refine ⟨u0,gI,ys,hLI,hE.step (fun _ h => h.elim) (fun _ h => h.elim),?_⟩
              cases gI with
              | none => exact ⟨List.eq_nil_of_length_eq_zero hH.1,hH.2⟩
              | some gI => exact hH
             ·cases hb
            ·simp only [Sig.get,aq] at hb
             split at hb
             ·cases hb; cases hd
             ·cases hb
           have hS : Sim P B ⟨O.o,O.ok0,L⟩ w ⟨L,ρ.ok⟩ ⟨.one (.sl 4294971392) :: rest,[(4294971392,.arr q.1.1 q.1.2 q.2 false)]⟩ { tmps := (u0 :: us).toArray,defers := [] } w := by
            refine ⟨hMem,by simp [hus'.length],fun n x hn => ?_,fun n x d hn hd => ?_,rfl,da.refl _ _ _,h.base,fun _ _ => rfl,h.L4⟩
            ·cases n with
             | zero =>
              simp only [List.getElem?_cons_zero,Option.some.injEq] at hn
              subst hn
              exact ⟨u0,rfl,_,_,hLI⟩
             | succ n =>
              simp only [List.getElem?_cons_succ] at hn
              obtain ⟨u,h1,h2⟩ := hus'.get n hn
              exact ⟨u,by simpa using h1,kW (List.all_eq_true.1 hrest x (List.mem_of_getElem? hn)) h2⟩
            ·cases n with
             | zero =>
              simp only [List.getElem?_cons_zero,Option.some.injEq] at hn
              subst hn
              have hd : (4294971392 == d) = true := hd
              rw [← eq_of_beq hd]
              rfl
             | succ n =>
              simp only [List.getElem?_cons_succ] at hn
              rw [lR (List.all_eq_true.1 hrest x (List.mem_of_getElem? hn)) d] at hd
              cases hd
           obtain ⟨hwf,⟨fn,hfn,hbody,hname⟩,hcalls⟩ := hm
           have hcl := hcalls v res upd hF _ _ _ _ _ (hS.cap hwf hv)
           have hrun : (execOp a.eval o).run P w = .ok (.enter g (u0 :: us).toArray) w := by
            have hargs : (u0 :: us).toArray = c.args.map a.eval := by
             apply Array.ext'
             rw [← hus]
             simp
            rw [hargs]
            unfold execOp
            have hbn : ¬ (fn.body = none) := by intro hb; rw [hb] at hbody; cases hbody
            have hnn : ¬ (fn.name = "runtime.NumGoroutine") := by intro hn; rw [hn] at hname; simp at hname
            have hfe : a.eval (.func g) = .func (.func g) #[] #[] := rfl
            simp [ho,hc,resolve,hfe,Deferred.ofValue,Sem.run_bind,invoke,callFunc,hfn]
            rw [if_neg hnn,if_neg hbn]
           unfold Oper.wp
           rw [hrun,Oper.upon_enter]
           refine hcl.mono fun ee w' hh => ?_
           obtain ⟨u,rfl,hr,hupd,hos,htape,hout,hsz,hfr⟩ := hh
           have hframe : ∀ k',k' < w.heap.size -> gI ≠ some k' -> w'.heap[k']? = w.heap[k']? := by
            intro k' hk' hn
            refine hfr k' hk' fun n hi => hn ?_
            exact (hown1 n k' (tS w (ρ := ⟨L,ρ.ok⟩) (st := ⟨.one (.sl 4294971392) :: rest,[(4294971392,.arr q.1.1 q.1.2 q.2 false)]⟩) h.mem.okm hv hi)).2
           obtain ⟨_,va,gg,zs,d1,d2,d3⟩ := hupd _ _ hupd2
           simp only [hLI] at d1
           cases d1
           have hE' : bU (fun _ => False) w' q.1.2 l2 zs := ⟨d2.1,fun n p hp => iL hfl (d2.2 n p hp)⟩
           have hH' : Have w' q.1.1 q.1.2.sz u0 l2.length zs gI := by
            cases gI with
            | none => obtain ⟨rfl,A,hA⟩ := d3; exact ⟨rfl,A,hA⟩
            | some gI => exact d3
           have hnd := hN.nd
           unfold ct at hnd
           rw [List.nodup_append] at hnd
           have hfk : ∀ k' ∈ kids hd,gI ≠ some k' -> w'.heap[k']? = w.heap[k']? := fun k' hm hn => hframe k' (hN.lt (List.mem_append_right _ hm)) hn
           have hR' := jg hq hy hR b3 (qT hnd.2.1 b2) (fun k' hm hn => hfk k' (cF b2 hm) hn) hE' hH'
           have hNew : nk w' e t (l.set i y) V gO hd xs := by
            refine ⟨by rw [List.length_set]; exact hN.len,by rw [List.length_set]; exact hN.hlen,fun n p hp => ?_,?_,hN.nd⟩
            ·by_cases hin' : i = n
             ·subst hin'
              rw [List.getElem?_set_self (List.getElem?_eq_some_iff.1 hx).1] at hp
              cases hp
              exact ⟨hs,b2,hR'⟩
             ·rw [List.getElem?_set_ne hin'] at hp
              obtain ⟨hs2,f1,f2⟩ := hN.el n p hp
              refine ⟨hs2,f1,f2.step fun k' hm => hfk k' (cF f1 hm) fun he => hin' ?_⟩
              exact AL hnd.2.1 b2 f1 (List.mem_filterMap.2 ⟨_,List.mem_of_getElem? b3,he⟩) hm
            ·rw [List.length_set]
             exact hN.own.step fun k' he => hframe k' (hN.lt (by rw [he]; simp [ct])) fun he' => hnd.2.2 k' (by rw [he]; simp) k' (hin k' he') rfl
           have hokh : ∀ b k',ρ.ok b k' -> w'.heap[k']? = w.heap[k']? := fun b k' hb => hframe k' (h.mem.okb b k' hb) fun he => h.mem.oko b k' hb j (hoj k' he)
           have hkp : da B O w w' := ⟨hos,htape,hout,hsz,fun k' hk' hn => hframe k' (Nat.lt_of_lt_of_le hk' h.base) fun he => by
            rcases h.mem.old j k' (hoj k' he) with h0 | h0
            ·omega
            ·exact hn h0⟩
           have hS' : Sim P B O w0 ρ ⟨st.sl,st.sg.put j (.nst e t (l.set i y))⟩ a w' := by
            refine h.renew ?_ hkp (fun _ _ h => h) hokh (fun _ _ _ _ _ => rfl) (fun _ _ => rfl)
            refine h.mem.renew h.base rfl (fun _ _ => rfl) (fun _ _ _ _ _ _ => rfl) (fun k' hk' hn => hframe k' hk' fun he => hn (hoj k' he)) hsz ⟨V,gO,hd,xs,b1,hNew⟩ (fun g' hg' => ?_) (fun d hd => by cases hd)
            exact .inr (cD hj (h.mem.blk j _ hj) (by simp) hg')
           exact hnext ρ _ _ w' hk (hS'.put o.dst (kW hpl hr) (fun d hd => by rw [lR hpl d] at hd; cases hd))
          ·cases hk
         ·cases hk
        ·cases hk
       ·cases hk
      ·cases hk
     ·cases hk
    ·cases hk
   ·cases hk
  ·cases hk
 ·cases hk
theorem rH (h : Sim P B O w0 ρ st a w) {o : Oper} {c : Call} {g : FuncId} (ho : o.op = .call c) (hc : c.callee = .value (.func g)) {m : Mrk} (hm : dE P g m) {k : St -> Option R} (hk : gX st o.dst m (c.args.toList.map (au st.sl)) k = some r)
  {next : Act -> World -> Prop} {Q : Exit -> Act -> World -> Prop} (hnext : ∀ ρ' st' a' w',k st' = some r -> Sim P B O w0 ρ' st' a' w' -> next a' w') : o.wp P a w next Q := by
 generalize hg : c.args.toList.map (au st.sl) = args at hk
 unfold gX at hk
 split at hk
 ·rw [← hg] at hk; exact jY h ho hc hm hk hnext
 ·split at hk
  ·exact rz h ho hc hm hg hk hnext
  ·rw [← hg] at hk; exact jY h ho hc hm hk hnext
 ·rw [← hg] at hk; exact jY h ho hc hm hk hnext
end
end Go.Proofs.YtcddhifkfakcjaaGreat.Lib
namespace Go.Proofs.YtcddhifkfakcjaaGreat.Lib
open Go Go.RowKit
set_option linter.unusedVariables false
set_option linter.unusedSimpArgs false
theorem bV {js : List (Nat × Nat)} {j i : Nat} (h : look js j = some i) : (j,i) ∈ js := by
 induction js with
 | nil => cases h
 | cons q r ih =>
  obtain ⟨a,b⟩ := q
  simp only [look,aq,beq_iff_eq] at h
  split at h
  ·rename_i he; cases h; rw [he]; exact List.mem_cons_self
  ·exact List.mem_cons_of_mem _ (ih h)
theorem F7 {js : List (Nat × Nat)} {j i : Nat} (h : (j,i) ∈ js) : ∃ i',look js j = some i' := by
 induction js with
 | nil => cases h
 | cons q r ih =>
  obtain ⟨a,b⟩ := q
  simp only [look,aq,beq_iff_eq]
  split
  ·exact ⟨_,rfl⟩
  ·rename_i hn
   rcases List.mem_cons.1 h with h | h
   ·cases h; exact absurd rfl hn
   ·exact ih h
theorem Bn {js : List (Nat × Nat)} (hj : bZ js = true) {j i : Nat} : look js j = some i ↔ (j,i) ∈ js := by
 refine ⟨bV,fun h => ?_⟩
 obtain ⟨i',h'⟩ := F7 h
 rw [h',kI hj (bV h') h]
theorem fU {js : List (Nat × Nat)} (hj : bZ js = true) {j i : Nat} : cK js i = some j ↔ (j,i) ∈ js := by
 refine ⟨iU,fun h => ?_⟩
 obtain ⟨j',h'⟩ := qj h
 rw [h',vC hj (iU h') h]
theorem jd {f : Nat -> Option Nat} : ∀ {js l : List Nat},qJ f js = some l -> aF (fun j i => f j = some i) js l
 | [],l,h => by cases h; exact .nil
 | j :: r,l,h => by
  simp only [qJ] at h
  split at h
  ·rename_i i l' h1 h2
   cases h
   exact .cons h1 (jd h2)
  ·cases h
theorem aF.comp {α β γ : Type} {R : α -> β -> Prop} {S : α -> γ -> Prop} {T : β -> γ -> Prop} (hc : ∀ a b c,R a b -> S a c -> T b c) : ∀ {l : List α} {m : List β} {n : List γ},aF R l m -> aF S l n -> aF T m n
 | [],[],[],.nil,.nil => .nil
 | _ :: _,_ :: _,_ :: _,.cons h1 h2,.cons h3 h4 => .cons (hc _ _ _ h1 h3) (aF.comp hc h2 h4)
theorem C6 {ρ ρ' : al} {w : World} {f : Nat -> Option Nat} (hl : ∀ j i,f j = some i -> ρ'.loc i = ρ.loc j) (ho : ρ'.ok = ρ.ok) {c : Cell} {v : Value} (h : rc ρ w c v) : rc ρ' w (c.ren f) v := by
 obtain ⟨l',o'⟩ := ρ'
 simp only at hl ho
 subst ho
 cases c with
 | int k n => exact h
 | bool b => exact h
 | str s => exact h
 | nil => exact h
 | cap0 => exact h
 | nul f => exact h
 | emb e t l b => exact h
 | eptr t x c b => exact h
 | fn f caps => exact h
 | und => exact h
 | sl j =>
  simp only [Cell.ren]
  split
  ·rename_i i hi
   obtain ⟨g,sz,h⟩ := h
   exact ⟨g,sz,(hl j i hi).trans h⟩
  ·trivial
 | sub j o n =>
  simp only [Cell.ren]
  split
  ·rename_i i hi
   obtain ⟨A,m,c,g,sz,h,h1⟩ := h
   exact ⟨A,m,c,g,sz,(hl j i hi).trans h,h1⟩
  ·trivial
 | nl j =>
  simp only [Cell.ren]
  split
  ·rename_i i hi
   obtain ⟨g,sz,hd,h⟩ := h
   exact ⟨g,sz,hd,(hl j i hi).trans h⟩
  ·trivial
 | np j k c =>
  simp only [Cell.ren]
  split
  ·rename_i i hi
   obtain ⟨A,n,cp,g,sz,hd,h,h1⟩ := h
   exact ⟨A,n,cp,g,sz,hd,(hl j i hi).trans h,h1⟩
  ·trivial
 | inn j k c =>
  simp only [Cell.ren]
  split
  ·rename_i i hi
   obtain ⟨V,g,sz,hd,hs,q,h,h1⟩ := h
   exact ⟨V,g,sz,hd,hs,q,(hl j i hi).trans h,h1⟩
  ·trivial
 | ptr j k c =>
  simp only [Cell.ren]
  split
  ·rename_i i hi
   rcases h with ⟨h0,g,h,h1⟩ | ⟨a,m,cp,g,sz,h,h1⟩
   ·exact .inl ⟨h0,g,(hl j i hi).trans h,h1⟩
   ·exact .inr ⟨a,m,cp,g,sz,(hl j i hi).trans h,h1⟩
  ·trivial
 | fnp g js =>
  simp only [Cell.ren]
  split
  ·rename_i l hi
   obtain ⟨vs,h,h1⟩ := h
   refine ⟨vs,h,aF.comp (fun j i v h1 h2 => ?_) (jd hi) h1⟩
   obtain ⟨g,h2,h3⟩ := h2
   exact ⟨g,(hl j i h1).trans h2,h3⟩
  ·trivial
theorem oR {ρ ρ' : al} {w : World} {f : Nat -> Option Nat} (hl : ∀ j i,f j = some i -> ρ'.loc i = ρ.loc j) (ho : ρ'.ok = ρ.ok) {cs : List Cell} {vs : List Value} (h : aF (rc ρ w) cs vs) : aF (rc ρ' w) (cs.map (·.ren f)) vs :=
 h.b9 _ fun c v _ h => C6 hl ho h
theorem qI {ρ ρ' : al} {w : World} {f : Nat -> Option Nat} (hl : ∀ j i,f j = some i -> ρ'.loc i = ρ.loc j) (ho : ρ'.ok = ρ.ok) {x : AV} {v : Value} (h : rav ρ w x v) : rav ρ' w (x.ren f) v := by
 cases x with
 | one c => exact C6 hl ho h
 | agg cs =>
  obtain ⟨vs,h,h1⟩ := h
  exact ⟨vs,h,oR hl ho h1⟩
 | tup ps =>
  obtain ⟨vs,h,h1⟩ := h
  refine ⟨vs,h,h1.b9 _ fun p v _ h => ?_⟩
  obtain ⟨g,cs⟩ := p
  cases g with
  | true =>
   obtain ⟨vs,h,h1⟩ := h
   exact ⟨vs,h,oR hl ho h1⟩
  | false =>
   obtain ⟨c,rfl,h⟩ := h
   exact ⟨_,rfl,C6 hl ho h⟩
theorem Ag {f : Nat -> Option Nat} {c : Cell} {d : Nat} (h : (c.ren f).ae d = true) : ∃ j,f j = some d /\ c.ae j = true := by
 cases c with
 | sl j =>
  simp only [Cell.ren] at h
  split at h
  ·rename_i i hi
   have := eq_of_beq h; subst this
   exact ⟨j,hi,by simp [Cell.ae]⟩
  ·cases h
 | sub j o n =>
  simp only [Cell.ren] at h
  split at h
  ·rename_i i hi
   have := eq_of_beq h; subst this
   exact ⟨j,hi,by simp [Cell.ae]⟩
  ·cases h
 | ptr j k c =>
  simp only [Cell.ren] at h
  split at h
  ·rename_i i hi
   have := eq_of_beq h; subst this
   exact ⟨j,hi,by simp [Cell.ae]⟩
  ·cases h
 | nl j =>
  simp only [Cell.ren] at h
  split at h
  ·rename_i i hi
   have := eq_of_beq h; subst this
   exact ⟨j,hi,by simp [Cell.ae]⟩
  ·cases h
 | np j k c =>
  simp only [Cell.ren] at h
  split at h
  ·rename_i i hi
   have := eq_of_beq h; subst this
   exact ⟨j,hi,by simp [Cell.ae]⟩
  ·cases h
 | inn j k c =>
  simp only [Cell.ren] at h
  split at h
  ·rename_i i hi
   have := eq_of_beq h; subst this
   exact ⟨j,hi,by simp [Cell.ae]⟩
  ·cases h
 | fnp g js =>
  simp only [Cell.ren] at h
  split at h
  ·rename_i l hi
   have h : l.contains d = true := h
   rw [List.contains_iff_mem] at h
   have key : ∀ {js l : List Nat},aF (fun j i => f j = some i) js l -> d ∈ l -> ∃ j ∈ js,f j = some d := by
    intro js l hl
    induction hl with
    | nil => intro h; cases h
    | cons h0 _ ih =>
     intro h
     rcases List.mem_cons.1 h with rfl | h
     ·exact ⟨_,List.mem_cons_self,h0⟩
     ·obtain ⟨j,h1,h2⟩ := ih h
      exact ⟨j,List.mem_cons_of_mem _ h1,h2⟩
   obtain ⟨j,h1,h2⟩ := key (jd hi) h
   exact ⟨j,h2,by simp [Cell.ae,h1]⟩
  ·cases h
 | _ => cases h
theorem yz {f : Nat -> Option Nat} {cs : List Cell} {d : Nat} (h : (cs.map (·.ren f)).any (·.ae d) = true) : ∃ j,f j = some d /\ cs.any (·.ae j) = true := by
 obtain ⟨c',hc',hd⟩ := List.any_eq_true.1 h
 obtain ⟨c,hc,rfl⟩ := List.mem_map.1 hc'
 obtain ⟨j,h1,h2⟩ := Ag hd
 exact ⟨j,h1,List.any_eq_true.2 ⟨c,hc,h2⟩⟩
theorem wK {f : Nat -> Option Nat} {x : AV} {d : Nat} (h : (x.ren f).ae d = true) : ∃ j,f j = some d /\ x.ae j = true := by
 cases x with
 | one c => exact Ag h
 | agg cs => exact yz h
 | tup ps =>
  obtain ⟨q,hq,hd⟩ := List.any_eq_true.1 h
  obtain ⟨p,hp,rfl⟩ := List.mem_map.1 hq
  obtain ⟨j,h1,h2⟩ := yz hd
  exact ⟨j,h1,List.any_eq_true.2 ⟨p,hp,h2⟩⟩
theorem L8 {f : Nat -> Option Nat} {b : Blk} {d : Nat} (h : (b.ren f).ae d = true) : ∃ j,f j = some d /\ b.ae j = true := by
 cases b with
 | box t cs => exact yz h
 | _ => cases h
theorem IH {ρ ρ' : al} {w : World} {f : Nat -> Option Nat} (hl : ∀ j i,f j = some i -> ρ'.loc i = ρ.loc j) (ho : ρ'.ok = ρ.ok) {j i : Nat} {b : Blk} (hi : ρ'.loc i = ρ.loc j) (h : eZ ρ w j b) : eZ ρ' w i (b.ren f) := by
 cases b with
 | box t cs =>
  obtain ⟨g,vs,h1,h2,h3⟩ := h
  exact ⟨g,vs,hi.trans h1,h2,oR hl ho h3⟩
 | arr e t l b =>
  obtain ⟨v,g,xs,h1,h2,h3⟩ := h
  exact ⟨v,g,xs,hi.trans h1,by rw [ho]; exact h2,h3⟩
 | fro e t l b =>
  obtain ⟨v,g,h1,h2⟩ := h
  exact ⟨v,g,hi.trans h1,by rw [ho]; exact h2⟩
 | nst e t l =>
  obtain ⟨v,g,hd,xs,h1,h2⟩ := h
  exact ⟨v,g,hd,xs,hi.trans h1,h2⟩
theorem Ky {f : Nat -> Option Nat} (b : Blk) : (b.ren f).kind = b.kind := by cases b <;> rfl
theorem kJ {f : Nat -> Option Nat} {sg : Sig} : ∀ {js : List (Nat × Nat)},bZ js = true -> ∀ {i : Nat} {b : Blk},(sg.sel f js).get i = some b -> ∃ j b0,(j,i) ∈ js /\ sg.get j = some b0 /\ b = b0.ren f
 | [],_,i,b,h => by cases h
 | (j,k) :: r,hj,i,b,h => by
  have hr : bZ r = true := by
   simp only [bZ,List.map_cons,nodup,Bool.and_eq_true] at hj ⊢
   exact ⟨hj.1.2,hj.2.2⟩
  simp only [Sig.sel] at h
  split at h
  ·rename_i b0 hb
   simp only [Sig.get,aq,beq_iff_eq] at h
   split at h
   ·rename_i he
    cases h
    subst he
    exact ⟨j,b0,List.mem_cons_self,hb,rfl⟩
   ·obtain ⟨j',b',h1,h2,h3⟩ := kJ hr h
    exact ⟨j',b',List.mem_cons_of_mem _ h1,h2,h3⟩
  ·obtain ⟨j',b',h1,h2,h3⟩ := kJ hr h
   exact ⟨j',b',List.mem_cons_of_mem _ h1,h2,h3⟩
theorem iP {f : Nat -> Option Nat} {sg : Sig} : ∀ {js : List (Nat × Nat)} {j i : Nat},(j,i) ∈ js -> (sg.get j).isSome = true -> ((sg.sel f js).get i).isSome = true
 | [],_,_,h,_ => by cases h
 | (a,k) :: r,j,i,h,hs => by
  simp only [Sig.sel]
  rcases List.mem_cons.1 h with h | h
  ·cases h
   obtain ⟨b,hb⟩ := Option.isSome_iff_exists.1 hs
   rw [hb]
   simp [Sig.get]
  ·have ih := iP (f := f) h hs
   split
   ·simp only [Sig.get,aq]
    split
    ·rfl
    ·exact ih
   ·exact ih
section
variable {P : Program} {E : Env} {B : Nat} {O O' : Ow} {w0 w w' : World} {ρ ρ' : al} {a : Act} {R : Type} {r : R} {sg sg' : Sig} {st : St} {call : aJ}
theorem jU {js : List (Nat × Nat)} (hj : bZ js = true) {f : Nat -> Option Nat} (hl : ∀ j i,(j,i) ∈ js -> ρ'.loc i = ρ.loc j) {i g : Nat} (h : aP ρ' (sg.sel f js) i g) : ∃ j,(j,i) ∈ js /\ aP ρ sg j g := by
 obtain ⟨b,h1,h2,h3⟩ := aE.1 h
 obtain ⟨j,b0,h4,h5,rfl⟩ := kJ hj h1
 exact ⟨j,h4,h.tr (fun b' hb => by rw [h1] at hb; cases hb; exact ⟨b0,h5,(Ky b0).symm⟩) (hl j i h4)⟩
theorem Mem.sel (h : Mem B O ρ sg w) {js : List (Nat × Nat)} (hj : bZ js = true) (hs : ∀ j i,(j,i) ∈ js -> (sg.get j).isSome = true) (hl : ∀ j i,(j,i) ∈ js -> ρ'.loc i = ρ.loc j) (ho : ρ'.ok = ρ.ok) : Mem B O ρ' (sg.sel (look js) js) w := by
 have hl' : ∀ j i,look js j = some i -> ρ'.loc i = ρ.loc j := fun j i h => hl j i (bV h)
 refine ⟨fun i b hi => ?_,fun i k g hi hk => ?_,fun i g hi => ?_,fun b g hg => h.okb b g (by rw [← ho]; exact hg),fun b g hg i hi => ?_,fun g hg => (by rw [ho] at hg ⊢; exact h.okm g hg),fun b g hg => h.okx b g (by rw [← ho]; exact hg),fun b g hg => (by rw [ho]; exact h.oky b g hg),fun i b d hi hd => ?_⟩
 ·obtain ⟨j,b0,h1,h2,rfl⟩ := kJ hj hi
  exact IH hl' ho (hl j i h1) (h.blk j b0 h2)
 ·obtain ⟨j,h1,h2⟩ := jU hj hl hi
  obtain ⟨j',h3,h4⟩ := jU hj hl hk
  have := h.inj j j' g h2 h4
  subst this
  exact kI hj h1 h3
 ·obtain ⟨j,h1,h2⟩ := jU hj hl hi
  exact h.old j g h2
 ·obtain ⟨j,h1,h2⟩ := jU hj hl hi
  exact h.oko b g (by rw [← ho]; exact hg) j h2
 ·obtain ⟨j,b0,h1,h2,rfl⟩ := kJ hj hi
  obtain ⟨k,h3,h4⟩ := L8 hd
  exact iP (bV h3) (hs k d (bV h3))
def dz (ρ : al) (js : List (Nat × Nat)) : Nat -> Loc := fun i => match cK js i with | some j => ρ.loc j | none => ρ.loc i
theorem cy {js : List (Nat × Nat)} (hj : bZ js = true) {j i : Nat} (h : (j,i) ∈ js) : dz ρ js i = ρ.loc j := by
 unfold dz
 rw [(fU hj).2 h]
end
end Go.Proofs.YtcddhifkfakcjaaGreat.Lib
namespace Go.Proofs.YtcddhifkfakcjaaGreat.Lib
open Go Go.RowKit
set_option linter.unusedVariables false
set_option linter.unusedSimpArgs false
theorem Ks (s : Sig) (f : Nat -> Blk -> Blk) (i : Nat) : Sig.get i (s.map fun p => (p.1,f p.1 p.2)) = (s.get i).map (f i) := by
 induction s with
 | nil => rfl
 | cons q r ih =>
  obtain ⟨a,c⟩ := q
  simp only [List.map_cons,Sig.get,ih,aq,beq_iff_eq]
  split
  ·rename_i he; subst he; rfl
  ·rfl
def ri (b : Blk) : Prop := (∃ e t,b = .arr e t [] false) ∨ ∃ e t,b = .nst e t []
theorem dm {sg : Sig} : ∀ {gs : List (Nat × GP)} {j : Nat} {b : Blk},(eM sg gs).get j = some b -> sg.get j = none /\ j < PIN /\ ri b
 | [],j,b,h => by cases h
 | (i,g) :: r,j,b,h => by
  simp only [eM] at h
  split at h
  ·rename_i e t q
   simp only [aq] at h
   split at h
   ·rename_i hc
    simp only [Bool.and_eq_true,Option.isNone_iff_eq_none,Nat.blt_eq] at hc
    simp only [Sig.get,aq,beq_iff_eq] at h
    split at h
    ·rename_i he
     subst he
     cases h
     exact ⟨hc.1,hc.2,.inl ⟨_,_,rfl⟩⟩
    ·exact dm h
   ·exact dm h
  ·rename_i e t
   simp only [aq] at h
   split at h
   ·rename_i hc
    simp only [Bool.and_eq_true,Option.isNone_iff_eq_none,Nat.blt_eq] at hc
    simp only [Sig.get,aq,beq_iff_eq] at h
    split at h
    ·rename_i he
     subst he
     cases h
     exact ⟨hc.1,hc.2,.inr ⟨_,_,rfl⟩⟩
    ·exact dm h
   ·exact dm h
  ·exact dm h
def bc (ρ : al) (add : Sig) (i : Nat) : Loc := match add.get i with | some (.arr _ t _ _) => .arr (.slice none 0 0) none t.sz | some (.nst _ t _) => .nst (.slice none 0 0) none t.sz [] | _ => ρ.loc i
section
variable {P : Program} {E : Env} {B : Nat} {O O' : Ow} {w0 w w' : World} {ρ ρ' : al} {a : Act} {R : Type} {r : R} {sg sg' : Sig} {st : St} {call : aJ}
theorem uw {add : Sig} (hadd : ∀ j b,add.get j = some b -> ri b) {p : CP} {c : Cell} {v : Value} (h : rc ⟨bc ρ add,ρ.ok⟩ w c v) : rc ⟨bc ρ add,ρ.ok⟩ w (nN add p c) v := by
 unfold nN
 split
 ·rename_i j
  split
  ·rename_i e t l b hb
   have h : v = .slice none 0 0 := h
   subst h
   exact ⟨none,t.sz,by simp only [bc,hb]⟩
  ·exact h
 ·rename_i j
  split
  ·rename_i e t l hb
   have h : v = .slice none 0 0 := h
   subst h
   exact ⟨none,t.sz,[],by simp only [bc,hb]⟩
  ·exact h
 ·exact h
theorem qf {add : Sig} {p : CP} {c : Cell} {d : Nat} (h : (nN add p c).ae d = true) : c.ae d = true ∨ (add.get d).isSome = true := by
 unfold nN at h
 split at h
 ·rename_i j
  split at h
  ·rename_i hj
   have := eq_of_beq h; subst this
   exact .inr (by rw [hj]; rfl)
  ·cases h
 ·rename_i j
  split at h
  ·rename_i hj
   have := eq_of_beq h; subst this
   exact .inr (by rw [hj]; rfl)
  ·cases h
 ·exact .inl h
theorem kO {add : Sig} (hadd : ∀ j b,add.get j = some b -> ri b) : ∀ {ps : List CP} {cs : List Cell} {vs : List Value},aF (rc ⟨bc ρ add,ρ.ok⟩ w) cs vs -> aF (rc ⟨bc ρ add,ρ.ok⟩ w) (kj add ps cs) vs
 | [],cs,vs,h => h
 | p :: r,cs,vs,h => by
  simp only [kj]
  split
  ·rename_i t b
   have h1 := h.take t.sz
   have h2 := kO hadd (ps := r) (h.drop t.sz)
   have := h1.append h2
   rwa [List.take_append_drop] at this
  ·split
   ·rename_i c cs
    cases h with
    | cons h0 h1 => exact .cons (uw hadd h0) (kO hadd h1)
   ·exact h
theorem gu {add : Sig} : ∀ {ps : List CP} {cs : List Cell} {d : Nat},(kj add ps cs).any (·.ae d) = true -> cs.any (·.ae d) = true ∨ (add.get d).isSome = true
 | [],cs,d,h => .inl h
 | p :: r,cs,d,h => by
  simp only [kj] at h
  split at h
  ·rename_i t b
   rw [List.any_append,Bool.or_eq_true] at h
   rcases h with h | h
   ·left
    obtain ⟨c,hc,hd⟩ := List.any_eq_true.1 h
    exact List.any_eq_true.2 ⟨c,List.mem_of_mem_take hc,hd⟩
   ·rcases gu h with h | h
    ·left
     obtain ⟨c,hc,hd⟩ := List.any_eq_true.1 h
     exact List.any_eq_true.2 ⟨c,List.mem_of_mem_drop hc,hd⟩
    ·exact .inr h
  ·split at h
   ·rename_i c cs
    rw [List.any_cons,Bool.or_eq_true] at h ⊢
    rcases h with h | h
    ·exact (qf h).imp .inl id
    ·exact (gu h).imp .inr id
   ·exact .inl h
theorem Cj {add : Sig} (hadd : ∀ j b,add.get j = some b -> ri b) {s : SP} {x : AV} {v : Value} (h : rav ⟨bc ρ add,ρ.ok⟩ w x v) : rav ⟨bc ρ add,ρ.ok⟩ w (pJ add s x) v := by
 unfold pJ
 split
 ·exact uw hadd h
 ·obtain ⟨vs,h,h1⟩ := h
  exact ⟨vs,h,kO hadd h1⟩
 ·exact h
theorem AO {add : Sig} {s : SP} {x : AV} {d : Nat} (h : (pJ add s x).ae d = true) : x.ae d = true ∨ (add.get d).isSome = true := by
 unfold pJ at h
 split at h
 ·exact qf h
 ·exact gu h
 ·exact .inl h
theorem lL {add : Sig} : ∀ {ss : List SP} {vs : List AV} {i : Nat} {x : AV},(iI add ss vs)[i]? = some x -> ∃ v,vs[i]? = some v /\ (x = v ∨ ∃ s,x = pJ add s v)
 | [],vs,i,x,h => ⟨x,h,.inl rfl⟩
 | s :: ss,[],i,x,h => ⟨x,h,.inl rfl⟩
 | s :: ss,v :: vs,i,x,h => by
  cases i with
  | zero =>
   simp only [iI,List.getElem?_cons_zero,Option.some.injEq] at h
   exact ⟨v,rfl,.inr ⟨s,h.symm⟩⟩
  | succ i =>
   simp only [iI,List.getElem?_cons_succ] at h ⊢
   exact lL h
theorem tK {add : Sig} : ∀ {ss : List SP} {vs : List AV},(iI add ss vs).length = vs.length
 | [],vs => by simp [iI]
 | s :: ss,[] => by simp [iI]
 | s :: ss,v :: vs => by simp [iI,tK]
theorem ya {add : Sig} {gs : List (Nat × GP)} {j : Nat} (b : Blk) : (fh add gs j b).kind = b.kind := by
 cases b with
 | box ty cs => simp only [fh]; split <;> rfl
 | _ => rfl
theorem Sim.fresh (h : Sim P B O w0 ρ st a w) (ss : List SP) (gs : List (Nat × GP)) :
  ∃ ρ',Sim P B O w0 ρ' (st.fresh ss gs) a w /\ ρ'.ok = ρ.ok /\ (∀ i,PIN <= i -> ρ'.loc i = ρ.loc i) /\ ∀ j g,aP ρ' (st.fresh ss gs).sg j g -> aP ρ st.sg j g := by
 unfold St.fresh
 split
 ·exact ⟨ρ,h,rfl,fun _ _ => rfl,fun _ _ h => h⟩
 ·rename_i q0 r0 hq
  rw [← hq]
  have hspec : ∀ j b,(eM st.sg gs).get j = some b -> st.sg.get j = none /\ j < PIN /\ ri b := fun j b h => dm h
  generalize eM st.sg gs = add at hspec
  clear hq
  have hadd : ∀ j b,add.get j = some b -> ri b := fun j b h => (hspec j b h).2.2
  have hnone : ∀ j,(st.sg.get j).isSome = true -> add.get j = none := fun j hj => by
   cases hb : add.get j with
   | none => rfl
   | some b => rw [(hspec j b hb).1] at hj; cases hj
  have hloc : ∀ j,(st.sg.get j).isSome = true -> bc ρ add j = ρ.loc j := fun j hj => by simp only [bc,hnone j hj]
  have hst : Step (fun j => (st.sg.get j).isSome = true) ρ ⟨bc ρ add,ρ.ok⟩ w w := ⟨hloc,fun _ _ h => h,fun _ _ _ => rfl⟩
  have hget : ∀ j,(add ++ st.sg.map fun p => (p.1,fh add gs p.1 p.2)).get j = (add.get j).or ((st.sg.get j).map (fh add gs j)) := fun j => by rw [Sig.get_append,Ks]
  have hown : ∀ j g,aP ⟨bc ρ add,ρ.ok⟩ (add ++ st.sg.map fun p => (p.1,fh add gs p.1 p.2)) j g -> aP ρ st.sg j g := by
   intro j g ho
   obtain ⟨b,h1,h2,h3⟩ := aE.1 ho
   rw [hget] at h1
   cases hb : add.get j with
   | some b0 =>
    rw [hb] at h1
    simp only [Option.some_or,Option.some.injEq] at h1
    subst h1
    rcases hadd j b0 hb with ⟨e,t,rfl⟩ | ⟨e,t,rfl⟩
    ·rcases h3 with ⟨_,_,h3,_⟩ | ⟨_,_,_,_,_,v,sz,h3⟩ | ⟨_,_,_,h3,_⟩
     ·cases h3
     ·simp only [bc,hb] at h3
      cases h3
     ·cases h3
    ·rcases h3 with ⟨_,_,h3,_⟩ | ⟨_,_,_,_,h3,_⟩ | ⟨_,_,_,_,v,g',sz,hd,h3,h4⟩
     ·cases h3
     ·cases h3
     ·simp only [bc,hb] at h3
      cases h3
      simp [ct,kids] at h4
   | none =>
    rw [hb,Option.none_or,Option.map_eq_some_iff] at h1
    obtain ⟨b0,h4,rfl⟩ := h1
    refine ho.tr (fun b' hb' => ?_) (hloc j (by rw [h4]; rfl))
    rw [hget,hb,Option.none_or,h4,Option.map_some] at hb'
    cases hb'
    exact ⟨b0,h4,(ya b0).symm⟩
  have hsome : ∀ d,(st.sg.get d).isSome = true ∨ (add.get d).isSome = true -> ((add ++ st.sg.map fun p => (p.1,fh add gs p.1 p.2)).get d).isSome = true := by
   intro d hd
   rw [hget]
   cases hb : add.get d with
   | some b => rfl
   | none =>
    rw [hb] at hd
    rw [Option.none_or,Option.isSome_map]
    rcases hd with hd | hd
    ·exact hd
    ·cases hd
  refine ⟨⟨bc ρ add,ρ.ok⟩,⟨⟨fun j b hj => ?_,fun i j g hi hj => h.mem.inj i j g (hown i g hi) (hown j g hj),fun j g hj => h.mem.old j g (hown j g hj),h.mem.okb,fun b g hg j hj => h.mem.oko b g hg j (hown j g hj),h.mem.okm,h.mem.okx,h.mem.oky,fun j b d hj hd => ?_⟩,by rw [h.len]; exact tK.symm,fun i v hi => ?_,fun i v d hi hd => ?_,h.defers,h.fr,h.base,fun j hj => ?_,h.glo⟩,rfl,fun i hi => ?_,hown⟩
  ·rw [hget] at hj
   cases hb : add.get j with
   | some b0 =>
    rw [hb] at hj
    simp only [Option.some_or,Option.some.injEq] at hj
    subst hj
    rcases hadd j b0 hb with ⟨e,t,rfl⟩ | ⟨e,t,rfl⟩
    ·exact ⟨.slice none 0 0,none,[],by simp only [bc,hb],⟨by simp,fun j p hp => by simp at hp⟩,rfl,none,rfl⟩
    ·exact ⟨.slice none 0 0,none,[],[],by simp only [bc,hb],⟨by simp,rfl,fun i p hp => by simp at hp,⟨rfl,none,rfl⟩,by simp [ct,kids]⟩⟩
   | none =>
    rw [hb,Option.none_or,Option.map_eq_some_iff] at hj
    obtain ⟨b0,h4,rfl⟩ := hj
    have hr := cd hst (by rw [h4]; rfl) (fun x hx => h.mem.dom j b0 x h4 hx) (fun _ _ _ => rfl) (h.mem.blk j b0 h4)
    cases b0 with
    | arr e t l q => exact hr
    | fro e t l q => exact hr
    | nst e t l => exact hr
    | box ty cs =>
     simp only [fh]
     split
     ·obtain ⟨g,vs,a1,a2,a3⟩ := hr
      exact ⟨g,vs,a1,a2,kO hadd a3⟩
     ·exact hr
  ·rw [hget] at hj
   cases hb : add.get j with
   | some b0 =>
    rw [hb] at hj
    simp only [Option.some_or,Option.some.injEq] at hj
    subst hj
    rcases hadd j b0 hb with ⟨e,t,rfl⟩ | ⟨e,t,rfl⟩ <;> cases hd
   | none =>
    rw [hb,Option.none_or,Option.map_eq_some_iff] at hj
    obtain ⟨b0,h4,rfl⟩ := hj
    cases b0 with
    | arr e t l q => cases hd
    | fro e t l q => cases hd
    | nst e t l => cases hd
    | box ty cs =>
     simp only [fh] at hd
     split at hd
     ·exact hsome d ((gu hd).imp (fun hd => h.mem.dom j _ d h4 hd) id)
     ·exact hsome d (.inl (h.mem.dom j _ d h4 hd))
  ·obtain ⟨x,h1,h2⟩ := lL hi
   obtain ⟨u,h3,h4⟩ := h.sl i x h1
   have h5 := bQ hst (fun d hd => h.dom i x d h1 hd) h4
   rcases h2 with rfl | ⟨s,rfl⟩
   ·exact ⟨u,h3,h5⟩
   ·exact ⟨u,h3,Cj hadd h5⟩
  ·obtain ⟨x,h1,h2⟩ := lL hi
   rcases h2 with rfl | ⟨s,rfl⟩
   ·exact hsome d (.inl (h.dom i _ d h1 hd))
   ·exact hsome d ((AO hd).imp (fun hd => h.dom i x d h1 hd) id)
  ·refine Eq.trans ?_ (h.pin j hj)
   simp only [bc]
   split
   ·rename_i hb
    have := (hspec j _ hb).2.1
    omega
   ·rename_i hb
    have := (hspec j _ hb).2.1
    omega
   ·rfl
  ·simp only [bc]
   split
   ·rename_i hb
    have := (hspec i _ hb).2.1
    omega
   ·rename_i hb
    have := (hspec i _ hb).2.1
    omega
   ·rfl
theorem xb (h : Mem B O ρ sg w) {c : Cell} {v : Value} (hr : rc ρ w c v) : rc ρ w (c.dn sg) v := by
 unfold Cell.dn
 split
 ·rename_i j
  split
  ·rename_i e t l b hj
   obtain ⟨g,sz,hl⟩ := hr
   obtain ⟨v',g',hl',hp⟩ := h.blk j _ hj
   rw [hl] at hl'; cases hl'
   exact hp
  ·exact hr
 ·rename_i j o n
  split
  ·rename_i e t l b hj
   obtain ⟨A,N,c,g,sz,hl,hle,hsub⟩ := hr
   obtain ⟨v',g',hl',hp⟩ := h.blk j _ hj
   rw [hl] at hl'; cases hl'
   have hp0 := hp
   simp only [Rp] at hp0
   obtain ⟨A',c',h1,_⟩ := hp0
   simp only [List.cons.injEq,Value.slice.injEq,and_true] at h1
   obtain ⟨rfl,rfl,rfl⟩ := h1
   exact Cw hp hle hsub
  ·exact hr
 ·exact hr
theorem vu {c : Cell} {d : Nat} (h : (c.dn sg).ae d = true) : c.ae d = true := by
 unfold Cell.dn at h
 split at h
 ·split at h
  ·cases h
  ·exact h
 ·split at h
  ·cases h
  ·exact h
 ·exact h
theorem At {cs : List Cell} {d : Nat} (h : (cs.map (·.dn sg)).any (·.ae d) = true) : cs.any (·.ae d) = true := by
 obtain ⟨c',hc',hd⟩ := List.any_eq_true.1 h
 obtain ⟨c,hc,rfl⟩ := List.mem_map.1 hc'
 exact List.any_eq_true.2 ⟨c,hc,vu hd⟩
theorem vj {sg : Sig} (b : Blk) : (b.dn sg).kind = b.kind := by cases b <;> rfl
theorem Sim.dn (h : Sim P B O w0 ρ st a w) : Sim P B O w0 ρ st.dn a w := by
 unfold St.dn
 rw [aq]
 split
 ·have hget : ∀ j,Sig.get j (st.sg.map fun q => (q.1,q.2.dn st.sg)) = (st.sg.get j).map (·.dn st.sg) := fun j => Sig.get_map _ _ _
  have hown : ∀ j g,aP ρ (st.sg.map fun q => (q.1,q.2.dn st.sg)) j g -> aP ρ st.sg j g := by
   intro j g ho
   obtain ⟨b,h1,h2,h3⟩ := aE.1 ho
   rw [hget,Option.map_eq_some_iff] at h1
   obtain ⟨b0,h4,rfl⟩ := h1
   exact ho.tr (fun b' hb' => by
    rw [hget,h4,Option.map_some] at hb'
    cases hb'
    exact ⟨b0,h4,(vj b0).symm⟩) rfl
  refine ⟨⟨fun j b hj => ?_,fun i j g hi hj => h.mem.inj i j g (hown i g hi) (hown j g hj),fun j g hj => h.mem.old j g (hown j g hj),h.mem.okb,fun b g hg j hj => h.mem.oko b g hg j (hown j g hj),h.mem.okm,h.mem.okx,h.mem.oky,fun j b d hj hd => ?_⟩,by simpa using h.len,fun i v hi => ?_,fun i v d hi hd => ?_,h.defers,h.fr,h.base,h.pin,h.glo⟩
  ·rw [hget,Option.map_eq_some_iff] at hj
   obtain ⟨b0,h4,rfl⟩ := hj
   have hr := h.mem.blk j b0 h4
   cases b0 with
   | box ty cs =>
    obtain ⟨g,vs,h1,h2,h3⟩ := hr
    exact ⟨g,vs,h1,h2,h3.b9 _ fun c v _ hc => xb h.mem hc⟩
   | arr e t l q => exact hr
   | fro e t l q => exact hr
   | nst e t l => exact hr
  ·rw [hget,Option.map_eq_some_iff] at hj
   obtain ⟨b0,h4,rfl⟩ := hj
   rw [hget,Option.isSome_map]
   cases b0 with
   | box ty cs => exact h.mem.dom j _ d h4 (At hd)
   | arr e t l q => cases hd
   | fro e t l q => cases hd
   | nst e t l => cases hd
  ·rw [List.getElem?_map,Option.map_eq_some_iff] at hi
   obtain ⟨v0,h1,rfl⟩ := hi
   obtain ⟨u,h2,h3⟩ := h.sl i v0 h1
   refine ⟨u,h2,?_⟩
   cases v0 with
   | one c => exact xb h.mem h3
   | agg cs =>
    obtain ⟨vs,h3,h4⟩ := h3
    exact ⟨vs,h3,h4.b9 _ fun c v _ hc => xb h.mem hc⟩
   | tup ps => exact h3
  ·rw [List.getElem?_map,Option.map_eq_some_iff] at hi
   obtain ⟨v0,h1,rfl⟩ := hi
   show (Sig.get d (st.sg.map fun q => (q.1,q.2.dn st.sg))).isSome = true
   rw [hget,Option.isSome_map]
   refine h.dom i v0 d h1 ?_
   cases v0 with
   | one c => exact vu hd
   | agg cs => exact At hd
   | tup ps => exact hd
 ·exact h
theorem Iy (s : St) : s.dn.sl.length = s.sl.length := by
 unfold St.dn
 rw [aq]
 split
 ·simp
 ·rfl
theorem xE (h : Mem B O ρ sg w) {p : SP} {v v' : AV} {u : Value} (hr : rav ρ w v u) (hs : yZ p sg v = (sg',v')) :
  ∃ ρ',dh ρ ρ' /\ Mem B O ρ' sg' w /\ bW sg sg' /\ rav ρ' w v' u /\ ∀ d,v'.ae d = true -> v.ae d = true := by
 have same : ∀ {sg' : Sig} {v' : AV},(sg,v) = (sg',v') -> ∃ ρ',dh ρ ρ' /\ Mem B O ρ' sg' w /\ bW sg sg' /\ rav ρ' w v' u /\ ∀ d,v'.ae d = true -> v.ae d = true := by
  intro sg' v' he
  cases he
  exact ⟨ρ,dh.refl _,h,bW.refl _,hr,fun _ h => h⟩
 have set : ∀ {sg' : Sig} {v' : AV},(cm sg v).getD (sg,v) = (sg',v') -> ∃ ρ',dh ρ ρ' /\ Mem B O ρ' sg' w /\ bW sg sg' /\ rav ρ' w v' u /\ ∀ d,v'.ae d = true -> v.ae d = true := by
  intro sg' v' he
  cases hx : cm sg v with
  | none => rw [hx] at he; exact same he
  | some q =>
   rw [hx] at he
   obtain ⟨sg1,v1⟩ := q
   cases he
   exact fM h hr hx
 unfold yZ at hs
 split at hs
 ·exact set hs
 ·exact set hs
 ·rw [aq] at hs
  split at hs
  ·exact set hs
  ·exact same hs
 ·exact same hs
theorem nH : ∀ (ps : List SP) (sg : Sig) (ρ : al) (vs : List AV) (us : List Value) (sg' : Sig) (vs' : List AV),Mem B O ρ sg w -> (∀ (i : Nat) (v : AV),vs[i]? = some v -> ∃ u : Value,us[i]? = some u /\ rav ρ w v u) -> jO ps sg vs = (sg',vs') ->
  ∃ ρ',dh ρ ρ' /\ Mem B O ρ' sg' w /\ bW sg sg' /\ vs'.length = vs.length /\ (∀ (i : Nat) (v : AV),vs'[i]? = some v -> ∃ u : Value,us[i]? = some u /\ rav ρ' w v u) /\ ∀ (i : Nat) (v' : AV) (d : Nat),vs'[i]? = some v' -> v'.ae d = true -> ∃ v,vs[i]? = some v /\ v.ae d = true
 | [],sg,ρ,vs,us,sg',vs',h,hr,hs => by
  simp only [jO,Prod.mk.injEq] at hs
  obtain ⟨rfl,rfl⟩ := hs
  exact ⟨ρ,dh.refl _,h,bW.refl _,rfl,hr,fun i v d hi hd => ⟨v,hi,hd⟩⟩
 | p :: ps,sg,ρ,[],us,sg',vs',h,hr,hs => by
  simp only [jO,Prod.mk.injEq] at hs
  obtain ⟨rfl,rfl⟩ := hs
  exact ⟨ρ,dh.refl _,h,bW.refl _,rfl,hr,fun i v d hi hd => ⟨v,hi,hd⟩⟩
 | p :: ps,sg,ρ,v :: vs,us,sg',vs',h,hr,hs => by
  simp only [jO] at hs
  obtain ⟨u0,hu0,hr0⟩ := hr 0 v rfl
  obtain ⟨us,rfl⟩ : ∃ t,us = u0 :: t := by
   cases us with
   | nil => simp at hu0
   | cons x t => simp only [List.getElem?_cons_zero,Option.some.injEq] at hu0; subst hu0; exact ⟨t,rfl⟩
  generalize hx : yZ p sg v = q1 at hs
  obtain ⟨sg1,v1⟩ := q1
  simp only at hs
  generalize hy : jO ps sg1 vs = q2 at hs
  obtain ⟨sg2,vs2⟩ := q2
  simp only [Prod.mk.injEq] at hs
  obtain ⟨rfl,rfl⟩ := hs
  obtain ⟨ρ1,a1,a2,a3,a4,a5⟩ := xE h hr0 hx
  obtain ⟨ρ2,b1,b2,b3,b4,b5,b6⟩ := nH ps sg1 ρ1 vs us _ _ a2 (fun i x hi => by
   obtain ⟨u,h1,h2⟩ := hr (i + 1) x (by simpa using hi)
   exact ⟨u,by simpa using h1,bQ (a1.step w) (fun _ _ => trivial) h2⟩) hy
  refine ⟨ρ2,a1.trans b1,b2,a3.trans b3,by simp [b4],fun i x hi => ?_,fun i x d hi hd => ?_⟩
  ·cases i with
   | zero => simp only [List.getElem?_cons_zero,Option.some.injEq] at hi; subst hi; exact ⟨u0,rfl,bQ (b1.step w) (fun _ _ => trivial) a4⟩
   | succ i => simpa using b5 i x (by simpa using hi)
  ·cases i with
   | zero => simp only [List.getElem?_cons_zero,Option.some.injEq] at hi; subst hi; exact ⟨v,rfl,a5 d hd⟩
   | succ i =>
    obtain ⟨y,h1,h2⟩ := b6 i x d (by simpa using hi) hd
    exact ⟨y,by simpa using h1,h2⟩
theorem bW.owns (hf : bW sg sg') (hl : ρ'.loc = ρ.loc) {j g : Nat} (h : aP ρ' sg' j g) : aP ρ sg j g := by
 obtain ⟨b,h1,h2,h3⟩ := aE.1 h
 rw [hl] at h3
 exact aE.2 ⟨b,hf.same j b h1 h2,h2,h3⟩
theorem Sim.GA (h : Sim P B O w0 ρ st a w) (ss : List SP) : ∃ ρ',Sim P B O w0 ρ' (st.GA ss) a w /\ dh ρ ρ' /\ ∀ j g,aP ρ' (st.GA ss).sg j g -> aP ρ st.sg j g := by
 unfold St.GA
 generalize hx : jO ss st.sg st.sl = q
 obtain ⟨sg1,sl1⟩ := q
 obtain ⟨ρ1,a1,a2,a3,a4,a5,a6⟩ := nH ss st.sg ρ st.sl a.tmps.toList sg1 sl1 h.mem (fun i v hi => by
  obtain ⟨u,h1,h2⟩ := h.sl i v hi
  exact ⟨u,by simpa using h1,h2⟩) hx
 refine ⟨ρ1,⟨a2,by simp [a4,h.len],fun i v hi => ?_,fun i v d hi hd => ?_,h.defers,h.fr,h.base,fun j hj => (congrFun a1.loc j).trans (h.pin j hj),h.glo⟩,a1,fun j g hj => a3.owns a1.loc hj⟩
 ·obtain ⟨u,h1,h2⟩ := a5 i v hi
  exact ⟨u,by simpa using h1,h2⟩
 ·obtain ⟨x,h1,h2⟩ := a6 i v d hi hd
  show (sg1.get d).isSome = true
  rw [a3.some]
  exact h.dom i x d h1 h2
theorem FX {j g : Nat} (h : aP ρ st.dn.sg j g) : aP ρ st.sg j g := by
 unfold St.dn at h
 rw [aq] at h
 split at h
 ·refine h.tr (fun b' hb' => ?_) rfl
  rw [show Sig.get j (st.sg.map fun q => (q.1,q.2.dn st.sg)) = _ from Sig.get_map _ _ _,Option.map_eq_some_iff] at hb'
  obtain ⟨b0,h4,rfl⟩ := hb'
  exact ⟨b0,h4,(vj b0).symm⟩
 ·exact h
theorem Mem.fresh (h : Mem B O ρ sg w) {add : Sig} (hspec : ∀ j b,add.get j = some b -> sg.get j = none /\ j < PIN /\ ri b) :
  Mem B O ⟨bc ρ add,ρ.ok⟩ (add ++ sg) w /\ Step (fun j => (sg.get j).isSome = true) ρ ⟨bc ρ add,ρ.ok⟩ w w /\ ∀ i,PIN <= i -> bc ρ add i = ρ.loc i := by
 have hnone : ∀ j,(sg.get j).isSome = true -> add.get j = none := fun j hj => by
  cases hb : add.get j with
  | none => rfl
  | some b => rw [(hspec j b hb).1] at hj; cases hj
 have hloc : ∀ j,(sg.get j).isSome = true -> bc ρ add j = ρ.loc j := fun j hj => by simp only [bc,hnone j hj]
 have hst : Step (fun j => (sg.get j).isSome = true) ρ ⟨bc ρ add,ρ.ok⟩ w w := ⟨hloc,fun _ _ h => h,fun _ _ _ => rfl⟩
 have hown : ∀ j g,aP ⟨bc ρ add,ρ.ok⟩ (add ++ sg) j g -> aP ρ sg j g := by
  intro j g ho
  obtain ⟨b,h1,h2,h3⟩ := aE.1 ho
  rw [Sig.get_append] at h1
  cases hb : add.get j with
  | some b0 =>
   rw [hb] at h1
   simp only [Option.some_or,Option.some.injEq] at h1
   subst h1
   rcases (hspec j b0 hb).2.2 with ⟨e,t,rfl⟩ | ⟨e,t,rfl⟩
   ·rcases h3 with ⟨_,_,h3,_⟩ | ⟨_,_,_,_,_,v,sz,h3⟩ | ⟨_,_,_,h3,_⟩
    ·cases h3
    ·simp only [bc,hb] at h3
     cases h3
    ·cases h3
   ·rcases h3 with ⟨_,_,h3,_⟩ | ⟨_,_,_,_,h3,_⟩ | ⟨_,_,_,_,v,g',sz,hd,h3,h4⟩
    ·cases h3
    ·cases h3
    ·simp only [bc,hb] at h3
     cases h3
     simp [ct,kids] at h4
  | none =>
   rw [hb,Option.none_or] at h1
   simp only [hloc j (by rw [h1]; rfl)] at h3
   exact aE.2 ⟨b,h1,h2,h3⟩
 refine ⟨⟨fun j b hj => ?_,fun i j g hi hj => h.inj i j g (hown i g hi) (hown j g hj),fun j g hj => h.old j g (hown j g hj),h.okb,fun b g hg j hj => h.oko b g hg j (hown j g hj),h.okm,h.okx,h.oky,fun j b d hj hd => ?_⟩,hst,fun i hi => ?_⟩
 ·rw [Sig.get_append] at hj
  cases hb : add.get j with
  | some b0 =>
   rw [hb] at hj
   simp only [Option.some_or,Option.some.injEq] at hj
   subst hj
   rcases (hspec j b0 hb).2.2 with ⟨e,t,rfl⟩ | ⟨e,t,rfl⟩
   ·exact ⟨.slice none 0 0,none,[],by simp only [bc,hb],⟨by simp,fun j p hp => by simp at hp⟩,rfl,none,rfl⟩
   ·exact ⟨.slice none 0 0,none,[],[],by simp only [bc,hb],⟨by simp,rfl,fun i p hp => by simp at hp,⟨rfl,none,rfl⟩,by simp [ct,kids]⟩⟩
  | none =>
   rw [hb,Option.none_or] at hj
   exact cd hst (by show _ = _; rw [hj]; rfl) (fun x hx => h.dom j b x hj hx) (fun _ _ _ => rfl) (h.blk j b hj)
 ·rw [Sig.get_append] at hj ⊢
  cases hb : add.get j with
  | some b0 =>
   rw [hb] at hj
   simp only [Option.some_or,Option.some.injEq] at hj
   subst hj
   rcases (hspec j b0 hb).2.2 with ⟨e,t,rfl⟩ | ⟨e,t,rfl⟩ <;> cases hd
  | none =>
   rw [hb,Option.none_or] at hj
   have := h.dom j b d hj hd
   obtain ⟨b1,hb1⟩ := Option.isSome_iff_exists.1 this
   cases add.get d with
   | some b2 => rfl
   | none => rw [Option.none_or,hb1]; rfl
 ·simp only [bc]
  split
  ·rename_i hb
   have := (hspec i _ hb).2.1
   omega
  ·rename_i hb
   have := (hspec i _ hb).2.1
   omega
  ·rfl
def qC : Blk -> Loc
 | .arr _ t _ _ => .arr (.slice none 0 0) none t.sz
 | .nst _ t _ => .nst (.slice none 0 0) none t.sz []
 | _ => .arr (.slice none 0 0) none 0
theorem c9 {n : Bool} {add0 : Sig} (hl : ∀ q ∈ add0,ρ'.loc q.1 = qC q.2) : ∀ {ks : List (Option (TypeId × Ty))} {p : Nat} {cs cs' : List Cell} {add : Sig} {vs : List Value},cr n ks p cs = (cs',add) -> (∀ q ∈ add,q ∈ add0) -> aF (rc ρ' w) cs vs -> aF (rc ρ' w) cs' vs
 | [],p,cs,cs',add,vs,h,hs,hr => by
  simp only [cr,Prod.mk.injEq] at h
  obtain ⟨rfl,rfl⟩ := h
  exact hr
 | q :: ks,p,[],cs',add,vs,h,hs,hr => by
  simp only [cr,Prod.mk.injEq] at h
  obtain ⟨rfl,rfl⟩ := h
  exact hr
 | q :: ks,p,c :: cs,cs',add,vs,h,hs,hr => by
  simp only [cr] at h
  generalize hn : cr n ks (p + 1) cs = r at h
  obtain ⟨cs1,add1⟩ := r
  simp only at h
  cases hr with
  | @cons _ v _ vs hr0 hr1 =>
  split at h
  ·rename_i e t
   have hv : v = .slice none 0 0 := hr0
   subst hv
   rw [aq] at h
   split at h
   ·simp only [Prod.mk.injEq] at h
    obtain ⟨rfl,rfl⟩ := h
    exact .cons ⟨none,t.sz,[],hl _ (hs _ List.mem_cons_self)⟩ (c9 hl hn (fun x hx => hs x (List.mem_cons_of_mem _ hx)) hr1)
   ·simp only [Prod.mk.injEq] at h
    obtain ⟨rfl,rfl⟩ := h
    exact .cons ⟨none,t.sz,hl _ (hs _ List.mem_cons_self)⟩ (c9 hl hn (fun x hx => hs x (List.mem_cons_of_mem _ hx)) hr1)
  ·simp only [Prod.mk.injEq] at h
   obtain ⟨rfl,rfl⟩ := h
   exact .cons hr0 (c9 hl hn hs hr1)
theorem ed {n : Bool} : ∀ {ks : List (Option (TypeId × Ty))} {p : Nat} {cs cs' : List Cell} {add : Sig},cr n ks p cs = (cs',add) -> ∀ q ∈ add,ri q.2
 | [],p,cs,cs',add,h => by
  simp only [cr,Prod.mk.injEq] at h
  obtain ⟨rfl,rfl⟩ := h
  intro q hq; cases hq
 | q :: ks,p,[],cs',add,h => by
  simp only [cr,Prod.mk.injEq] at h
  obtain ⟨rfl,rfl⟩ := h
  intro q hq; cases hq
 | q :: ks,p,c :: cs,cs',add,h => by
  simp only [cr] at h
  generalize hn : cr n ks (p + 1) cs = r at h
  obtain ⟨cs1,add1⟩ := r
  simp only at h
  split at h
  ·rw [aq] at h
   split at h
   ·simp only [Prod.mk.injEq] at h
    obtain ⟨rfl,rfl⟩ := h
    intro x hx
    rcases List.mem_cons.1 hx with rfl | hx
    ·exact .inr ⟨_,_,rfl⟩
    ·exact ed hn x hx
   ·simp only [Prod.mk.injEq] at h
    obtain ⟨rfl,rfl⟩ := h
    intro x hx
    rcases List.mem_cons.1 hx with rfl | hx
    ·exact .inl ⟨_,_,rfl⟩
    ·exact ed hn x hx
  ·simp only [Prod.mk.injEq] at h
   obtain ⟨rfl,rfl⟩ := h
   exact ed hn
theorem A2 {n : Bool} {add0 : Sig} (hl : ∀ q ∈ add0,ρ'.loc q.1 = qC q.2) {ks : List (Option (TypeId × Ty))} {p : Nat} {v v' : AV} {add : Sig} {u : Value} (h : rU n ks p v = (v',add)) (hs : ∀ q ∈ add,q ∈ add0) (hr : rav ρ' w v u) : rav ρ' w v' u := by
 unfold rU at h
 split at h
 ·split at h
  ·rename_i c add1 hn
   simp only [Prod.mk.injEq] at h
   obtain ⟨rfl,rfl⟩ := h
   obtain ⟨u',h1,h2⟩ := (c9 hl hn hs (.cons hr .nil)).single
   cases h1
   exact h2
  ·simp only [Prod.mk.injEq] at h
   obtain ⟨rfl,rfl⟩ := h
   exact hr
 ·rename_i cs
  generalize hn : cr n ks p cs = r at h
  obtain ⟨cs1,add1⟩ := r
  simp only [Prod.mk.injEq] at h
  obtain ⟨rfl,rfl⟩ := h
  obtain ⟨vs,h1,h2⟩ := hr
  exact ⟨vs,h1,c9 hl hn hs h2⟩
 ·simp only [Prod.mk.injEq] at h
  obtain ⟨rfl,rfl⟩ := h
  exact hr
theorem GQ {n : Bool} {ks : List (Option (TypeId × Ty))} {p : Nat} {v v' : AV} {add : Sig} (h : rU n ks p v = (v',add)) : ∀ q ∈ add,ri q.2 := by
 unfold rU at h
 split at h
 ·split at h
  ·rename_i c add1 hn
   simp only [Prod.mk.injEq] at h
   obtain ⟨rfl,rfl⟩ := h
   exact ed hn
  ·simp only [Prod.mk.injEq] at h
   obtain ⟨rfl,rfl⟩ := h
   intro q hq; cases hq
 ·rename_i cs
  generalize hn : cr n ks p cs = r at h
  obtain ⟨cs1,add1⟩ := r
  simp only [Prod.mk.injEq] at h
  obtain ⟨rfl,rfl⟩ := h
  exact ed hn
 ·simp only [Prod.mk.injEq] at h
  obtain ⟨rfl,rfl⟩ := h
  intro q hq; cases hq
theorem my : ∀ {ts : List TypeId} {p : Nat} {vs vs' : List AV} {add : Sig},eA E ts p vs = (vs',add) -> ∀ q ∈ add,ri q.2
 | [],p,vs,vs',add,h => by
  simp only [eA,Prod.mk.injEq] at h
  obtain ⟨rfl,rfl⟩ := h
  intro q hq; cases hq
 | t :: ts,p,[],vs',add,h => by
  simp only [eA,Prod.mk.injEq] at h
  obtain ⟨rfl,rfl⟩ := h
  intro q hq; cases hq
 | t :: ts,p,v :: vs,vs',add,h => by
  simp only [eA] at h
  generalize h1 : rU E.nest (yW E t) p v = r1 at h
  generalize h2 : eA E ts (p + 64) vs = r2 at h
  obtain ⟨v1,add1⟩ := r1
  obtain ⟨vs1,add2⟩ := r2
  simp only [Prod.mk.injEq] at h
  obtain ⟨rfl,rfl⟩ := h
  intro q hq
  rcases List.mem_append.1 hq with hq | hq
  ·exact GQ h1 q hq
  ·exact my h2 q hq
theorem mR {add0 : Sig} (hl : ∀ q ∈ add0,ρ'.loc q.1 = qC q.2) : ∀ {ts : List TypeId} {p : Nat} {vs vs' : List AV} {add : Sig} {us : List Value},eA E ts p vs = (vs',add) -> (∀ q ∈ add,q ∈ add0) -> aF (rav ρ' w) vs us -> aF (rav ρ' w) vs' us
 | [],p,vs,vs',add,us,h,hs,hr => by
  simp only [eA,Prod.mk.injEq] at h
  obtain ⟨rfl,rfl⟩ := h
  exact hr
 | t :: ts,p,[],vs',add,us,h,hs,hr => by
  simp only [eA,Prod.mk.injEq] at h
  obtain ⟨rfl,rfl⟩ := h
  exact hr
 | t :: ts,p,v :: vs,vs',add,us,h,hs,hr => by
  simp only [eA] at h
  generalize h1 : rU E.nest (yW E t) p v = r1 at h
  generalize h2 : eA E ts (p + 64) vs = r2 at h
  obtain ⟨v1,add1⟩ := r1
  obtain ⟨vs1,add2⟩ := r2
  simp only [Prod.mk.injEq] at h
  obtain ⟨rfl,rfl⟩ := h
  cases hr with
  | cons hr0 hr1 => exact .cons (A2 hl h1 (fun q hq => hs q (List.mem_append_left _ hq)) hr0) (mR hl h2 (fun q hq => hs q (List.mem_append_right _ hq)) hr1)
theorem m4 : ∀ {s : Sig},nodup (s.map (·.1)) = true -> ∀ {x : Nat × Blk},x ∈ s -> s.get x.1 = some x.2
 | [],_,x,hx => by cases hx
 | (j,b) :: r,h,x,hx => by
  simp only [List.map_cons,nodup,Bool.and_eq_true,Bool.not_eq_true'] at h
  simp only [Sig.get,aq,beq_iff_eq]
  rcases List.mem_cons.1 hx with rfl | hx
  ·rw [if_pos rfl]
  ·rw [if_neg,m4 h.2 hx]
   intro he
   have : (List.map (fun x => x.1) r).contains j = true := List.contains_iff_mem.2 (List.mem_map.2 ⟨x,hx,he.symm⟩)
   rw [this] at h
   cases h.1
theorem lh (h : Mem B O ρ sg w) {ts : List TypeId} {vs vs' : List AV} {us : List Value} (hr : aF (rav ρ w) vs us) (hu : ∀ v ∈ vs,∀ d,v.ae d = true -> (sg.get d).isSome = true) (hn : gA E ts sg vs = (sg',vs')) :
  ∃ ρ',Mem B O ρ' sg' w /\ aF (rav ρ' w) vs' us /\ ∀ i,PIN <= i -> ρ'.loc i = ρ.loc i := by
 unfold gA at hn
 generalize hx : eA E ts 0 vs = r at hn
 obtain ⟨vs1,add⟩ := r
 cases add with
 | nil =>
  simp only [Prod.mk.injEq] at hn
  obtain ⟨rfl,rfl⟩ := hn
  exact ⟨ρ,h,hr,fun _ _ => rfl⟩
 | cons q r =>
  simp only [aq] at hn
  split at hn
  ·rename_i hall
   rw [Bool.and_eq_true] at hall
   simp only [Prod.mk.injEq] at hn
   obtain ⟨rfl,rfl⟩ := hn
   have hspec : ∀ j b,Sig.get j (q :: r) = some b -> sg.get j = none /\ j < PIN /\ ri b := fun j b hj => by
    have hm := Sig.get_mem hj
    have h1 := Sig.a8.1 (List.all_eq_true.1 hall.2 _ hm)
    exact ⟨h1.1,h1.2,my hx _ hm⟩
   obtain ⟨a1,a2,a3⟩ := h.fresh hspec
   refine ⟨_,a1,mR (add0 := q :: r) (fun x hx => ?_) hx (fun x hx => hx) (hr.imp fun v u hv hq => bQ a2 (fun d hd => hu v hv d hd) hq),a3⟩
   have hg := m4 hall.1 hx
   rcases my (by assumption) x hx with ⟨e,t,he⟩ | ⟨e,t,he⟩ <;> simp only [bc,hg,he,qC]
  ·simp only [Prod.mk.injEq] at hn
   obtain ⟨rfl,rfl⟩ := hn
   exact ⟨ρ,h,hr,fun _ _ => rfl⟩
theorem Sim.sel (h : Sim P B O w0 ρ st a w) {js : List (Nat × Nat)} (hok : Kr st.sg js = true) : Sim P B O w0 ⟨dz ρ js,ρ.ok⟩ (st.sel js) a w := by
 simp only [Kr,Bool.and_eq_true,List.all_eq_true,Bool.or_eq_true,Nat.blt_eq,beq_iff_eq] at hok
 obtain ⟨hj,hall⟩ := hok
 have hjs : ∀ j i,(j,i) ∈ js -> (st.sg.get j).isSome = true := fun j i hji => (hall (j,i) hji).1
 have hl : ∀ j i,look js j = some i -> (⟨dz ρ js,ρ.ok⟩ : al).loc i = ρ.loc j := fun j i hi => cy hj (bV hi)
 have hM := h.mem.sel hj hjs (ρ' := ⟨dz ρ js,ρ.ok⟩) (fun j i hji => cy hj hji) rfl
 refine ⟨hM,by simpa [St.sel] using h.len,fun i v hi => ?_,fun i v d hi hd => ?_,h.defers,h.fr,h.base,fun n hn => ?_,h.glo⟩
 ·simp only [St.sel,List.getElem?_map,Option.map_eq_some_iff] at hi
  obtain ⟨x,hx,rfl⟩ := hi
  obtain ⟨u,h1,h2⟩ := h.sl i x hx
  exact ⟨u,h1,qI hl rfl h2⟩
 ·simp only [St.sel,List.getElem?_map,Option.map_eq_some_iff] at hi
  obtain ⟨x,hx,rfl⟩ := hi
  obtain ⟨j,h3,h4⟩ := wK hd
  exact iP (bV h3) (hjs j d (bV h3))
 ·refine Eq.trans ?_ (h.pin n hn)
  show dz ρ js n = ρ.loc n
  unfold dz
  cases hb : cK js n with
  | none => rfl
  | some i =>
   have hin := (fU hj).1 hb
   rcases (hall (i,n) hin).2 with h0 | h0
   ·simp only at h0; omega
   ·simp only at h0; subst h0; rfl
theorem Sim.named (h : Sim P B O w0 ρ st a w) (ss : List SP) (gs : List (Nat × GP)) : ∃ ρ',Sim P B O w0 ρ' (st.named ss gs) a w := by
 unfold St.named
 rw [aq]
 split
 ·rename_i hok
  exact ⟨_,h.sel hok⟩
 ·exact ⟨ρ,h⟩
theorem jG : ∀ (vs : List AV) (hs : List Bool) (sg : Sig) (ρ : al) (us : List Value) (sg' : Sig) (vs' : List AV),Mem B O ρ sg w -> aF (rav ρ w) vs us -> nD sg hs vs = some (sg',vs') ->
  ∃ ρ',dh ρ ρ' /\ Mem B O ρ' sg' w /\ bW sg sg' /\ aF (rav ρ' w) vs' us /\ ∀ v' ∈ vs',∀ d,v'.ae d = true -> ∃ v ∈ vs,v.ae d = true
 | [],hs,sg,ρ,us,sg',vs',h,hr,hg => by
  have hg : some (sg,([] : List AV)) = some (sg',vs') := by cases hs <;> exact hg
  cases hg
  exact ⟨ρ,dh.refl _,h,bW.refl _,hr,fun v hv => by cases hv⟩
 | v :: vs,hs,sg,ρ,us,sg',vs',h,hr,hg => by
  cases hr with
  | @cons _ u0 _ us h0 h1 =>
  have step : ∀ sg1 v1,(match hs with | true :: _ => some (sg,v) | _ => cm sg v) = some (sg1,v1) -> ∃ ρ',dh ρ ρ' /\ Mem B O ρ' sg1 w /\ bW sg sg1 /\ rav ρ' w v1 u0 /\ ∀ d,v1.ae d = true -> v.ae d = true := by
   intro sg1 v1 hx
   split at hx
   ·cases hx
    exact ⟨ρ,dh.refl _,h,bW.refl _,h0,fun _ h => h⟩
   ·exact fM h h0 hx
  simp only [nD] at hg
  split at hg
  ·rename_i sg1 v1 hx
   split at hg
   ·rename_i sg2 vs2 hy
    cases hg
    obtain ⟨ρ1,a1,a2,a3,a4,a5⟩ := step _ _ hx
    obtain ⟨ρ2,b1,b2,b3,b4,b5⟩ := jG vs hs.tail sg1 ρ1 us _ _ a2 (h1.imp fun x u _ hq => bQ (a1.step w) (fun _ _ => trivial) hq) hy
    refine ⟨ρ2,a1.trans b1,b2,a3.trans b3,.cons (bQ (b1.step w) (fun _ _ => trivial) a4) b4,fun v' hv' d hd => ?_⟩
    rcases List.mem_cons.1 hv' with rfl | hv'
    ·exact ⟨v,List.mem_cons_self,a5 d hd⟩
    ·obtain ⟨x,hx,hd⟩ := b5 v' hv' d hd
     exact ⟨x,List.mem_cons_of_mem _ hx,hd⟩
   ·cases hg
  ·cases hg
theorem hZ {js : List (Nat × Nat)} {n : Nat} : (fS js sg).get n = if (look js n).isSome = true then none else (sg.get n).map (·.aT (gone js)) := by
 induction sg with
 | nil => simp [fS,Sig.get]
 | cons q r ih =>
  obtain ⟨j,b⟩ := q
  simp only [fS,aq]
  split
  ·rename_i hj
   rw [ih]
   simp only [Sig.get,aq,beq_iff_eq]
   by_cases he : j = n
   ·subst he; simp [hj]
   ·rw [if_neg he]
  ·rename_i hj
   simp only [Sig.get,aq,beq_iff_eq,ih]
   by_cases he : j = n
   ·subst he; rw [if_pos rfl,if_pos rfl,if_neg hj]; rfl
   ·rw [if_neg he,if_neg he]
theorem IC {sl : List AV} (h : Sim P B O w0 ρ ⟨sl,sg⟩ a w) {js : List (Nat × Nat)} (hj : bZ js = true) (hjs : ∀ j i,(j,i) ∈ js -> (sg.get j).isSome = true)
  {ρr : al} {fin : Sig} {G : Nat -> Prop} {L : Nat -> Loc} (hM : Mem w.heap.size ⟨G,ρ.ok,L⟩ ρr fin w') (hG : ∀ g,G g -> ∃ j i,(j,i) ∈ js /\ aP ρ sg j g)
  (hpin : ∀ i j,(j,i) ∈ js -> PIN <= i -> (fin.get i).isSome = true -> ρr.loc i = ρ.loc j) (hos : w'.os = w.os) (htape : w'.tape = w.tape) (hout : w'.output = w.output) (hsz : w.heap.size <= w'.heap.size) (hfr : ∀ g,g < w.heap.size -> (∀ j i,(j,i) ∈ js -> ¬ aP ρ sg j g) -> w'.heap[g]? = w.heap[g]?)
  {res : AV} {u : Value} (hr : rav ρr w' res u) (hu : ∀ d,res.ae d = true -> (fin.get d).isSome = true) {dst : Option Nat} {k : St -> Option R} (hk : iN sl sg js dst res fin k = some r) :
  ∃ ρ2 st2,k st2 = some r /\ Sim P B O w0 ρ2 st2 (a.put dst u) w' := by
 unfold iN at hk
 simp only [aq] at hk
 split at hk
 ·rename_i hc
  simp only [Bool.and_eq_true,List.all_eq_true,Bool.or_eq_true,Nat.blt_eq,Option.isNone_iff_eq_none] at hc
  obtain ⟨hks,hc1,hc2⟩ := hc
  have ksmem : ∀ i n,(i,n) ∈ xf js (dst.getD 0) fin -> (fin.get i).isSome = true /\ n = (match cK js i with | some j => j | none => i + dst.getD 0) := by
   intro i n hin
   obtain ⟨q,hq,he⟩ := List.mem_map.1 hin
   obtain ⟨i',b⟩ := q
   simp only [Prod.mk.injEq] at he
   obtain ⟨rfl,rfl⟩ := he
   refine ⟨?_,rfl⟩
   have key : ∀ {s : Sig},(i',b) ∈ s -> (s.get i').isSome = true := by
    intro s hs
    induction s with
    | nil => cases hs
    | cons q r ih =>
     obtain ⟨a0,c0⟩ := q
     simp only [Sig.get,aq,beq_iff_eq]
     split
     ·rfl
     ·rename_i hne
      rcases List.mem_cons.1 hs with hs | hs
      ·cases hs; exact absurd rfl hne
      ·exact ih hs
   exact key hq
  have ksin : ∀ i,(fin.get i).isSome = true -> (i,(match cK js i with | some j => j | none => i + dst.getD 0)) ∈ xf js (dst.getD 0) fin := by
   intro i hi
   obtain ⟨b,hb⟩ := Option.isSome_iff_exists.1 hi
   exact List.mem_map.2 ⟨(i,b),Sig.get_mem hb,rfl⟩
  generalize hksd : xf js (dst.getD 0) fin = ks at hks hc1 ksmem ksin hk
  let ρ2 : al := ⟨fun n => match cK ks n with | some i => ρr.loc i | none => ρ.loc n,ρr.ok⟩
  have F1 : ∀ i n,(i,n) ∈ ks -> ρ2.loc n = ρr.loc i := fun i n hin => by
   show (match cK ks n with | some i => ρr.loc i | none => ρ.loc n) = _
   rw [(fU hks).2 hin]
  have F2 : ∀ n,(sg.get n).isSome = true -> look js n = none -> ρ2.loc n = ρ.loc n /\ ∀ i,(i,n) ∉ ks := by
   intro n hn hl
   have hno : ∀ i,(i,n) ∉ ks := fun i hin => by
    have := (hc1 (i,n) hin).1
    rw [hZ,if_neg (by rw [hl]; simp),Option.map_eq_none_iff] at this
    rw [this] at hn; cases hn
   refine ⟨?_,hno⟩
   show (match cK ks n with | some i => ρr.loc i | none => ρ.loc n) = _
   cases hb : cK ks n with
   | none => rfl
   | some i => exact absurd ((fU hks).1 hb) (hno i)
  have F3 : ∀ j i,(j,i) ∈ js -> PIN <= i -> ρ2.loc j = ρ.loc j /\ (i,j) ∈ ks := by
   intro j i hji hi
   have h1 : (fin.get i).isSome = true := by
    rcases hc2 (j,i) hji with h0 | h0
    ·simp only at h0; omega
    ·exact h0
   have h2 := ksin i h1
   rw [(fU hj).2 hji] at h2
   exact ⟨(F1 i j h2).trans (hpin i j hji hi h1),h2⟩
  have F4 : ∀ n,PIN <= n -> ρ2.loc n = ρ.loc n := by
   intro n hn
   show (match cK ks n with | some i => ρr.loc i | none => ρ.loc n) = _
   cases hb : cK ks n with
   | none => rfl
   | some i =>
    have hin := (fU hks).1 hb
    obtain ⟨h1,h2⟩ := ksmem i n hin
    have h3 := (hc1 (i,n) hin).2
    simp only at h3
    split at h3
    ·rename_i hpi
     rw [Nat.ble_eq] at hpi
     obtain ⟨j,hbj⟩ := Option.isSome_iff_exists.1 h3
     rw [hbj] at h2
     simp only at h2
     subst h2
     exact hpin i n ((fU hj).1 hbj) hpi h1
    ·rw [Nat.blt_eq] at h3; omega
  have hMs : Mem w.heap.size ⟨G,ρ.ok,L⟩ ρ2 (fin.sel (look ks) ks) w' := hM.sel hks (fun i n hin => (ksmem i n hin).1) F1 rfl
  have hU : ∀ d,(sg.get d).isSome = true -> gone js d = false -> ρ2.loc d = ρ.loc d /\ ((fin.sel (look ks) ks ++ fS js sg).get d).isSome = true := by
   intro d hd hg
   cases hl : look js d with
   | none =>
    refine ⟨(F2 d hd hl).1,?_⟩
    rw [Sig.get_append]
    cases (fin.sel (look ks) ks).get d with
    | some b => rfl
    | none =>
     rw [Option.none_or,hZ,if_neg (by rw [hl]; simp),Option.isSome_map]
     exact hd
   | some i =>
    have hpi : PIN <= i := by
     unfold gone at hg
     rw [hl] at hg
     simp only at hg
     rcases Nat.lt_or_ge i PIN with hlt | hge
     ·rw [show Nat.blt i PIN = true from by rw [Nat.blt_eq]; exact hlt] at hg; cases hg
     ·exact hge
    obtain ⟨h1,h2⟩ := F3 d i (bV hl) hpi
    refine ⟨h1,?_⟩
    rw [Sig.get_append]
    obtain ⟨b,hb⟩ := Option.isSome_iff_exists.1 (iP (f := look ks) h2 (ksmem i d h2).1)
    rw [hb]; rfl
  have hsame : ∀ g,(∀ j i,(j,i) ∈ js -> ¬ aP ρ sg j g) -> g < w.heap.size -> w'.heap[g]? = w.heap[g]? := fun g hn hg => hfr g hg hn
  have hst : Step (fun d => (sg.get d).isSome = true /\ gone js d = false) ρ ρ2 w w' := ⟨fun d hd => (hU d hd.1 hd.2).1,fun b g hg => hM.oky b g hg,fun b g hg => hsame g (fun j i _ hj => h.mem.oko b g hg j hj) (h.mem.okb b g hg)⟩
  have hold : ∀ g,G g -> ∃ j,aP ρ sg j g /\ (look js j).isSome = true := fun g hg => by
   obtain ⟨j,i,h1,h2⟩ := hG g hg
   exact ⟨j,h2,by rw [(Bn hj).2 h1]; rfl⟩
  have hown : ∀ n g,aP ρ2 (fin.sel (look ks) ks ++ fS js sg) n g -> aP ρ2 (fin.sel (look ks) ks) n g ∨ (aP ρ sg n g /\ look js n = none) := by
   intro n g ho
   obtain ⟨b,h1,h2,h3⟩ := aE.1 ho
   rw [Sig.get_append] at h1
   cases hb : (fin.sel (look ks) ks).get n with
   | some b0 =>
    rw [hb] at h1
    simp only [Option.some_or,Option.some.injEq] at h1
    subst h1
    exact .inl (aE.2 ⟨b0,hb,h2,h3⟩)
   | none =>
    rw [hb,Option.none_or,hZ] at h1
    split at h1
    ·cases h1
    ·rename_i hl
     rw [Option.map_eq_some_iff] at h1
     obtain ⟨b0,h4,rfl⟩ := h1
     have hl' : look js n = none := by cases hx : look js n with | none => rfl | some x => rw [hx] at hl; exact absurd rfl hl
     refine .inr ⟨ho.tr (fun b' hb' => ?_) (F2 n (by rw [h4]; rfl) hl').1,hl'⟩
     rw [Sig.get_append,hb,Option.none_or,hZ,if_neg hl,h4,Option.map_some] at hb'
     cases hb'
     exact ⟨b0,h4,(zM b0).symm⟩
  have hmix : ∀ n m g,aP ρ2 (fin.sel (look ks) ks) n g -> aP ρ sg m g -> look js m = none -> False := by
   intro n m g h1 h2 h3
   rcases hMs.old n g h1 with h4 | h4
   ·exact absurd (h.mem.lt h2) (by omega)
   ·obtain ⟨j,h5,h6⟩ := hold g h4
    have := h.mem.inj j m g h5 h2
    subst this
    rw [h3] at h6; cases h6
  have hS : Sim P B O w0 ρ2 ⟨sl.map (·.aT (gone js)),fin.sel (look ks) ks ++ fS js sg⟩ a w' := by
   refine ⟨⟨fun n b hn => ?_,fun n m g h1 h2 => ?_,fun n g h1 => ?_,hM.okb,fun q g hq n hn => ?_,hM.okm,fun q g hq => ?_,fun q g hq => hM.oky q g (h.mem.oky q g hq),fun n b d hn hd => ?_⟩,by simpa using h.len,fun i v hi => ?_,fun i v d hi hd => ?_,h.defers,?_,Nat.le_trans h.base hsz,fun n hn => (F4 n hn).trans (h.pin n hn),h.glo⟩
   ·rw [Sig.get_append] at hn
    cases hb : (fin.sel (look ks) ks).get n with
    | some b0 =>
     rw [hb] at hn
     simp only [Option.some_or,Option.some.injEq] at hn
     subst hn
     exact hMs.blk n b0 hb
    | none =>
     rw [hb,Option.none_or,hZ] at hn
     split at hn
     ·cases hn
     ·rename_i hl
      rw [Option.map_eq_some_iff] at hn
      obtain ⟨b0,h4,rfl⟩ := hn
      have hl' : look js n = none := by cases hx : look js n with | none => rfl | some x => rw [hx] at hl; exact absurd rfl hl
      refine cd hst ⟨by rw [h4]; rfl,by unfold gone; rw [hl']⟩ (fun x hx => ?_) (fun g hg hnf => ?_) (qo (h.mem.blk n b0 h4))
      ·obtain ⟨h5,h6⟩ := eE hx
       exact ⟨h.mem.dom n b0 x h4 h5,h6⟩
      ·have ho : aP ρ sg n g := cD h4 (h.mem.blk n b0 h4) (fun e t l q he => hnf e t l q (by rw [he]; rfl)) hg
       refine hsame g (fun j i hji hjo => ?_) (h.mem.lt ho)
       have := h.mem.inj j n g hjo ho
       subst this
       rw [(Bn hj).2 hji] at hl'
       cases hl'
   ·rcases hown n g h1 with h3 | ⟨h3,h4⟩ <;> rcases hown m g h2 with h5 | ⟨h5,h6⟩
    ·exact hMs.inj n m g h3 h5
    ·exact (hmix n m g h3 h5 h6).elim
    ·exact (hmix m n g h5 h3 h4).elim
    ·exact h.mem.inj n m g h3 h5
   ·rcases hown n g h1 with h3 | ⟨h3,h4⟩
    ·rcases hMs.old n g h3 with h5 | h5
     ·exact .inl (Nat.le_trans h.base h5)
     ·obtain ⟨j,h6,_⟩ := hold g h5
      exact h.mem.old j g h6
    ·exact h.mem.old n g h3
   ·rcases hown n g hn with h3 | ⟨h3,h4⟩
    ·exact hMs.oko q g hq n h3
    ·rcases hM.okx q g hq with h5 | h5 | h5
     ·exact h.mem.oko q g h5 n h3
     ·exact absurd (h.mem.lt h3) (by omega)
     ·obtain ⟨j,h6,h7⟩ := hold g h5
      have := h.mem.inj j n g h6 h3
      subst this
      rw [h4] at h7; cases h7
   ·rcases hM.okx q g hq with h5 | h5 | h5
    ·exact h.mem.okx q g h5
    ·exact .inr (.inl (Nat.le_trans h.base h5))
    ·obtain ⟨j,h6,_⟩ := hold g h5
     exact .inr (h.mem.old j g h6)
   ·rw [Sig.get_append] at hn
    cases hb : (fin.sel (look ks) ks).get n with
    | some b0 =>
     rw [hb] at hn
     simp only [Option.some_or,Option.some.injEq] at hn
     subst hn
     have := hMs.dom n b0 d hb hd
     obtain ⟨b1,hb1⟩ := Option.isSome_iff_exists.1 this
     show ((fin.sel (look ks) ks ++ fS js sg).get d).isSome = true
     rw [Sig.get_append,hb1]; rfl
    | none =>
     rw [hb,Option.none_or,hZ] at hn
     split at hn
     ·cases hn
     ·rw [Option.map_eq_some_iff] at hn
      obtain ⟨b0,h4,rfl⟩ := hn
      obtain ⟨h5,h6⟩ := eE hd
      exact (hU d (h.mem.dom n b0 d h4 h5) h6).2
   ·rw [List.getElem?_map,Option.map_eq_some_iff] at hi
    obtain ⟨x,hx,rfl⟩ := hi
    obtain ⟨u,h1,h2⟩ := h.sl i x hx
    refine ⟨u,h1,bQ hst (fun d hd => ?_) (lJ h2)⟩
    obtain ⟨h5,h6⟩ := ey hd
    exact ⟨h.dom i x d hx h5,h6⟩
   ·rw [List.getElem?_map,Option.map_eq_some_iff] at hi
    obtain ⟨x,hx,rfl⟩ := hi
    obtain ⟨h5,h6⟩ := ey hd
    exact (hU d (h.dom i x d hx h5) h6).2
   ·refine h.fr.trans ⟨hos,htape,hout,hsz,fun g hg hn => hsame g (fun j i _ hjo => ?_) (Nat.lt_of_lt_of_le hg h.base)⟩
    rcases h.mem.old j g hjo with h1 | h1
    ·omega
    ·exact hn h1
  have hfin := hS.put dst (v := res.ren (look ks)) (u := u) (qI (fun i n hin => F1 i n (bV hin)) rfl hr) (fun d hd => by
   obtain ⟨i,h1,h2⟩ := wK hd
   have h3 := bV h1
   obtain ⟨b,hb⟩ := Option.isSome_iff_exists.1 (iP (f := look ks) h3 (ksmem i d h3).1)
   show ((fin.sel (look ks) ks ++ fS js sg).get d).isSome = true
   rw [Sig.get_append,hb]; rfl)
  exact ⟨_,_,hk,hfin⟩
 ·cases hk
end
end Go.Proofs.YtcddhifkfakcjaaGreat.Lib
namespace Go.Proofs.YtcddhifkfakcjaaGreat.Lib
open Go Go.RowKit
set_option linter.unusedVariables false
set_option linter.unusedSimpArgs false
section
variable {P : Program} {E : Env} {B : Nat} {O O' : Ow} {w0 w w' : World} {ρ ρ' : al} {a : Act} {R : Type} {r : R} {sg sg' : Sig} {st : St} {call : aJ}
theorem Hl (h : Sim P B O w0 ρ st a w) {g : FuncId} {m : Gen} {avs : List AV} {us : List Value} (hm : bD P g m) (hav : aF (rav ρ w) avs us) (huse : ∀ v ∈ avs,∀ d,v.ae d = true -> (st.sg.get d).isSome = true)
  {sg1 : Sig} {js : List (Nat × Nat)} {v : StT m.ss m.gs} (hin : Ec st.sg m avs = some (sg1,js,v)) {res : AV} {fin : Sig} (hF : (m.F v).run some = some (res,fin)) {dst : Option Nat} {k : St -> Option R} (hk : iN st.sl sg1 js dst res fin k = some r) :
  Calls P g us.toArray w fun e w' => ∃ u ρ2 st2,e = .returned u /\ k st2 = some r /\ Sim P B O w0 ρ2 st2 (a.put dst u) w' := by
 unfold Ec at hin
 split at hin
 ·rename_i sg1' args1 hgive
  simp only [aq] at hin
  split at hin
  ·rename_i hok
   split at hin
   ·rename_i v' hcap
    simp only [Option.some.injEq,Prod.mk.injEq] at hin
    obtain ⟨rfl,rfl,rfl⟩ := hin
    obtain ⟨ρ1,b1,b2,b3,b4,b5⟩ := jG avs m.hand st.sg ρ us _ _ h.mem hav hgive
    have h1 : Sim P B O w0 ρ1 ⟨st.sl,sg1'⟩ a w := h.more b1 b2 b3
    generalize Fl sg1' args1 = js at hok hcap hk ⊢
    simp only [Mj,Bool.and_eq_true,List.all_eq_true] at hok
    obtain ⟨hj,hjs0⟩ := hok
    have hjs : ∀ j i,(j,i) ∈ js -> (sg1'.get j).isSome = true := fun j i hji => hjs0 (j,i) hji
    obtain ⟨hwf,hfn,hcalls⟩ := hm
    have hl : ∀ j i,look js j = some i -> (⟨dz ρ1 js,ρ1.ok⟩ : al).loc i = ρ1.loc j := fun j i hi => cy hj (bV hi)
    have hS : Sim P B ⟨O.o,O.ok0,dz ρ1 js⟩ w ⟨dz ρ1 js,ρ1.ok⟩ ⟨args1.map (·.ren (look js)),sg1'.sel (look js) js⟩ { tmps := us.toArray,defers := [] } w := by
     have hM := h1.mem.sel hj hjs (ρ' := ⟨dz ρ1 js,ρ1.ok⟩) (fun j i hji => cy hj hji) rfl
     have hal : aF (rav ⟨dz ρ1 js,ρ1.ok⟩ w) (args1.map (·.ren (look js))) us := b4.b9 _ fun x u _ hx => qI hl rfl hx
     refine ⟨hM.ow rfl rfl,by simp [← hal.length],fun i x hi => ?_,fun i x d hi hd => ?_,rfl,da.refl _ _ _,h.base,fun _ _ => rfl,h.L4⟩
     ·obtain ⟨u,h3,h4⟩ := hal.get i hi
      exact ⟨u,by simpa using h3,h4⟩
     ·rw [List.getElem?_map,Option.map_eq_some_iff] at hi
      obtain ⟨y,hy,rfl⟩ := hi
      obtain ⟨j,h3,h4⟩ := wK hd
      exact iP (bV h3) (hjs j d (bV h3))
    obtain ⟨ρP,hP,c1,c2,c3⟩ := hS.dn.fresh m.ss m.gs
    have hcl := hcalls _ res fin hF _ _ _ _ _ (hP.cap hwf hcap)
    refine hcl.mono fun e w' hh => ?_
    obtain ⟨u,ρr,rfl,hr,hM,hpin,hu,hos,htape,hout,hsz,hfr⟩ := hh
    have hH : ∀ g,(∃ j,aP ρP (ar m.ss m.gs v').sg j g) -> ∃ j i,(j,i) ∈ js /\ aP ρ1 sg1' j g := by
     rintro g ⟨i,hi⟩
     obtain ⟨j,h3,h4⟩ := jU hj (fun j i hji => cy hj hji) (FX (c3 i g (tS w hP.mem.okm hcap hi)))
     exact ⟨j,i,h3,h4⟩
    rw [show ρP.ok = ρ1.ok from c1] at hM
    obtain ⟨ρ2,st2,d1,d2⟩ := IC h1 hj hjs hM hH (fun i j hji hi hs => by
      rw [hpin i hi hs,c2 i hi]; exact cy hj hji) hos htape hout hsz (fun g hg hn => hfr g hg fun i hi => by
      obtain ⟨j,i',h3,h4⟩ := hH g ⟨i,hi⟩
      exact hn j i' h3 h4) hr hu hk
    exact ⟨u,ρ2,st2,rfl,d1,d2⟩
   ·cases hin
  ·cases hin
 ·cases hin
theorem kG {args : List AV} {g : FuncId} {q : (m : Gen) × (Sig × List (Nat × Nat) × StT m.ss m.gs)} : ∀ {l : List (FuncId × Gen)},iJ sg args g l = some q -> (g,q.1) ∈ l /\ Ec sg q.1 args = some q.2
 | [],h => by cases h
 | (f,m) :: l,h => by
  simp only [iJ,aq,beq_iff_eq] at h
  split at h
  ·rename_i hf
   subst hf
   split at h
   ·rename_i q' hq
    cases h
    exact ⟨List.mem_cons_self,hq⟩
   ·obtain ⟨h1,h2⟩ := kG h
    exact ⟨List.mem_cons_of_mem _ h1,h2⟩
  ·obtain ⟨h1,h2⟩ := kG h
   exact ⟨List.mem_cons_of_mem _ h1,h2⟩
theorem DP (hE : Env.Ok P E) (h : Sim P B O w0 ρ st a w) {o : Oper} {c : Call} {f : Operand} (ho : o.op = .call c) (hc : c.callee = .value f) {k : St -> Option R} {other : Option R} (hk : kc E st o.dst (au st.sl f) (c.args.toList.map (au st.sl)) k other = some r)
  {next : Act -> World -> Prop} {Q : Exit -> Act -> World -> Prop} (hother : other = some r -> o.wp P a w next Q) (hnext : ∀ ρ' st' a' w',k st' = some r -> Sim P B O w0 ρ' st' a' w' -> next a' w') : o.wp P a w next Q := by
 have hav : aF (rav ρ w) (c.args.toList.map (au st.sl)) (c.args.toList.map a.eval) := by
  induction c.args.toList with
  | nil => exact .nil
  | cons x xs ih => exact .cons (h.eval x).1 ih
 have huse : ∀ v ∈ c.args.toList.map (au st.sl),∀ d,v.ae d = true -> (st.sg.get d).isSome = true := fun v hv d hd => by
  obtain ⟨x,_,rfl⟩ := List.mem_map.1 hv
  exact (h.eval x).2 d hd
 have go : ∀ (g : FuncId) (avs : List AV) (cvs : List Value) (q : (m : Gen) × (Sig × List (Nat × Nat) × StT m.ss m.gs)),a.eval f = .func (.func g) #[] cvs.toArray -> aF (rav ρ w) avs (c.args.toList.map a.eval ++ cvs) -> (∀ v ∈ avs,∀ d,v.ae d = true -> (st.sg.get d).isSome = true) -> iJ st.sg avs g E.gen = some q ->
   (q.1.F q.2.2.2).run (fun x => iN st.sl q.2.1 q.2.2.1 o.dst x.1 x.2 k) = some r -> o.wp P a w next Q := by
  intro g avs cvs q hfe hall huse hq hrunk
  obtain ⟨hmem,hin⟩ := kG hq
  have hm := hE.gen _ hmem
  rw [aL.run_bind,Option.bind_eq_some_iff] at hrunk
  obtain ⟨⟨res,fin⟩,hF,hk⟩ := hrunk
  obtain ⟨m,sg1,js,v⟩ := q
  have hcl := Hl h hm hall huse hin hF hk
  obtain ⟨fn,hfn,hbody,hname⟩ := hm.2.1
  have hrun : (execOp a.eval o).run P w = .ok (.enter g (c.args.toList.map a.eval ++ cvs).toArray) w := by
   have hargs : (c.args.toList.map a.eval ++ cvs).toArray = c.args.map a.eval ++ cvs.toArray := by
    apply Array.ext'
    simp
   rw [hargs]
   unfold execOp
   have hbn : ¬ (fn.body = none) := by intro hb; rw [hb] at hbody; cases hbody
   have hnn : ¬ (fn.name = "runtime.NumGoroutine") := by intro hn; rw [hn] at hname; simp at hname
   simp only [] at hfn
   simp [ho,hc,resolve,hfe,Deferred.ofValue,Sem.run_bind,invoke,callFunc,hfn]
   rw [if_neg hnn,if_neg hbn]
  unfold Oper.wp
  rw [hrun,Oper.upon_enter]
  refine hcl.mono fun e w' hh => ?_
  obtain ⟨u,ρ2,st2,rfl,h1,h2⟩ := hh
  exact hnext ρ2 st2 _ w' h1 h2
 unfold kc at hk
 split at hk
 ·rename_i g hf
  split at hk
  ·rename_i q hq
   have hfv := (h.eval f).1
   rw [hf] at hfv
   obtain ⟨cvs,hfe,hcaps⟩ := hfv
   cases hcaps
   exact go g _ [] q hfe (by rw [List.append_nil]; exact hav) huse hq hk
  ·exact hother hk
 ·rename_i g js hf
  split at hk
  ·rename_i q hq
   have hfv := (h.eval f).1
   rw [hf] at hfv
   obtain ⟨cvs,hfe,hcaps⟩ := hfv
   refine go g _ cvs q hfe (hav.append (hcaps.b9 (fun j => AV.one (.ptr j 0 0)) fun j u _ ⟨g,h1,h2⟩ => (show rc ρ w (.ptr j 0 0) u from Or.inl ⟨rfl,g,h1,h2⟩))) (fun v hv d hd => ?_) hq hk
   rcases List.mem_append.1 hv with hv | hv
   ·exact huse v hv d hd
   ·obtain ⟨j,hj,rfl⟩ := List.mem_map.1 hv
    refine (h.eval f).2 d ?_
    rw [hf]
    have := eq_of_beq hd
    subst this
    exact List.contains_iff_mem.2 hj
  ·exact hother hk
 ·exact hother hk
end
end Go.Proofs.YtcddhifkfakcjaaGreat.Lib
namespace Go.Proofs.YtcddhifkfakcjaaGreat.Lib
open Go Go.RowKit
set_option linter.unusedVariables false
set_option linter.unusedSimpArgs false
section
variable {P : Program} {E : Env} {B : Nat} {O : Ow} {w0 w w' : World} {ρ ρ' : al} {a : Act} {R : Type} {r : R} {sg sg' : Sig} {st : St} {call : aJ}
theorem wx (out : Sig) (d i : Nat) : (out.shift d).get i = if d <= i then (out.get (i - d)).map (·.shift d) else none := by
 split
 ·rename_i h
  have := Sig.GS out d (i - d)
  rwa [Nat.sub_add_cancel h] at this
 ·exact Sig.q8 out d i (by omega)
theorem Sim.below (h : Sim P B O w0 ρ st a w) (hb : Below w.heap.size w w') : Sim P B O w0 ρ st a w' := by
 have hst : Step (fun _ => True) ρ ρ w w' := ⟨fun _ _ => rfl,fun _ _ h => h,fun b g hg => hb.block g (h.mem.okb b g hg)⟩
 refine ⟨⟨fun j b hj => ?_,h.mem.inj,h.mem.old,fun b g hg => Nat.lt_of_lt_of_le (h.mem.okb b g hg) hb.size,h.mem.oko,h.mem.okm,h.mem.okx,h.mem.oky,h.mem.dom⟩,h.len,fun i v hi => ?_,h.dom,h.defers,
  h.fr.trans ⟨hb.os,hb.tape,hb.output,hb.size,fun g h1 _ => hb.block g (Nat.lt_of_lt_of_le h1 h.base)⟩,Nat.le_trans h.base hb.size,h.pin,h.glo⟩
 ·refine cd hst trivial (fun _ _ => trivial) (fun g hg hf => ?_) (h.mem.blk j b hj)
  have ho : aP ρ st.sg j g := cD hj (h.mem.blk j b hj) hf hg
  exact hb.block g (h.mem.lt ho)
 ·obtain ⟨u,hu,hr⟩ := h.sl i v hi
  exact ⟨u,hu,bQ hst (fun _ _ => trivial) hr⟩
theorem Sim.import (h : Sim P B O w0 ρ st a w) (hb : Below w.heap.size w w') {ρr : al} {out : Sig} {res : AV} {v : Value} {d : Nat} (hM : Mem w.heap.size ⟨fun _ => False,ρ.ok,ρ.loc⟩ ρr out w') (hr : rav ρr w' res v) (hu : ∀ x,res.ae x = true -> (out.get x).isSome = true)
  (hfr : ∀ q ∈ out,st.sg.free (q.1 + d) = true) :
  ∃ ρ',Sim P B O w0 ρ' ⟨st.sl.set d (res.shift d),out.shift d ++ st.sg⟩ (a.put (some d) v) w' := by
 have hok := hM.oky
 have hold : ∀ b g,ρr.ok b g -> ρ.ok b g ∨ w.heap.size <= g := fun b g hg => by
  rcases hM.okx b g hg with h1 | h1 | h1
  ·exact .inl h1
  ·exact .inr h1
  ·exact h1.elim
 let ρ2 : al := ⟨fun i => if d <= i /\ (out.get (i - d)).isSome = true then ρr.loc (i - d) else ρ.loc i,ρr.ok⟩
 have hin : ∀ j,(out.get j).isSome = true -> ρ2.loc (j + d) = ρr.loc j := by
  intro j hj
  show (if _ then _ else _) = _
  rw [if_pos ⟨by omega,by rw [Nat.add_sub_cancel]; exact hj⟩,Nat.add_sub_cancel]
 have hdis : ∀ i,(st.sg.get i).isSome = true -> ¬ (d <= i /\ (out.get (i - d)).isSome = true) := by
  rintro i hi ⟨h1,h2⟩
  obtain ⟨b,hb⟩ := Option.isSome_iff_exists.1 h2
  have := hfr _ (Sig.get_mem hb)
  rw [Nat.sub_add_cancel h1] at this
  have hpp := (Sig.a8.1 this).2
  have this := (Sig.a8.1 this).1
  rw [this] at hi
  cases hi
 have hout : ∀ i,(st.sg.get i).isSome = true -> ρ2.loc i = ρ.loc i := fun i hi => by
  show (if _ then _ else _) = _
  rw [if_neg (hdis i hi)]
 have hget : ∀ i,(out.shift d ++ st.sg).get i = if d <= i /\ (out.get (i - d)).isSome = true then (out.get (i - d)).map (·.shift d) else st.sg.get i := by
  intro i
  rw [Sig.get_append,wx]
  by_cases h1 : d <= i
  ·rw [if_pos h1]
   cases h2 : out.get (i - d) with
   | none => simp
   | some b => simp [h1]
  ·rw [if_neg h1,if_neg (fun h => h1 h.1)]; rfl
 have hb' := h.below hb
 have hst : Step (fun i => (st.sg.get i).isSome = true) ρ ρ2 w' w' := ⟨hout,hok,fun _ _ _ => rfl⟩
 have hown : ∀ i g,aP ρ2 (out.shift d ++ st.sg) i g -> (∃ j,i = j + d /\ aP ρr out j g) ∨ aP ρ st.sg i g := by
  intro i g ho
  obtain ⟨b,h1,h2,h3⟩ := aE.1 ho
  rw [hget] at h1
  split at h1
  ·rename_i hc
   rw [Option.map_eq_some_iff] at h1
   obtain ⟨b0,h4,rfl⟩ := h1
   have hl := hin (i - d) hc.2
   rw [Nat.sub_add_cancel hc.1] at hl
   refine .inl ⟨i - d,by omega,ho.tr (fun b' hb' => ?_) hl⟩
   rw [hget,if_pos hc,h4,Option.map_some] at hb'
   cases hb'
   exact ⟨b0,h4,(BS b0).symm⟩
  ·rw [hout i (by rw [h1]; rfl)] at h3
   exact .inr (aE.2 ⟨b,h1,h2,h3⟩)
 have hsome : ∀ i,(st.sg.get i).isSome = true -> ((out.shift d ++ st.sg).get i).isSome = true := fun i hi => by rw [hget,if_neg (hdis i hi)]; exact hi
 have hsome' : ∀ j,(out.get j).isSome = true -> ((out.shift d ++ st.sg).get (j + d)).isSome = true := fun j hj => by
  rw [hget,if_pos ⟨by omega,by rw [Nat.add_sub_cancel]; exact hj⟩,Nat.add_sub_cancel,Option.isSome_map]; exact hj
 have hpn : ∀ i,PIN <= i -> ρ2.loc i = ρ.loc i := fun i hi => by
  show (if _ then _ else _) = _
  rw [if_neg]
  rintro ⟨h1,h2⟩
  obtain ⟨b,hb⟩ := Option.isSome_iff_exists.1 h2
  have := (Sig.a8.1 (hfr _ (Sig.get_mem hb))).2
  simp only at this
  omega
 have hS : Sim P B O w0 ρ2 ⟨st.sl,out.shift d ++ st.sg⟩ a w' := by
  refine ⟨⟨fun i b hi => ?_,fun i j g hi hj => ?_,fun i g hi => ?_,hM.okb,fun q g hq i hi => ?_,hM.okm,fun q g hq => ?_,fun q g hq => hok q g (h.mem.oky q g hq),fun i b x hi hx => ?_⟩,h.len,fun i v hi => ?_,fun i v x hi hx => ?_,h.defers,hb'.fr,hb'.base,fun i hi => (hpn i hi).trans (h.pin i hi),h.glo⟩
  ·rw [hget] at hi
   split at hi
   ·rename_i hc
    rw [Option.map_eq_some_iff] at hi
    obtain ⟨b0,h4,rfl⟩ := hi
    have := B6 (ρ' := ρ2) (d := d) (hin (i - d) hc.2) (fun x hx => hin x (hM.dom (i - d) b0 x h4 hx)) rfl (hM.blk (i - d) b0 h4)
    rwa [Nat.sub_add_cancel hc.1] at this
   ·exact cd hst (by show _ = _; rw [hi]; rfl) (fun x hx => h.mem.dom i b x hi hx) (fun _ _ _ => rfl) (hb'.mem.blk i b hi)
  ·rcases hown i g hi with ⟨i',rfl,h1⟩ | h1 <;> rcases hown j g hj with ⟨j',rfl,h2⟩ | h2
   ·rw [hM.inj i' j' g h1 h2]
   ·rcases hM.old i' g h1 with h3 | h3
    ·exact absurd (h.mem.lt h2) (by omega)
    ·exact h3.elim
   ·rcases hM.old j' g h2 with h3 | h3
    ·exact absurd (h.mem.lt h1) (by omega)
    ·exact h3.elim
   ·exact h.mem.inj i j g h1 h2
  ·rcases hown i g hi with ⟨i',rfl,h1⟩ | h1
   ·rcases hM.old i' g h1 with h3 | h3
    ·exact .inl (Nat.le_trans h.base h3)
    ·exact h3.elim
   ·exact h.mem.old i g h1
  ·rcases hown i g hi with ⟨i',rfl,h1⟩ | h1
   ·exact hM.oko q g hq i' h1
   ·rcases hold q g hq with h3 | h3
    ·exact h.mem.oko q g h3 i h1
    ·exact absurd (h.mem.lt h1) (by omega)
  ·rcases hold q g hq with h3 | h3
   ·exact h.mem.okx q g h3
   ·exact .inr (.inl (Nat.le_trans h.base h3))
  ·rw [hget] at hi
   split at hi
   ·rename_i hc
    rw [Option.map_eq_some_iff] at hi
    obtain ⟨b0,h4,rfl⟩ := hi
    have hx' : ∃ j,x = j + d /\ b0.ae j = true := by
     cases b0 with
     | box t cs => exact oK hx
     | _ => cases hx
    obtain ⟨j,rfl,hj⟩ := hx'
    exact hsome' j (hM.dom (i - d) b0 j h4 hj)
   ·exact hsome x (h.mem.dom i b x hi hx)
  ·obtain ⟨u,h1,h2⟩ := hb'.sl i v hi
   exact ⟨u,h1,bQ hst (fun x hx => h.dom i v x hi hx) h2⟩
  ·exact hsome x (h.dom i v x hi hx)
 exact ⟨ρ2,hS.put (some d) (FT (fun x hx => hin x (hu x hx)) rfl hr) (fun x hx => by
  obtain ⟨j,rfl,hj⟩ := KC hx
  exact hsome' j (hu j hj))⟩
theorem lu (hE : Env.Ok P E) (hC : cJ P call) (h : Sim P B O w0 ρ st a w) {o : Oper} {c : Call} {f : Operand} (ho : o.op = .call c) (hc : c.callee = .value f) {k : St -> Option R} (hk : fe E call st o.dst (au st.sl f) (c.args.toList.map (au st.sl)) k = some r)
  {next : Act -> World -> Prop} {Q : Exit -> Act -> World -> Prop} (hnext : ∀ ρ' st' a' w',k st' = some r -> Sim P B O w0 ρ' st' a' w' -> next a' w') : o.wp P a w next Q := by
 unfold fe at hk
 split at hk
 ·rename_i g caps hf
  split at hk
  ·rename_i args0 own hargs
   have hav : aF (rav ρ w) (c.args.toList.map (au st.sl)) (c.args.toList.map a.eval) := by
    induction c.args.toList with
    | nil => exact .nil
    | cons x xs ih => exact .cons (h.eval x).1 ih
   obtain ⟨hl0,hl0'⟩ := lk hE h.mem (own := own) hav hargs (fun h => h)
   obtain ⟨args,hk,hl1,hl2⟩ := na h.mem hl0 hl0' hk
   rw [sL] at hk
   obtain ⟨⟨res,out⟩,lv,hk⟩ := Option.bind_eq_some_iff.1 hk
   simp only [aq] at hk
   split at hk
   ·rename_i hnb
    have hfv := (h.eval f).1
    rw [hf] at hfv
    obtain ⟨cvs,hfe,hcaps⟩ := hfv
    have hcap2 : aF (rav (ρ.gk st.sg own) w) (caps.map fun c => AV.one (.eptr c.1 c.2 0 true)) cvs := hcaps.b9 _ fun p u _ ⟨ad,h1,h2⟩ => ⟨ad,h1.step (fun g hg => .inl hg) (fun _ _ => rfl),by rw [h2]; simp [Addr.add]⟩
    have hall := hl1.append hcap2
    obtain ⟨⟨fn,hfn,hbody,hname⟩,hcalls⟩ := IQ hE hC lv (ρ.gk st.sg own) w _ (fun b k hk => by
      rcases hk with hk | ⟨_,_,j,hj⟩
      ·exact h.mem.okb b k hk
      ·exact h.mem.lt hj) (fun k hk => by
      rcases hk with hk | ⟨hk,_⟩
      ·exact .inl (h.mem.okm k hk)
      ·cases hk) (fun G hG => ⟨.inl (h.gh G hG).1,(h.gh G hG).2⟩) hall (fun v hv d => by
      rcases List.mem_append.1 hv with hv | hv
      ·exact hl2 v hv d
      ·obtain ⟨p,_,rfl⟩ := List.mem_map.1 hv; rfl)
    have hrun : (execOp a.eval o).run P w = .ok (.enter g (c.args.toList.map a.eval ++ cvs).toArray) w := by
     have hargs : (c.args.toList.map a.eval ++ cvs).toArray = c.args.map a.eval ++ cvs.toArray := by
      apply Array.ext'
      simp
     rw [hargs]
     unfold execOp
     have hbn : ¬ (fn.body = none) := by intro hb; rw [hb] at hbody; cases hbody
     have hnn : ¬ (fn.name = "runtime.NumGoroutine") := by intro hn; rw [hn] at hname; simp at hname
     simp [ho,hc,resolve,hfe,Deferred.ofValue,Sem.run_bind,invoke,callFunc,hfn]
     rw [if_neg hnn,if_neg hbn]
    unfold Oper.wp
    rw [hrun,Oper.upon_enter]
    refine hcalls.mono fun e w' hh => ?_
    obtain ⟨v,ρr,rfl,hr,hM,hu,hb⟩ := hh
    have hok := hM.oky
    have hold : ∀ b g,ρr.ok b g -> (ρ.gk st.sg own).ok b g ∨ w.heap.size <= g := fun b g hg => by
     rcases hM.okx b g hg with h1 | h1 | h1
     ·exact .inl h1
     ·exact .inr h1
     ·exact h1.elim
    have fin : ∃ ρf : al,rav ρf w' res v /\ Mem w.heap.size ⟨fun _ => False,ρ.ok,ρ.loc⟩ ρf out w' := by
     cases own with
     | false =>
      refine ⟨ρr,hr,⟨hM.blk,hM.inj,hM.old,hM.okb,hM.oko,hM.okm,fun b g hg => ?_,fun b g hg => hok b g (.inl hg),hM.dom⟩⟩
      rcases hold b g hg with (h1 | ⟨_,h1,_⟩) | h1
      ·exact .inl h1
      ·cases h1
      ·exact .inr (.inl h1)
     | true =>
      simp only [Bool.not_true,Bool.false_or,Bool.and_eq_true] at hnb
      let ρk : al := ⟨ρr.loc,fun q g => ρr.ok false g ∨ ρ.ok q g⟩
      have hsk : Step (fun _ => True) ρr.strict ρk w' w' := ⟨fun _ _ => rfl,fun _ _ h => Or.inl h,fun _ _ _ => rfl⟩
      refine ⟨ρk,bQ hsk (fun _ _ => trivial) (Gz hnb.1 hr),⟨fun j b hj => ?_,fun i j g hi hj => hM.inj i j g hi hj,fun j g hj => hM.old j g hj,fun b g hg => ?_,fun b g hg j hj => ?_,fun g hg => ?_,fun b g hg => ?_,fun b g hg => .inr hg,hM.dom⟩⟩
      ·have hb0 := FM (List.all_eq_true.1 hnb.2 _ (Sig.get_mem hj)) (hM.blk j b hj)
       exact cd hsk trivial (fun _ _ => trivial) (fun _ _ _ => rfl) hb0
      ·rcases hg with hg | hg
       ·exact hM.okb false g hg
       ·exact Nat.lt_of_lt_of_le (h.mem.okb b g hg) hb.size
      ·rcases hg with hg | hg
       ·exact hM.oko false g hg j hj
       ·rcases hM.old j g hj with h1 | h1
        ·exact absurd (h.mem.okb b g hg) (by omega)
        ·exact h1.elim
      ·rcases hg with hg | hg
       ·exact .inl hg
       ·exact .inr (h.mem.okm g hg)
      ·rcases hg with hg | hg
       ·rcases hold false g hg with (h1 | ⟨h1,_⟩) | h1
        ·cases b with
         | false => exact .inl h1
         | true => exact .inl (h.mem.okm g h1)
        ·cases h1
        ·exact .inr (.inl h1)
       ·exact .inl hg
    obtain ⟨ρf,f1,f2⟩ := fin
    cases hd : o.dst with
    | none =>
     simp only [hd] at hk
     exact hnext ρ st a w' hk (h.below hb)
    | some d =>
     simp only [hd] at hk
     split at hk
     ·rename_i hfr
      obtain ⟨ρ2,hS⟩ := h.import hb f2 f1 hu (d := d) (fun q hq => List.all_eq_true.1 hfr q hq)
      exact hnext ρ2 _ _ w' hk hS
     ·cases hk
   ·cases hk
  ·cases hk
 ·cases hk
theorem fZ (hE : Env.Ok P E) (hC : cJ P call) (h : Sim P B O w0 ρ st a w) (o : Oper) {k : St -> Option R} (hk : exec E call o st k = some r)
  {next : Act -> World -> Prop} {Q : Exit -> Act -> World -> Prop} (hnext : ∀ ρ' st' a' w',k st' = some r -> Sim P B O w0 ρ' st' a' w' -> next a' w') : o.wp P a w next Q := by
 have quiet : qop E st.sg (au st.sl) o.dst o.op (fun v add => k (St.put o.dst v ⟨st.sl,add ++ st.sg⟩)) = some r -> o.wp P a w next Q := by
  intro hk
  obtain ⟨v,add,u,w',h1,h2,h3⟩ := vG hE h o hk
  obtain ⟨ρ2,hS⟩ := h.PH h3
  unfold Oper.wp
  rw [h2,Oper.upon_value]
  exact hnext ρ2 _ _ w' h1 hS
 unfold exec at hk
 split at hk
 ·rename_i t p v ho
  obtain ⟨ρ2,st2,w',h1,h2,h3⟩ := w9 hE h ho hk
  unfold Oper.wp
  rw [h2,Oper.upon_skip]
  exact hnext ρ2 _ _ w' h1 (h3.put o.dst trivial (fun d hd => by cases hd))
 ·rename_i c ho
  split at hk
  ·rename_i s x t t' hc ha hat
   simp only [aq] at hk
   split at hk
   ·rename_i ht
    have ht : t' = t := by simpa using ht
    subst ht
    obtain ⟨ρ2,st2,w',v,h1,h2,h3⟩ := uc hE h ho hc ha hat hk
    unfold Oper.wp
    rw [h2,Oper.upon_value]
    exact hnext ρ2 _ _ w' h1 h3
   ·cases hk
  ·rename_i x t hc ha hat
   obtain ⟨ρ2,st2,w',h1,h2,h3⟩ := xC hE h ho hc ha hat hk
   unfold Oper.wp
   rw [h2,Oper.upon_value]
   exact hnext ρ2 _ _ w' h1 (h3.put o.dst (v := .tup []) (u := .tuple #[]) ⟨[],rfl,.nil⟩ (fun d hd => by cases hd))
  ·rename_i f hc
   split at hk
   ·rename_i m hm
    unfold C3 at hm
    split at hm
    ·exact rH h ho hc (hE.mark _ _ hm) hk hnext
    ·cases hm
   ·split at hk
    ·exact lu hE hC h ho hc hk hnext
    ·exact DP hE h ho hc hk (fun hk => lu hE hC h ho hc hk hnext) hnext
  ·exact quiet hk
 ·rename_i t n ps ho
  rcases tX hE h ho hk with hk | ⟨ρ2,st2,w',v,h1,h2,h3⟩
  case inr =>
   unfold Oper.wp
   rw [h2,Oper.upon_value]
   exact hnext ρ2 _ _ w' h1 h3
  split at hk
  ·rename_i sg ps' hset
   split at hk
   ·rename_i d e sz by_ ty hd ht
    split at hk
    ·rename_i td sz' by' τ he
     simp only [aq] at hk
     split at hk
     ·rename_i hcond
      simp only [Bool.and_eq_true,Sig.a8,beq_iff_eq,Nat.ble_eq] at hcond
      split at hk
      ·rename_i l hl
       obtain ⟨ρ2,w',v,h1,h2⟩ := m8 hE h ho hd hset ht he hcond.1.1 hcond.1.2 hcond.2 hl
       unfold Oper.wp
       rw [h1,Oper.upon_value]
       exact hnext ρ2 _ _ w' hk h2
      ·split at hk
       ·rename_i l hl
        obtain ⟨ρ2,w',v,h1,h2⟩ := m8 hE h ho hd hset ht he hcond.1.1 hcond.1.2 hcond.2 hl
        unfold Oper.wp
        rw [h1,Oper.upon_value]
        exact hnext ρ2 _ _ w' hk h2
       ·cases hk
     ·cases hk
    ·cases hk
   ·cases hk
  ·cases hk
 ·exact quiet hk
end
end Go.Proofs.YtcddhifkfakcjaaGreat.Lib
