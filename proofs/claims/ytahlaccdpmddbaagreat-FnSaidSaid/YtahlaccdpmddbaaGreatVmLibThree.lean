/- An interpreter KZ plain values for translated functions, and that it says what the model does (calls, statements, loops, arguments). No condition. -/
import Derived.Test.YtahlaccdpmddbaaGreatVmLibTwo
import Derived.WalkKit
import Derived.ProofKit
import Derived.OpenShut
import Derived.ShutString
import Derived.ChangeOld
import Derived.Below
import Derived.Shelf.Vars
import Derived.SizedLaws
import Derived.Lib.Join
import Derived.WalkSpells
import Derived.KernelRfl
namespace Go.Proofs.YtahlaccdpmddbaaGreat.Lib
open Go Go.RowKit
set_option linter.unusedVariables false
set_option linter.unusedSimpArgs false
section
variable {P : Program} {E : Env} {B : Nat} {O : Ow} {w0 w w' : World} {ρ ρ' : aL} {st : St} {a : Act} {R : Type} {r : R} {call : a7}
theorem Fi {sl : List AV} {sg1 : Sig} {js : List (Nat × Nat)} {dst : Option Nat} {res : AV} {fin : Sig} (k : St -> Option R) : kI sl sg1 js dst res fin k = (kI sl sg1 js dst res fin some).bind k := by
 unfold kI
 simp only [aR]
 repeat' (first | rfl | split)
theorem zd {α : Type} (o : aP α) (f : α -> Option St) (g : α -> Option R) (k : St -> Option R) (h : ∀ x, g x = (f x).bind k) : o.run g = (o.run f).bind k := by
 rw [aP.run_bind o g, aP.run_bind o f, Option.bind_assoc]
 congr 1
 funext x
 exact h x
theorem Ee {dst : Option Nat} {f : AV} {args : List AV} {k : St -> Option R} {oth : Option R} {oth' : Option St} (ho : oth = oth'.bind k) : mA E st dst f args k oth = (mA E st dst f args some oth').bind k := by
 unfold mA
 repeat' (first | exact ho | exact zd _ _ _ _ fun x => Fi k | split)
theorem qI {dst : Option Nat} {f : AV} {args : List AV} (k : St -> Option R) : gp E call st dst f args k = (gp E call st dst f args some).bind k := by
 unfold gp
 simp only [uO]
 split
 ·split
  ·rw [Option.bind_assoc]
   congr 1
   funext x
   simp only [aR]
   repeat' (first | rfl | split)
  ·rfl
 ·rfl
theorem C9 {dst : Option Nat} {m : Mrk} {args : List AV} (k : St -> Option R) : nv st dst m args k = (nv st dst m args some).bind k := by
 unfold nv
 simp only [aR]
 repeat' (first | rfl | (refine zd _ _ _ _ fun x => ?_; split <;> rfl) | split)
theorem tF {t : TypeId} {p v : AV} (k : St -> Option R) : px E st t p v k = (px E st t p v some).bind k := by
 unfold px
 simp only [aR]
 repeat' (first | rfl | split)
theorem CN {dst : Option Nat} {t : TypeId} {s x : AV} (k : St -> Option R) : kp E st dst t s x k = (kp E st dst t s x some).bind k := by
 unfold kp
 simp only [aR]
 repeat' (first | rfl | split)
theorem tB {t : TypeId} {x : AV} (k : St -> Option R) : sD E st t x k = (sD E st t x some).bind k := by
 unfold sD
 repeat' (first | rfl | split)
theorem EV {o : Oper} {k : St -> Option R} (h : exec E call o st k = some r) : ∃ s', exec E call o st some = some s' /\ k s' = some r := by
 have quiet : ∀ {op : Op}, (qop E st.sg (aJ st.sl) o.dst op fun v add => k (St.put o.dst v ⟨st.sl, add ++ st.sg⟩)) = some r -> ∃ s', (qop E st.sg (aJ st.sl) o.dst op fun v add => some (St.put o.dst v ⟨st.sl, add ++ st.sg⟩)) = some s' /\ k s' = some r := by
  intro op h
  obtain ⟨p, h1, h2⟩ := CL h
  exact ⟨_, h1.1 _ st.sg _ (fun _ _ => rfl) (fun _ _ j b _ hj => hj) h1.2, h2⟩
 have eqn : ∀ {x : Option R} {y : Option St}, x = y.bind k -> x = some r -> ∃ s', y = some s' /\ k s' = some r := by
  intro x y h1 h2
  rw [h1, Option.bind_eq_some_iff] at h2
  exact h2
 cases hop : o.op with
 | store t x v =>
  unfold exec at h ⊢
  rw [hop] at h ⊢
  simp only at h ⊢
  refine eqn ?_ h
  rw [tF, tF (fun st => some (st.put o.dst (.one .und))), Option.bind_assoc]
  rfl
 | call c =>
  unfold exec at h ⊢
  rw [hop] at h ⊢
  simp only at h ⊢
  split at h
  ·rename_i s x t t' hc ha ht
   simp only [aR] at h ⊢
   split at h
   ·rename_i hh; rw [if_pos hh]; exact eqn (CN k) h
   ·cases h
  ·rename_i x t hc ha ht
   refine eqn ?_ h
   rw [tB, tB (fun st => some (St.put o.dst (.tup []) st)), Option.bind_assoc]
   rfl
  ·refine eqn ?_ h
   split
   ·exact C9 k
   ·split
    ·exact qI k
    ·exact Ee (qI k)
  ·exact quiet h
 | buildSlice t n ps =>
  unfold exec at h ⊢
  rw [hop] at h ⊢
  refine eqn ?_ h
  simp only [aR]
  repeat' (first | rfl | split)
 | _ => (unfold exec at h ⊢; rw [hop] at h ⊢; exact quiet h)
def eI (o : Oper) : Bool := o.guard.isNone && (match o.op with | .move _ | .nilCheck _ | .fieldAddr _ _ _ | .indexAddr _ _ _ | .slice _ _ _ _ _ => true | .call c => (match c.callee with | .builtin .len => true | _ => false) | _ => false)
theorem Hz (hE : Env.Ok P E) (h : Sim P B O w0 ρ st a w) {o : Oper} (ho : eI o = true) {k : AV -> Sig -> Option R} (hk : qop E st.sg (aJ st.sl) o.dst o.op k = some r) : ∃ u, ∀ w2, (execOp a.eval o).run P w2 = .ok (.value u) w2 := by
 unfold eI at ho
 rw [Bool.and_eq_true] at ho
 have ho := ho.2
 split at ho
 ·rename_i x hop
  exact ⟨a.eval x, fun w2 => by unfold execOp; simp [hop]⟩
 ·rename_i x hop
  rw [hop] at hk
  simp only [qop] at hk
  have hx := (h.eval x).1
  refine ⟨a.eval x, fun w2 => ?_⟩
  split at hk <;> rename_i hp <;> try (cases hk; done)
  ·rw [hp] at hx
   unfold execOp
   rcases hx with ⟨_, g, _, h2⟩ | ⟨_, _, _, _, _, _, h2⟩ <;> simp [hop, h2]
  ·rw [hp] at hx
   unfold execOp
   obtain ⟨_, _, h2⟩ := hx
   simp [hop, h2]
  ·rw [hp] at hx
   unfold execOp
   obtain ⟨_, h2, _⟩ := hx
   simp [hop, h2]
  ·rw [hp] at hx
   unfold execOp
   obtain ⟨_, h2, _⟩ := hx
   simp [hop, h2]
 ·rename_i t x f hop
  obtain ⟨_, u, _, h1, _⟩ := Kd hE h hop hk
  exact ⟨u, h1⟩
 ·rename_i t x i hop
  obtain ⟨_, u, _, h1, _⟩ := JR hE h hop hk
  exact ⟨u, h1⟩
 ·rename_i t x lo hi mx hop
  obtain ⟨_, u, _, h1, _⟩ := I7 hE h hop hk
  exact ⟨u, h1⟩
 ·rename_i c hop
  split at ho
  ·rename_i hc
   rw [hop] at hk
   simp only [qop] at hk
   split at hk
   ·rename_i x t ts hc2 ha hat
    have ha := xL ha
    have hat0 : c.argTypes[0]? = some t := by rw [← Array.getElem?_toList, hat]; rfl
    split at hk
    ·rename_i s sz by_ hp ht
     have hx := (h.eval x).1
     rw [hp] at hx
     have hx : a.eval x = .string s := hx
     refine ⟨.int .i64 s.size, fun w2 => ?_⟩
     unfold execOp
     simp [hop, Sem.run_bind, resolve, hc2, ha, invoke, builtin, Builtin.len_, hat0, hx, run_underlying (um (hE.ti _ _ ht)), goInt]
    ·rename_i cl e sz by_ ty hp ht
     have hx := (h.eval x).1
     rw [hp] at hx
     obtain ⟨A, n, cp, hu, hk⟩ := yM h hk hx
     refine ⟨.int .i64 n, fun w2 => ?_⟩
     unfold execOp
     simp [hop, Sem.run_bind, resolve, hc2, ha, invoke, builtin, Builtin.len_, hat0, hu, run_underlying (dD (hE.ti _ _ ht)), goInt]
    ·cases hk
   ·rename_i h2 _
    rw [hc] at h2
    cases h2
   ·rename_i h2 _
    rw [hc] at h2
    cases h2
   ·cases hk
  ·cases ho
 ·cases ho
theorem KM {o : Oper} (ho : eI o = true) (k : St -> Option R) : exec E call o st k = qop E st.sg (aJ st.sl) o.dst o.op fun v add => k (St.put o.dst v ⟨st.sl, add ++ st.sg⟩) := by
 unfold eI at ho
 rw [Bool.and_eq_true] at ho
 have ho := ho.2
 unfold exec
 split at ho <;> rename_i hop <;> first | (rw [hop]; done) | (cases ho; done) | (split at ho <;> rename_i hc <;> first | (rw [hop]; simp only [hc]; done) | (cases ho; done))
theorem Hu (hE : Env.Ok P E) (h : Sim P B O w0 ρ st a w) {o : Oper} (ho : eI o = true) {s' : St} (hk : exec E call o st some = some s') :
  ∃ u ρ', (∀ w2, (execOp a.eval o).run P w2 = .ok (.value u) w2) /\ Sim P B O w0 ρ' s' (a.put o.dst u) w := by
 rw [KM ho] at hk
 obtain ⟨u, hu⟩ := Hz hE h ho hk
 obtain ⟨v, add, u', w', h1, h2, h3⟩ := Aa hE h o hk
 obtain ⟨ρ2, hS⟩ := h.Sm h3
 rw [hu w] at h2
 cases h2
 cases h1
 exact ⟨u, ρ2, hu, hS⟩
end
end Go.Proofs.YtahlaccdpmddbaaGreat.Lib
namespace Go.Proofs.YtahlaccdpmddbaaGreat.Lib
open Go Go.RowKit
set_option linter.unusedVariables false
set_option linter.unusedSimpArgs false
def KT : Oper := { dst := none, op := .move (.const (.bool true)), type := 0, pos := "", after := #[], guard := none }
def QP : Oper := { dst := none, op := .ready 0, type := 0, pos := "", after := #[], guard := none }
def cw (ops : Array Oper) (i : Nat) : Oper := (ops[i]?).getD QP
def wF (ops : Array Oper) (L : Array Bool) (i : Nat) : Bool := (cw ops i).after.toList.all fun e => !Region.binds .any e || L.getD e.on false
def fA (ops : Array Oper) (skip : Nat -> Bool) : List Nat -> Array Bool -> List (List Nat)
 | [], _ => [[]]
 | i :: r, L => (bif wF ops L i then (fA ops skip r (L.setIfInBounds i true)).map (i :: ·) else []) ++ (bif skip i then fA ops skip r L else [])
def lu (ops : Array Oper) (L : Array Bool) (A : List Nat) (i : Nat) : Bool :=
 (List.range ops.size).any fun h => !L.getD h true && (!A.contains h && !((cw ops h).after.toList.any fun e => Region.binds .any e && e.on == i))
def fD (E : Env) (o : Oper) : Bool := dM E o && !cF o
def grow (E : Env) (ops : Array Oper) : List Nat -> Array Bool -> List Nat
 | [], _ => []
 | i :: r, L => bif !L.getD i true && fD E (cw ops i) && wF ops L i then i :: grow E ops r (L.setIfInBounds i true) else grow E ops r L
def ed (E : Env) (ops : Array Oper) (L : Array Bool) : List Nat := (List.range ops.size).filter fun i => (grow E ops (List.range ops.size) L).contains i
def fh (L : Array Bool) : List Nat -> Array Bool
 | [] => L
 | i :: r => fh (L.setIfInBounds i true) r
def LJ (ops : Array Oper) (A : List Nat) : Bool :=
 A.all fun j => A.all fun k => match (cw ops k).dst with
  | some t => (j == k || (cw ops j).dst != some t) && (!((opn ops.toList (cw ops j)).any fun x => match x with | .tmp u => u == t | _ => false) || (decide (k < j) && Region.waitsFor .any ops j k) || (decide (j < k) && Region.waitsFor .any ops k j))
  | none => true
def o0 (E : Env) (ops : Array Oper) (L : Array Bool) (A : List Nat) : Bool :=
 A.all (fun i => fD E (cw ops i) && !L.getD i true && wF ops (fh L A) i) && LJ ops A
def branch (ops : Array Oper) (A : List Nat) (next : Array Bool -> List (List Nat)) (L : Array Bool) (D : List Nat) : List (List Nat) :=
 bif (Region.ready .any ops L).isEmpty then [D] else ((Region.ready .any ops L).filter fun h => !A.contains h).flatMap fun h => bif (cw ops h).guard.isNone then (next (L.setIfInBounds h true)).map fun π => D ++ h :: π else [D ++ [ops.size]]
def Q5 (ops : Array Oper) (L : Array Bool) : Option Nat := (List.range ops.size).find? fun i => eI (cw ops i) && (Region.ready .any ops L).contains i && Region.free .any ops L i
def fe (E : Env) (ops : Array Oper) : Nat -> Array Bool -> List (List Nat)
 | 0, _ => [[ops.size]]
 | f + 1, L => match Q5 ops L with
  | some i => (fe E ops f (L.setIfInBounds i true)).map (i :: ·)
  | none => bif o0 E ops L (ed E ops L) then (fA ops (lu ops L (ed E ops L)) (ed E ops L) L).flatMap fun D => branch ops (ed E ops L) (fe E ops f) (fh L D) D else [[ops.size]]
section
variable {P : Program} {E : Env} {B : Nat} {O : Ow} {w0 w w' : World} {ρ ρ' : aL} {st : St} {a : Act} {R : Type} {r : R} {call : a7} {ops : Array Oper}
def vg1 (E : Env) (call : a7) (G : List Oper) (o : Oper) (st : St) (k : St -> Option R) : Option R :=
 match o.guard with
 | none => exec E call o st k
 | some (j, want) => (match (G[j]?).bind (·.dst) with
   | some t => (match st.sl[t]? with
    | some (.one (.bool v)) => (match v with
     | true => bif want then exec E call o (st.put (some t) (.one (.bool true))) k else k ((st.put (some t) (.one (.bool true))).put o.dst (.tup []))
     | false => bif want then k ((st.put (some t) (.one (.bool false))).put o.dst (.tup [])) else exec E call o (st.put (some t) (.one (.bool false))) k)
    | some (.tup []) => k (st.put o.dst (.tup []))
    | _ => none)
   | none => none)
theorem dL {G : List Oper} {o : Oper} {l : List Oper} {st : St} {k : St -> Option R} : bB E call G (o :: l) st k = vg1 E call G o st fun s => bB E call G l s k := rfl
theorem oa {G : List Oper} : ∀ {l m : List Oper} {st : St} {k : St -> Option R}, bB E call G (l ++ m) st k = bB E call G l st fun s => bB E call G m s k
 | [], _, _, _ => rfl
 | o :: l, m, st, k => by
  rw [List.cons_append, dL, dL]
  congr 1
  funext s
  exact oa
def lD (ops : Array Oper) (D : List Nat) : List Oper := (List.range ops.size).map fun i => bif D.contains i then cw ops i else KT
theorem rj {G : List Oper} {D : List Nat} : ∀ {l : List Nat} {st : St} {k : St -> Option R}, bB E call G (l.map fun i => bif D.contains i then cw ops i else KT) st k = bB E call G ((l.filter D.contains).map (cw ops)) st k
 | [], _, _ => rfl
 | i :: l, st, k => by
  rw [List.map_cons, dL]
  cases hd : D.contains i with
  | true =>
   rw [List.filter_cons_of_pos hd, List.map_cons, dL]
   simp only [cond_true]
   congr 1
   funext s
   exact rj
  | false =>
   rw [List.filter_cons_of_neg (by rw [hd]; simp)]
   simp only [cond_false]
   exact rj (l := l)
theorem yS {i : Nat} {o : Oper} (h : ops[i]? = some o) : cw ops i = o := by unfold cw; rw [h]; rfl
theorem uk {i : Nat} (h : i < ops.size) : ops[i]? = some (cw ops i) := by unfold cw; rw [Array.getElem?_eq_getElem h]; rfl
theorem vl : cw ops ops.size = QP := by unfold cw; simp
theorem C8 {G : List Oper} {l : List Oper} {st : St} {k : St -> Option R} (h : bB E call G (QP :: l) st k = some r) : False := by
 rw [dL] at h
 unfold vg1 exec QP at h
 simp only [qop] at h
 cases h
theorem CY {D : List Nat} {i : Nat} (h : i < ops.size) : (lD ops D)[i]? = some (bif D.contains i then cw ops i else KT) := by
 unfold lD
 rw [List.getElem?_map, List.getElem?_range h]
 rfl
theorem Ns {D : List Nat} : (lD ops D).length = ops.size := by unfold lD; simp
theorem fR {L : Array Bool} {i j : Nat} : (L.setIfInBounds i true).getD j false = true ↔ L.getD j false = true ∨ (i = j /\ i < L.size) := by
 by_cases hij : i = j
 ·subst hij
  by_cases hl : i < L.size
  ·simp [hl]
  ·have : L.getD i false = false := by simp [Array.getElem?_eq_none (Nat.le_of_not_lt hl)]
   simp [hl]
 ·rw [getD_set_ne false hij]
  simp [hij]
theorem eL : ∀ {D : List Nat} {L : Array Bool}, (fh L D).size = L.size
 | [], _ => rfl
 | i :: r, L => by rw [fh, eL]; simp
theorem gV : ∀ {D : List Nat} {L : Array Bool} {j : Nat}, j < L.size -> ((fh L D).getD j false = true ↔ L.getD j false = true ∨ j ∈ D)
 | [], _, _, _ => by simp [fh]
 | i :: r, L, j, hj => by
  rw [fh, gV (by simpa using hj), fR]
  constructor
  ·rintro ((h | ⟨rfl, _⟩) | h)
   ·exact .inl h
   ·exact .inr (List.mem_cons_self ..)
   ·exact .inr (List.mem_cons_of_mem _ h)
  ·rintro (h | h)
   ·exact .inl (.inl h)
   ·rcases List.mem_cons.1 h with rfl | h
    ·exact .inl (.inr ⟨rfl, hj⟩)
    ·exact .inr h
theorem iC {p skip : Nat -> Bool} : ∀ {l : List Nat} {L : Array Bool}, l.Pairwise (· < ·) -> (∀ i ∈ l, i < L.size) ->
  (∀ i ∈ l, p i = true -> ∀ e ∈ (cw ops i).after, Region.binds .any e = true -> L.getD e.on false = true ∨ (e.on ∈ l /\ p e.on = true /\ e.on < i)) -> (∀ i ∈ l, p i = false -> skip i = true) -> l.filter p ∈ fA ops skip l L
 | [], _, _, _, _, _ => by simp [fA]
 | i :: l, L, hs, hz, h, hk => by
  have hlt : ∀ {j}, j ∈ l -> i < j := fun hj => List.rel_of_pairwise_cons hs hj
  simp only [fA, List.mem_append]
  cases hp : p i with
  | true =>
   left
   have hd : wF ops L i = true := by
    unfold wF
    rw [List.all_eq_true]
    intro e he
    cases hb : Region.binds .any e with
    | false => rfl
    | true =>
     rcases h i (List.mem_cons_self ..) hp e (by simpa using he) hb with h1 | ⟨h1, _, h2⟩
     ·simp only [Bool.not_true, Bool.false_or]; exact h1
     ·rcases List.mem_cons.1 h1 with h1 | h1
      ·omega
      ·have := hlt h1; omega
   rw [hd, cond_true, List.filter_cons_of_pos hp]
   refine List.mem_map.2 ⟨_, iC (List.Pairwise.of_cons hs) (fun j hj => by simpa using hz j (List.mem_cons_of_mem _ hj)) (fun j hj hpj e he hb => ?_) (fun j hj => hk j (List.mem_cons_of_mem _ hj)), rfl⟩
   rcases h j (List.mem_cons_of_mem _ hj) hpj e he hb with h1 | ⟨h1, h2, h3⟩
   ·exact .inl (fR.2 (.inl h1))
   ·rcases List.mem_cons.1 h1 with h1 | h1
    ·exact .inl (fR.2 (.inr ⟨h1.symm, hz i (List.mem_cons_self ..)⟩))
    ·exact .inr ⟨h1, h2, h3⟩
  | false =>
   right
   rw [List.filter_cons_of_neg (by rw [hp]; simp), hk i (List.mem_cons_self ..) hp, cond_true]
   refine iC (List.Pairwise.of_cons hs) (fun j hj => hz j (List.mem_cons_of_mem _ hj)) (fun j hj hpj e he hb => ?_) (fun j hj => hk j (List.mem_cons_of_mem _ hj))
   rcases h j (List.mem_cons_of_mem _ hj) hpj e he hb with h1 | ⟨h1, h2, h3⟩
   ·exact .inl h1
   ·rcases List.mem_cons.1 h1 with h1 | h1
    ·rw [h1, hp] at h2; cases h2
    ·exact .inr ⟨h1, h2, h3⟩
theorem tQ (L : Array Bool) : (ed E ops L).Pairwise (· < ·) := List.Pairwise.filter _ List.pairwise_lt_range
theorem nL {L : Array Bool} {i : Nat} (h : i ∈ ed E ops L) : i < ops.size := List.mem_range.1 ((List.mem_filter.1 h).1)
theorem xn (hed : jv ops.size ops = true) {i : Nat} (hi : i < ops.size) {e : Edge} (he : e ∈ (cw ops i).after) (hb : Region.binds .any e = true) : e.on < i := by
 unfold jv at hed
 have := List.all_eq_true.1 hed i (List.mem_range.2 hi)
 rw [uk hi] at this
 have := List.all_eq_true.1 this e (by simpa using he)
 simpa [hb] using this
theorem Q3 {L : Array Bool} {i : Nat} (h : L.getD i false = true) : i < L.size := by
 rcases Nat.lt_or_ge i L.size with h1 | h1
 ·exact h1
 ·simp [Array.getElem?_eq_none h1] at h
theorem su {A : List Nat} {L : Array Bool} (hed : jv ops.size ops = true) (hL : L.size = ops.size) (hA : ∀ i ∈ A, i < ops.size) (hp : o0 E ops L A = true) {i : Nat} (hi : i ∈ A) {e : Edge} (he : e ∈ (cw ops i).after) (hb : Region.binds .any e = true) :
  (L.getD e.on false = true ∨ e.on ∈ A) /\ e.on < i := by
 refine ⟨?_, xn hed (hA i hi) he hb⟩
 unfold o0 at hp
 rw [Bool.and_eq_true, List.all_eq_true] at hp
 have h1 := hp.1 i hi
 simp only [Bool.and_eq_true] at h1
 have h2 := List.all_eq_true.1 h1.2 e (by simpa using he)
 simp only [hb, Bool.not_true, Bool.false_or] at h2
 have h3 := Q3 h2
 rw [eL] at h3
 exact (gV h3).1 h2
theorem Gt {L : Array Bool} (hed : jv ops.size ops = true) (hL : L.size = ops.size) (hp : o0 E ops L (ed E ops L) = true) : ed E ops L ∈ fA ops (lu ops L (ed E ops L)) (ed E ops L) L := by
 have := iC (ops := ops) (p := fun _ => true) (skip := lu ops L (ed E ops L)) (tQ L) (fun i hi => by rw [hL]; exact nL hi) (L := L) (fun i hi _ e he hb => by
  obtain ⟨h1, h2⟩ := su hed hL (fun i hi => nL hi) hp hi he hb
  exact h1.imp id fun h => ⟨h, rfl, h2⟩) (fun _ _ h => by cases h)
 rwa [List.filter_eq_self.2 (fun _ _ => rfl)] at this
theorem gB {L : Array Bool} {i : Nat} (h : i ∈ Region.ready .any ops L) (hL : L.size = ops.size) : L.getD i false = false /\ i < ops.size := by
 have := (mem_ready.1 h).1
 refine ⟨getD_both this, ?_⟩
 obtain ⟨_, o, ho, _⟩ := mem_ready.1 h
 exact (Array.getElem?_eq_some_iff.1 ho).1
theorem H5 (hed : jv ops.size ops = true) {L : Array Bool} (hL : L.size = ops.size) (h : Region.ready .any ops L = []) : ∀ i, i < ops.size -> L.getD i false = true := by
 intro i
 induction i using Nat.strongRecOn with
 | ind i ih =>
  intro hi
  cases hu : L.getD i false with
  | true => rfl
  | false =>
   have : i ∈ Region.ready .any ops L := mem_ready.2 ⟨by rw [← hu]; simp [Array.getD, hL, hi], _, uk hi, fun e he hb => ih _ (xn hed hi he hb) (Nat.lt_trans (xn hed hi he hb) hi)⟩
   rw [h] at this
   cases this
theorem oL {L listed : Array Bool} {A : List Nat} {h : Nat} (hr : h ∈ Region.ready .any ops listed) (hA : h ∉ A) (hL : L.size = ops.size) (hLl : ∀ i, L.getD i false = true -> listed.getD i false = true) : ∀ i ∈ A, listed.getD i false = false -> lu ops L A i = true := by
 intro i hi hu
 obtain ⟨hu', o, ho, haft⟩ := mem_ready.1 hr
 have hh := (Array.getElem?_eq_some_iff.1 ho).1
 have hb0 := getD_both hu'
 have hLh : L.getD h true = false := by
  have h1 : L.getD h false = false := by
   cases h2 : L.getD h false with
   | false => rfl
   | true => rw [hLl h h2] at hb0; cases hb0
  rw [← h1]; simp [Array.getD, hL, hh]
 unfold lu
 rw [List.any_eq_true]
 refine ⟨h, List.mem_range.2 hh, ?_⟩
 rw [hLh, yS ho]
 have hc : A.contains h = false := by
  cases hc : A.contains h with
  | false => rfl
  | true => exact absurd (by simpa using hc) hA
 rw [hc]
 simp only [Bool.not_false, Bool.true_and, Bool.not_eq_true', List.any_eq_false]
 intro e he hb
 rw [Bool.and_eq_true, beq_iff_eq] at hb
 have := haft e (by simpa using he) hb.1
 rw [hb.2, hu] at this
 cases this
theorem z8 {A : List Nat} {next : Array Bool -> List (List Nat)} {L : Array Bool} (hn : ∀ L, L.size = ops.size -> next L ≠ []) (hL : L.size = ops.size) (hA : ∀ i ∈ A, L.getD i false = true) {D : List Nat} : ∃ m, D ++ m ∈ branch ops A next L D := by
 unfold branch
 simp only [aR]
 split
 ·exact ⟨[], by simp⟩
 ·rename_i hr
  cases hrs : Region.ready .any ops L with
  | nil => rw [hrs] at hr; simp at hr
  | cons h rs =>
   have hh : h ∈ Region.ready .any ops L := by rw [hrs]; exact List.mem_cons_self ..
   have hc : A.contains h = false := by
    cases hc : A.contains h with
    | false => rfl
    | true =>
     have h1 := hA h (by simpa using hc)
     rw [(gB hh hL).1] at h1
     cases h1
   cases hnx : next (L.setIfInBounds h true) with
   | nil => exact absurd hnx (hn _ (by simpa using hL))
   | cons π πs =>
    cases hgd : (cw ops h).guard.isNone with
    | true => exact ⟨h :: π, List.mem_flatMap.2 ⟨h, List.mem_filter.2 ⟨List.mem_cons_self .., by simpa using hc⟩, by rw [hgd]; exact List.mem_map.2 ⟨π, by rw [hnx]; exact List.mem_cons_self .., rfl⟩⟩⟩
    | false => exact ⟨[ops.size], List.mem_flatMap.2 ⟨h, List.mem_filter.2 ⟨List.mem_cons_self .., by simpa using hc⟩, by rw [hgd]; exact List.mem_singleton.2 rfl⟩⟩
theorem lR (hed : jv ops.size ops = true) : ∀ (f : Nat) (L : Array Bool), L.size = ops.size -> fe E ops f L ≠ []
 | 0, _, _ => by simp [fe]
 | f + 1, L, hL => by
  simp only [fe]
  split
  ·rename_i i hi
   have := lR hed f (L.setIfInBounds i true) (by simpa using hL)
   simpa using this
  ·simp only [aR]
   split
   ·rename_i hp
    obtain ⟨m, hm⟩ := z8 (D := ed E ops L) (A := ed E ops L) (L := fh L (ed E ops L)) (lR hed f) (by rw [eL]; exact hL) (fun i hi => (gV (by rw [hL]; exact nL hi)).2 (.inr hi))
    exact List.ne_nil_of_mem (List.mem_flatMap.2 ⟨_, Gt hed hL hp, hm⟩)
   ·simp
def VD (E : Env) (call : a7) (ops : Array Oper) (st : St) (D : List Nat) : Prop := ∀ j, j < ops.size -> ∃ o p, Val E call ops.toList (lD ops D) st j o p
theorem CE {D : List Nat} (hl : ∀ i ∈ D, fD E (cw ops i) = true) : ∀ o ∈ lD ops D, dM E o = true /\ cF o = false := by
 intro o ho
 unfold lD at ho
 obtain ⟨i, hi, rfl⟩ := List.mem_map.1 ho
 cases hc : D.contains i with
 | true =>
  have := hl i (by simpa using hc)
  unfold fD at this
  simp only [Bool.and_eq_true, Bool.not_eq_true'] at this
  exact this
 | false => exact ⟨rfl, rfl⟩
theorem O8 {D : List Nat} {m : List Nat} {k : St -> Option R} (hl : ∀ i ∈ D, fD E (cw ops i) = true) (hD : (List.range ops.size).filter D.contains = D) (h : bB E call ops.toList ((D ++ m).map (cw ops)) st k = some r) :
  VD E call ops st D /\ bB E call ops.toList (m.map (cw ops)) (txt E call ops.toList (lD ops D) st ops.size) k = some r := by
 rw [List.map_append, oa] at h
 have h1 : bB E call ops.toList (lD ops D) st (fun s => bB E call ops.toList (m.map (cw ops)) s k) = some r := by
  unfold lD
  rw [rj, hD]
  exact h
 have hall := CE hl
 obtain ⟨h2, h3⟩ := xT ops.size (by rw [Ns]; exact Nat.le_refl _) (by
  rw [List.all_eq_true]
  intro o ho
  exact (hall o (List.mem_of_mem_take ho)).1) (fun j o hj ho hs => by
  rw [(hall o (List.mem_of_getElem? ho)).2] at hs
  cases hs) h1
 rw [List.drop_eq_nil_of_le (by rw [Ns]; exact Nat.le_refl _)] at h2
 exact ⟨h3, h2⟩
theorem mq.none {l : List Oper} {st : St} {n : Nat} {W : Nat -> Nat -> Bool} (hl : ∀ o ∈ l, cF o = false) : mq E call ops.toList l st n W := by
 have no : ∀ {j o p}, Val E call ops.toList l st j o p -> cF o = true -> False := fun hv hs => by
  rw [hl _ (List.mem_of_getElem? hv.1)] at hs; cases hs
 exact ⟨fun j k o o' p p' i _ _ hv _ hs => (no hv hs).elim, fun j k o o' p p' i _ _ hv _ hs => (no hv hs).elim, fun j m o o' p i t v _ _ _ hv _ hs => (no hv hs).elim, fun j o p _ hv hs => (no hv hs).elim⟩
theorem GD {D : List Nat} {j k t : Nat} {oj ok : Oper} (hj : j < ops.size) (hk : k < ops.size) (h1 : (lD ops D)[j]? = some oj) (h2 : (lD ops D)[k]? = some ok) (h3 : ok.dst = some t) :
  k ∈ D /\ ok = cw ops k /\ (.tmp t ∈ opn ops.toList oj -> j ∈ D /\ oj = cw ops j /\ .tmp t ∈ opn ops.toList (cw ops j)) := by
 rw [CY hj] at h1
 rw [CY hk] at h2
 cases h1; cases h2
 have hkd : D.contains k = true := by
  cases hc : D.contains k with
  | true => rfl
  | false => rw [hc] at h3; cases h3
 refine ⟨by simpa using hkd, by rw [hkd]; rfl, fun hm => ?_⟩
 cases hc : D.contains j with
 | true =>
  rw [hc] at hm
  exact ⟨by simpa using hc, rfl, hm⟩
 | false =>
  rw [hc] at hm
  simp [opn, tst, KT, Op.operands] at hm
theorem Gl {A : List Nat} {L : Array Bool} (hp : o0 E ops L A = true) {D : List Nat} (hD : ∀ i ∈ D, i ∈ A) : HeadW E ops.toList (lD ops D) ops.size (fun a b => D.contains a && Region.waitsFor .any ops a b) := by
 unfold o0 at hp
 rw [Bool.and_eq_true, List.all_eq_true] at hp
 have hl : ∀ i ∈ D, fD E (cw ops i) = true := fun i hi => by
  have := hp.1 i (hD i hi)
  simp only [Bool.and_eq_true] at this
  exact this.1.1
 have hr := hp.2
 unfold LJ at hr
 refine ⟨?_, fun j k oj ok t hj hk h1 h2 h3 h4 => ?_, fun j k oj ok t hj hk h1 h2 h3 h4 => ?_⟩
 ·rw [List.all_eq_true]
  intro o ho
  exact (CE hl o (List.mem_of_mem_take ho)).1
 ·obtain ⟨hkD, rfl, _⟩ := GD hj hk h1 h2 h4
  obtain ⟨hjD, rfl, _⟩ := GD hj hj h1 h1 h3
  have := List.all_eq_true.1 (List.all_eq_true.1 hr j (hD j hjD)) k (hD k hkD)
  simp only [h4, h3, Bool.and_eq_true, Bool.or_eq_true, beq_iff_eq, bne_iff_ne, ne_eq, not_true_eq_false, or_false] at this
  exact this.1
 ·obtain ⟨hkD, rfl, h5⟩ := GD hj hk h1 h2 h3
  obtain ⟨hjD, rfl, h6⟩ := h5 h4
  have := List.all_eq_true.1 (List.all_eq_true.1 hr j (hD j hjD)) k (hD k hkD)
  simp only [h3, Bool.and_eq_true, Bool.or_eq_true, decide_eq_true_eq, Bool.not_eq_true'] at this
  have cj : D.contains j = true := by simpa using hjD
  have ck : D.contains k = true := by simpa using hkD
  rcases this.2 with (h | h) | h
  ·rw [List.any_eq_false] at h
   exact absurd (h _ h6) (by simp)
  ·exact .inl ⟨h.1, by rw [cj, h.2]; rfl⟩
  ·exact .inr ⟨h.1, by rw [ck, h.2]; rfl⟩
theorem Part.abh {D : List Nat} {st : St} {Lp : Nat -> Prop} (h : ∀ j, j < ops.size -> Lp j -> j ∉ D) : Part E call ops.toList (lD ops D) st ops.size Lp st := by
 have nop : ∀ {j o p}, j < ops.size -> Lp j -> Val E call ops.toList (lD ops D) st j o p -> o = KT /\ p.2 = [] := by
  intro j o p hj hl hv
  have hc : D.contains j = false := by
   cases hc : D.contains j with
   | true => exact absurd (by simpa using hc) (h j hj hl)
   | false => rfl
  have h1 := hv.1
  rw [CY hj, hc] at h1
  cases h1
  refine ⟨rfl, ?_⟩
  have h2 := hv.2.2.1
  simp only [cond_false, gop, sop, hop, KT, qop] at h2
  cases h2
  rfl
 refine ⟨rfl, fun j o p t hj hl hv hd => ?_, fun t _ => rfl, fun i b => ⟨fun hb => .inr ⟨?_, .inl hb⟩, ?_⟩⟩
 ·rw [(nop hj hl hv).1] at hd; cases hd
 ·rintro b' ⟨j, o, p, hj, hl, hv, hs, _⟩
  rw [(nop hj hl hv).1] at hs; cases hs
 ·rintro (⟨j, o, p, hj, hl, hv, hs, _⟩ | ⟨_, hb | ⟨j, o, p, hj, hl, hv, hs, hg⟩⟩)
  ·rw [(nop hj hl hv).1] at hs; cases hs
  ·exact hb
  ·rw [(nop hj hl hv).2] at hg; cases hg
theorem Ak {o : Oper} {f : Nat -> Option Bool} (h : o.guard = none) : Region.wanted o f = true := by simp [Region.wanted, h]
theorem DL (hE : Env.Ok P E) (hC : dO P call) (hed : jv ops.size ops = true) (hns : Region.noSelect ops = true) {k : St -> Option R} {Q : Exit -> Act -> World -> Prop}
  (hnext : ∀ ρ' st' a' w', k st' = some r -> Sim P B O w0 ρ' st' a' w' -> Q .normal a' w') (hQ : ∀ c a w, ¬ Q (.panic c) a w) :
  ∀ (f : Nat) (L : Array Bool) (st : St) (ρ : aL) (a : Act) (w : World) (fuel : Nat), HeadInv .any ops ops.size L -> cnt L ops.size = fuel -> Sim P B O w0 ρ st a w ->
   (∀ π ∈ fe E ops f L, bB E call ops.toList (π.map (cw ops)) st k = some r) -> wpAny P .any ops Q fuel L a w := by
 intro f
 induction f with
 | zero =>
  intro L st ρ a w fuel inv hc hS h
  have := h [ops.size] (by simp [fe])
  rw [List.map_cons, vl] at this
  exact (C8 this).elim
 | succ f ih =>
  intro L st ρ a w fuel inv hc hS h
  have hrun : ∀ {i : Nat} {s : St} {a : Act} {w : World} {ρ : aL} {n : Nat} {L : Array Bool}, HeadInv .any ops ops.size L -> cnt L ops.size = n + 1 -> i ∈ Region.ready .any ops L -> cnt (L.setIfInBounds i true) ops.size = n := by
   intro i s a w ρ n L inv hc hi
   obtain ⟨h1, h2⟩ := gB hi inv.size
   have := uB (listed := L) (i := i) (by rw [inv.size]; exact h2) h1 ops.size
   rw [if_pos h2] at this
   omega
  have hpos : ∀ {i : Nat} {L : Array Bool} {n : Nat}, HeadInv .any ops ops.size L -> cnt L ops.size = n -> i ∈ Region.ready .any ops L -> ∃ m, n = m + 1 := by
   intro i L n inv hc hi
   obtain ⟨h1, h2⟩ := gB hi inv.size
   have := uB (listed := L) (i := i) (by rw [inv.size]; exact h2) h1 ops.size
   rw [if_pos h2] at this
   exact ⟨n - 1, by omega⟩
  simp only [fe] at h
  split at h
  ·rename_i i hi
   have hp := List.find?_some hi
   simp only [Bool.and_eq_true] at hp
   obtain ⟨⟨h1, h2⟩, h3⟩ := hp
   have hr : i ∈ Region.ready .any ops L := by simpa using h2
   obtain ⟨hu, hin⟩ := gB hr inv.size
   obtain ⟨m, rfl⟩ := hpos inv hc hr
   have hall : ∀ π ∈ fe E ops f (L.setIfInBounds i true), ∃ s', exec E call (cw ops i) st some = some s' /\ bB E call ops.toList (π.map (cw ops)) s' k = some r := by
    intro π hπ
    have := h (i :: π) (List.mem_map.2 ⟨π, hπ, rfl⟩)
    rw [List.map_cons, dL] at this
    have hgn : (cw ops i).guard = none := by unfold eI at h1; rw [Bool.and_eq_true] at h1; exact Option.isNone_iff_eq_none.1 h1.1
    unfold vg1 at this
    simp only [hgn] at this
    exact EV this
   cases hpl : fe E ops f (L.setIfInBounds i true) with
   | nil => exact absurd hpl (lR hed f _ (by simpa using inv.size))
   | cons π0 πs =>
    obtain ⟨s', hs, _⟩ := hall π0 (by rw [hpl]; exact List.mem_cons_self ..)
    obtain ⟨u, ρ', hy, hS'⟩ := Hu hE hS h1 hs
    refine wpAny_take (uk hin) hns h3 h2 (fun c a w hq => (hQ _ _ _ hq).elim) (.inl ⟨Ak (by unfold eI at h1; rw [Bool.and_eq_true] at h1; exact Option.isNone_iff_eq_none.1 h1.1), hy⟩) ?_
    refine ih _ s' ρ' _ w m (inv.set hr hin) (hrun (s := st) (a := a) (w := w) (ρ := ρ) inv hc hr) hS' fun π hπ => ?_
    obtain ⟨s2, h4, h5⟩ := hall π hπ
    rw [hs] at h4
    cases h4
    exact h5
  ·simp only [aR] at h
   split at h
   case isFalse =>
    have := h [ops.size] (by simp)
    rw [List.map_cons, vl] at this
    exact (C8 this).elim
   rename_i hp
   generalize hAe : ed E ops L = A at h hp
   have hAlt : ∀ i ∈ A, i < ops.size := fun i hi => by rw [← hAe] at hi; exact nL hi
   have hpair : A.Pairwise (· < ·) := by rw [← hAe]; exact tQ L
   have hnd : A.Nodup := hpair.imp (fun h => Nat.ne_of_lt h)
   have hAr : ∀ q : Nat -> Bool, (List.range ops.size).filter (A.filter q).contains = A.filter q := by
    intro q
    rw [← hAe]
    unfold ed
    rw [List.filter_filter]
    apply List.filter_congr
    intro i hi
    rw [Bool.eq_iff_iff]
    simp only [List.contains_iff_mem, List.mem_filter, Bool.and_eq_true, hi, true_and]
   have hph := hp
   unfold o0 at hph
   rw [Bool.and_eq_true, List.all_eq_true] at hph
   have hlt : ∀ i ∈ A, fD E (cw ops i) = true /\ L.getD i false = false := fun i hi => by
    have := hph.1 i hi
    simp only [Bool.and_eq_true, Bool.not_eq_true'] at this
    exact ⟨this.1.1, getD_both this.1.2⟩
   have hlq : ∀ q : Nat -> Bool, ∀ i ∈ A.filter q, fD E (cw ops i) = true := fun q i hi => (hlt i (List.mem_filter.1 hi).1).1
   have hHW : ∀ q : Nat -> Bool, HeadW E ops.toList (lD ops (A.filter q)) ops.size (fun a b => (A.filter q).contains a && Region.waitsFor .any ops a b) := fun q => Gl hp fun i hi => (List.mem_filter.1 hi).1
   have hSO : ∀ (q : Nat -> Bool) W, mq E call ops.toList (lD ops (A.filter q)) st ops.size W := fun q W => mq.none fun o ho => (CE (hlq q) o ho).2
   have final : ∀ (listed : Array Bool) (a : Act) (w : World) (ρ : aL) (s : St), (∀ i ∈ A, listed.getD i false = false -> lu ops L A i = true) -> HeadInv .any ops ops.size listed -> (∀ i, L.getD i false = true -> listed.getD i false = true) -> (∀ i, listed.getD i false = true -> L.getD i false = true ∨ i ∈ A) -> Sim P B O w0 ρ s a w ->
     (∀ q : Nat -> Bool, A.filter q ∈ fA ops (lu ops L A) A L -> (∀ i ∈ A, listed.getD i false = true -> q i = true) -> VD E call ops st (A.filter q) -> Part E call ops.toList (lD ops (A.filter q)) st ops.size (fun i => listed.getD i false = true ∨ ¬ (i ∈ A /\ q i = true)) s) ->
     ∀ m, (∃ m', A.filter (fun i => listed.getD i false) ++ m' ∈ branch ops A (fe E ops f) listed (A.filter (fun i => listed.getD i false)) /\ m' = m) ->
      ∃ s', Sim P B O w0 ρ s' a w /\ s' = txt E call ops.toList (lD ops (A.filter fun i => listed.getD i false)) st ops.size /\ bB E call ops.toList (m.map (cw ops)) s' k = some r := by
    intro listed a w ρ s hskip inv' hL1 hL2 hS' hpart m hm
    obtain ⟨m', hm, rfl⟩ := hm
    have hsub : A.filter (fun i => listed.getD i false) ∈ fA ops (lu ops L A) A L := by
     refine iC hpair (fun i hi => by rw [inv.size]; exact hAlt i hi) (fun i hi hpi e he hb => ?_) hskip
     obtain ⟨h1, h2⟩ := su hed inv.size hAlt hp hi he hb
     rcases h1 with h1 | h1
     ·exact .inl h1
     ·exact .inr ⟨h1, inv'.closed i _ (uk (hAlt i hi)) hpi e he hb, h2⟩
    have hset : fh L (A.filter fun i => listed.getD i false) = listed := by
     apply Array.ext
     ·rw [eL, inv.size, inv'.size]
     ·intro i h1 h2
      have h3 : i < L.size := by rw [eL] at h1; exact h1
      have := gV (D := A.filter fun i => listed.getD i false) h3
      have h4 : (fh L (A.filter fun i => listed.getD i false)).getD i false = listed.getD i false := by
       rw [Bool.eq_iff_iff, this]
       constructor
       ·rintro (h | h)
        ·exact hL1 i h
        ·exact (List.mem_filter.1 h).2
       ·intro h
        rcases hL2 i h with h5 | h5
        ·exact .inl h5
        ·exact .inr (List.mem_filter.2 ⟨h5, h⟩)
      have e1 : (fh L (A.filter fun i => listed.getD i false)).getD i false = (fh L (A.filter fun i => listed.getD i false))[i] := by rw [Array.getD, dif_pos h1]; rfl
      have e2 : listed.getD i false = listed[i] := by rw [Array.getD, dif_pos h2]; rfl
      rw [← e1, ← e2]
      exact h4
    have hr := h _ (List.mem_flatMap.2 ⟨_, hsub, by rw [hset]; exact hm⟩)
    obtain ⟨hVD, hrun'⟩ := O8 (hlq _) (hAr _) hr
    have hpt := hpart _ hsub (fun i _ h => h) hVD
    obtain ⟨h1, h2⟩ := Part.same hVD hpt (mf (hHW _) (hSO _ _) hVD ops.size (Nat.le_refl _)) (fun j hj => by
     by_cases hjl : listed.getD j false = true
     ·exact .inl hjl
     ·exact .inr fun h => hjl h.2) (fun j hj => hj)
    exact ⟨_, hS'.same h1 h2, rfl, hrun'⟩
   have main : ∀ (fuel : Nat) (listed : Array Bool) (a : Act) (w : World) (ρ : aL) (s : St), HeadInv .any ops ops.size listed -> cnt listed ops.size = fuel -> (∀ i, L.getD i false = true -> listed.getD i false = true) -> (∀ i, listed.getD i false = true -> L.getD i false = true ∨ i ∈ A) -> Sim P B O w0 ρ s a w ->
     (∀ q : Nat -> Bool, A.filter q ∈ fA ops (lu ops L A) A L -> (∀ i ∈ A, listed.getD i false = true -> q i = true) -> VD E call ops st (A.filter q) -> Part E call ops.toList (lD ops (A.filter q)) st ops.size (fun i => listed.getD i false = true ∨ ¬ (i ∈ A /\ q i = true)) s) ->
     wpAny P .any ops Q fuel listed a w := by
    intro fuel
    have done : ∀ (listed : Array Bool) (a : Act) (w : World) (ρ : aL) (s : St), HeadInv .any ops ops.size listed -> (∀ i, L.getD i false = true -> listed.getD i false = true) -> (∀ i, listed.getD i false = true -> L.getD i false = true ∨ i ∈ A) -> Sim P B O w0 ρ s a w ->
      (∀ q : Nat -> Bool, A.filter q ∈ fA ops (lu ops L A) A L -> (∀ i ∈ A, listed.getD i false = true -> q i = true) -> VD E call ops st (A.filter q) -> Part E call ops.toList (lD ops (A.filter q)) st ops.size (fun i => listed.getD i false = true ∨ ¬ (i ∈ A /\ q i = true)) s) ->
      Region.ready .any ops listed = [] -> Q .normal a w := by
     intro listed a w ρ s inv' hL1 hL2 hS' hpart hre
     obtain ⟨s', h1, h2, h3⟩ := final listed a w ρ s (fun i hi hu => by rw [H5 hed inv'.size hre i (hAlt i hi)] at hu; cases hu) inv' hL1 hL2 hS' hpart [] ⟨[], by unfold branch; rw [hre]; simp, rfl⟩
     exact hnext ρ s' a w h3 h1
    induction fuel with
    | zero =>
     intro listed a w ρ s inv' hc' hL1 hL2 hS' hpart
     have hre : Region.ready .any ops listed = [] := by
      cases hrs : Region.ready .any ops listed with
      | nil => rfl
      | cons i rs =>
       have hi : i ∈ Region.ready .any ops listed := by rw [hrs]; exact List.mem_cons_self ..
       obtain ⟨h1, h2⟩ := gB hi inv'.size
       rw [pV hc' i h2] at h1
       cases h1
     exact ⟨hre, done listed a w ρ s inv' hL1 hL2 hS' hpart hre⟩
    | succ fuel ihf =>
     intro listed a w ρ s inv' hc' hL1 hL2 hS' hpart
     refine ⟨done listed a w ρ s inv' hL1 hL2 hS' hpart, fun i hi => ?_⟩
     obtain ⟨hu, hin⟩ := gB hi inv'.size
     obtain ⟨hu', oi, hoi, haft⟩ := mem_ready.1 hi
     have : oi = cw ops i := (yS hoi).symm
     subst this
     by_cases hiA : i ∈ A
     ·have step : ∀ q : Nat -> Bool, A.filter q ∈ fA ops (lu ops L A) A L -> (∀ x ∈ A, listed.getD x false = true -> q x = true) -> VD E call ops st (A.filter q) -> q i = true ->
        ∃ p, Val E call ops.toList (lD ops (A.filter q)) st i (cw ops i) p /\ gop E call ops.toList s.sg (aJ s.sl) (cw ops i) = some p /\ (∀ x ∈ p.2, s.sg.get x.1 = none) := by
       intro q hq hdn hVD hqi
       have hpq := hpart q hq hdn hVD
       obtain ⟨o, p, hv⟩ := hVD i hin
       have hci : (A.filter q).contains i = true := by
        rw [List.contains_iff_mem]
        exact List.mem_filter.2 ⟨hiA, hqi⟩
       have ho := hv.1
       rw [CY hin, hci] at ho
       cases ho
       simp only [cond_true] at hv
       have hli := hlq q i (List.mem_filter.2 ⟨hiA, hqi⟩)
       unfold fD at hli
       simp only [Bool.and_eq_true, Bool.not_eq_true'] at hli
       obtain ⟨g1, g2, _⟩ := Fg (hHW q) (hSO q _) hVD hpq hin hv (by rw [hu]; simp [hiA, hqi]) (fun x y hx hy hxl hxy => by
        rw [Bool.and_eq_true] at hxy
        obtain ⟨oj, hoj, e, he, hbd, hon⟩ := Region.waitsFor_spec hxy.2
        rcases hxl with hxl | hxl
        ·rw [← hon]
         exact .inl (inv'.closed x oj hoj hxl e he hbd)
        ·exact absurd (List.mem_filter.1 (by simpa using hxy.1)) hxl) (fun y hy hxy => by
        rw [Bool.and_eq_true] at hxy
        obtain ⟨oj, hoj, e, he, hbd, hon⟩ := Region.waitsFor_spec hxy.2
        have : oj = cw ops i := Option.some.inj (hoj.symm.trans hoi)
        subst this
        rw [← hon]
        exact .inl (haft e he hbd)) hS'.dom
       exact ⟨p, hv, g1, g2 hli.2⟩
      have hsubA : A.filter (fun _ => true) ∈ fA ops (lu ops L A) A L := by
       refine iC hpair (fun i hi => by rw [inv.size]; exact hAlt i hi) (fun i hi _ e he hb => ?_) (fun _ _ h => by cases h)
       obtain ⟨h1, h2⟩ := su hed inv.size hAlt hp hi he hb
       exact h1.imp id fun h => ⟨h, rfl, h2⟩
      have hVDA : VD E call ops st (A.filter fun _ => true) := by
       obtain ⟨m, hm⟩ := z8 (D := A.filter fun _ => true) (A := A) (L := fh L (A.filter fun _ => true)) (lR (E := E) hed f) (by rw [eL]; exact inv.size) (fun i hi => (gV (by rw [inv.size]; exact hAlt i hi)).2 (.inr (List.mem_filter.2 ⟨hi, rfl⟩)))
       exact (O8 (hlq _) (hAr _) (h _ (List.mem_flatMap.2 ⟨_, hsubA, hm⟩))).1
      obtain ⟨p, hv, hgo, hfr⟩ := step _ hsubA (fun _ _ _ => rfl) hVDA rfl
      have hli := (hlt i hiA).1
      unfold fD at hli
      simp only [Bool.and_eq_true, Bool.not_eq_true'] at hli
      have next : ∀ ρ' a' w', Sim P B O w0 ρ' (aft (cw ops i) p s) a' w' -> wpAny P .any ops Q fuel (listed.setIfInBounds i true) a' w' := by
       intro ρ' a' w' h'
       refine ihf _ a' w' ρ' _ (inv'.set hi hin) (hrun (s := st) (a := a) (w := w) (ρ := ρ) inv' hc' hi) (fun x hx => fR.2 (.inl (hL1 x hx))) (fun x hx => ?_) h' fun q hq hdn hVD => ?_
       ·rcases fR.1 hx with hx | ⟨rfl, _⟩
        ·exact hL2 x hx
        ·exact .inr hiA
       ·have hqi : q i = true := hdn i hiA (fR.2 (.inr ⟨rfl, by rw [inv'.size]; exact hin⟩))
        have hdn' : ∀ x ∈ A, listed.getD x false = true -> q x = true := fun x hx hxl => hdn x hx (fR.2 (.inl hxl))
        obtain ⟨p', hv', hgo', _⟩ := step q hq hdn' hVD hqi
        rw [hgo] at hgo'
        cases hgo'
        refine (hpart q hq hdn' hVD).step (hSO q (fun _ _ => true)) hin (by rw [hu]; simp [hiA, hqi]) hv' (fun x => ?_) (fun x o' t hx h1 h2 h3 => (hHW q).uniq x i o' _ t hx hin h1 hv'.1 h2 h3) (fun _ => hfr) (fun _ x o' p' y hx _ hvx hso _ => ?_)
        ·rw [fR]
         constructor
         ·rintro ((h | ⟨h, _⟩) | h)
          ·exact .inl (.inl h)
          ·exact .inr h.symm
          ·exact .inl (.inr h)
         ·rintro ((h | h) | h)
          ·exact .inl (.inl h)
          ·exact .inr h
          ·exact .inl (.inr ⟨h.symm, by rw [inv'.size]; exact hin⟩)
        ·rw [(CE (hlq q) o' (List.mem_of_getElem? hvx.1)).2] at hso
         cases hso
      unfold wpOp
      simp only [hoi]
      rcases yw hS' hli.1 hgo with ⟨hw, hh⟩ | ⟨hw, hnst, rfl⟩
      ·rw [if_pos hw]
       have hex : exec E call (cw ops i) s some = some (aft (cw ops i) p s) := by
        rw [ye hli.2] at hh
        rw [EE (R := St) hli.1 hh some, lX hli.2]
       refine .inl (iO hE hC hS' (cw ops i) hex fun ρ' st' a' w' heq h' => ?_)
       cases heq
       exact next ρ' a' w' h'
      ·rw [if_neg (by rw [hw]; simp)]
       refine next ρ _ w ?_
       rw [lX hnst]
       exact hS'.put (cw ops i).dst (v := .tup []) (u := undef) ⟨[], rfl, .nil⟩ (fun d hd => by cases hd)
     ·obtain ⟨π0, πs, hpl⟩ : ∃ π0 πs, fe E ops f (listed.setIfInBounds i true) = π0 :: πs := by
       cases hpl : fe E ops f (listed.setIfInBounds i true) with
       | nil => exact absurd hpl (lR hed f _ (by simpa using inv'.size))
       | cons π0 πs => exact ⟨_, _, rfl⟩
      have hgd : (cw ops i).guard.isNone = true := by
       cases hgd : (cw ops i).guard.isNone with
       | true => rfl
       | false =>
        exfalso
        obtain ⟨s', _, _, h3⟩ := final listed a w ρ s (oL hi hiA inv.size hL1) inv' hL1 hL2 hS' hpart [ops.size] ⟨_, by
         unfold branch
         have hne : (Region.ready .any ops listed).isEmpty = false := by
          cases hrs : Region.ready .any ops listed with
          | nil => rw [hrs] at hi; cases hi
          | cons x xs => rfl
         rw [hne]
         exact List.mem_flatMap.2 ⟨i, List.mem_filter.2 ⟨hi, by simpa using hiA⟩, by rw [hgd]; exact List.mem_singleton.2 rfl⟩, rfl⟩
        rw [List.map_cons, vl] at h3
        exact C8 h3
      have hgn : (cw ops i).guard = none := Option.isNone_iff_eq_none.1 hgd
      have hw : ∀ f, Region.wanted (cw ops i) f = true := fun f => Ak hgn
      have hbr : ∀ π ∈ fe E ops f (listed.setIfInBounds i true), A.filter (fun i => listed.getD i false) ++ (i :: π) ∈ branch ops A (fe E ops f) listed (A.filter (fun i => listed.getD i false)) := by
       intro π hπ
       unfold branch
       have hne : (Region.ready .any ops listed).isEmpty = false := by
        cases hrs : Region.ready .any ops listed with
        | nil => rw [hrs] at hi; cases hi
        | cons x xs => rfl
       rw [hne]
       exact List.mem_flatMap.2 ⟨i, List.mem_filter.2 ⟨hi, by simpa using hiA⟩, by rw [hgd]; exact List.mem_map.2 ⟨π, hπ, rfl⟩⟩
      have hall : ∀ π ∈ fe E ops f (listed.setIfInBounds i true), ∃ s', exec E call (cw ops i) (txt E call ops.toList (lD ops (A.filter fun i => listed.getD i false)) st ops.size) some = some s' /\ bB E call ops.toList (π.map (cw ops)) s' k = some r := by
       intro π hπ
       obtain ⟨s', h1, h2, h3⟩ := final listed a w ρ s (oL hi hiA inv.size hL1) inv' hL1 hL2 hS' hpart (i :: π) ⟨_, hbr π hπ, rfl⟩
       subst h2
       rw [List.map_cons, dL] at h3
       unfold vg1 at h3
       simp only [hgn] at h3
       exact EV h3
      obtain ⟨s0, hS0, rfl, _⟩ := final listed a w ρ s (oL hi hiA inv.size hL1) inv' hL1 hL2 hS' hpart (i :: π0) ⟨_, hbr π0 (by rw [hpl]; exact List.mem_cons_self ..), rfl⟩
      obtain ⟨s1, hs1, _⟩ := hall π0 (by rw [hpl]; exact List.mem_cons_self ..)
      unfold wpOp
      simp only [hoi, hw, if_true]
      refine .inl (iO hE hC hS0 (cw ops i) hs1 fun ρ' st' a' w' heq h' => ?_)
      cases heq
      refine ih _ s1 ρ' a' w' fuel (inv'.set hi hin) (hrun (s := st) (a := a) (w := w) (ρ := ρ) inv' hc' hi) h' fun π hπ => ?_
      obtain ⟨s2, h4, h5⟩ := hall π hπ
      rw [hs1] at h4
      cases h4
      exact h5
   refine main fuel L a w ρ st inv hc (fun _ h => h) (fun _ h => .inl h) hS fun q hq _ hVD => ?_
   refine Part.abh fun j hj hl hm => ?_
   obtain ⟨h1, h2⟩ := List.mem_filter.1 hm
   rcases hl with hl | hl
   ·rw [(hlt j h1).2] at hl; cases hl
   ·exact hl ⟨h1, h2⟩
def Jh (ops : Array Oper) : Bool := jv ops.size ops && Region.noSelect ops
theorem Bl (hE : Env.Ok P E) (hC : dO P call) (hm : P.follows .mixedOrders = true) {id : Nat} {k : St -> Option R} {Q : Exit -> Act -> World -> Prop} (hb : Jh ops = true) (hS : Sim P B O w0 ρ st a w)
  (h : ∀ π ∈ fe E ops (ops.size + 1) (Array.replicate ops.size false), bB E call ops.toList (π.map (cw ops)) st k = some r)
  (hnext : ∀ ρ' st' a' w', k st' = some r -> Sim P B O w0 ρ' st' a' w' -> Q .normal a' w') : (Code.region id ops true).wp P Q a w := by
 unfold Jh at hb
 simp only [Bool.and_eq_true] at hb
 refine wp_mono (Q := fun e a w => e = .normal /\ Q .normal a w) (wp_region_any hm ?_) fun e a w hq => by obtain ⟨rfl, hq⟩ := hq; exact hq
 exact DL hE hC hb.1 hb.2 (fun ρ' st' a' w' h1 h2 => ⟨rfl, hnext ρ' st' a' w' h1 h2⟩) (fun c a w hq => by cases hq.1) _ _ st ρ a _ _
  ⟨by simp, fun j oj _ hl => (by rw [getD_replicate_false] at hl; cases hl), fun t _ ht => getD_in (by simpa using ht) (getD_replicate_false _ _)⟩ (wz _ _)
  (hS.below ⟨rfl, rfl, rfl, Nat.le_refl _, fun _ _ => rfl⟩) h
end
end Go.Proofs.YtahlaccdpmddbaaGreat.Lib
namespace Go.Proofs.YtahlaccdpmddbaaGreat.Lib
open Go Go.RowKit Go.WideShapes
set_option linter.unusedVariables false
set_option linter.unusedSimpArgs false
abbrev here (w : World) : Nat -> Prop := fun g => g < w.heap.size
def Ty.ok : (t : Ty) -> t.T -> Prop
 | .int k, n => (Lit.int k n).wf = true
 | .bool, _ => True
 | .str, s => s.size <= 9223372036854775807
 | .sl _ t, l => (∀ x, x ∈ l -> t.ok x) /\ l.length <= 9223372036854775807
 | .pair a b, p => a.ok p.1 /\ b.ok p.2
 | .nul _, _ => True
def zY (P : Program) (t : TypeId) (d : Ty) : Prop :=
 ∀ (H : Type) (enc : TypeId × Value -> H) (w : World) (base : Nat) (spare : Nat -> Bool) (held : Bool) (fuel : Nat) (cs : List Value) (x : DataW H × List MemPlace),
  DataW.trod enc P w base spare held fuel t cs = some x -> ∃ y : d.T, Rp (here w) w d y cs /\ d.ok y
theorem KQ {P : Program} {t : TypeId} {k : IntKind} (ht : P.underlying t = some (.int k)) : zY P t (.int k) := by
 intro H enc w base spare held fuel cs x h
 obtain ⟨n, rfl, _, hw⟩ := DataW.trod_int ht h
 exact ⟨n, by simp only [Rp], hw⟩
theorem collect {α : Type} {Q : Nat -> α -> Prop} : ∀ n : Nat, (∀ i, i < n -> ∃ y, Q i y) -> ∃ ys : List α, ys.length = n /\ ∀ (i : Nat) (y : α), ys[i]? = some y -> Q i y
 | 0, _ => ⟨[], rfl, fun i y h => by simp at h⟩
 | n + 1, h => by
  obtain ⟨ys, hl, hys⟩ := collect n (fun i hi => h i (by omega))
  obtain ⟨y, hy⟩ := h n (by omega)
  refine ⟨ys ++ [y], by simp [hl], fun i z hz => ?_⟩
  by_cases hi : i < ys.length
  ·rw [List.getElem?_append_left hi] at hz
   exact hys i z hz
  ·rw [List.getElem?_append_right (by omega)] at hz
   have : i - ys.length = 0 := by
    rcases Nat.eq_zero_or_pos (i - ys.length) with e | e
    ·exact e
    ·rw [List.getElem?_eq_none (by simp; omega)] at hz
     exact absurd hz (by simp)
   rw [this] at hz
   simp at hz
   subst hz
   rw [show i = n by omega]
   exact hy
theorem Kx {w : World} {base : Nat} {a : Addr} {n : Nat} {c : List Value} (h : w.cells? base a n = some c) : c.length = n /\ ∀ (i : Nat) (u : Value), c[i]? = some u -> w.cell? (a.add i) = some u := by
 unfold World.cells? at h
 split at h
 ·have hl := mapM_some_length h
  rw [List.length_range] at hl
  refine ⟨hl, fun i u hi => ?_⟩
  have hlt : i < n := by
   have := (List.getElem?_eq_some_iff.1 hi).1
   omega
  have := mapM_some_get h i i (by rw [List.getElem?_range hlt])
  rw [this, hi]
 ·exact absurd h (by simp)
theorem ru {w : World} {a : Addr} {u : Value} (h : w.cell? a = some u) : a.block < w.heap.size := by
 unfold World.cell? at h
 rcases Nat.lt_or_ge a.block w.heap.size with h' | h'
 ·exact h'
 ·rw [Array.getElem?_eq_none h'] at h
  cases h
theorem Fw {P : Program} {t e : TypeId} {d : Ty} (ht : P.underlying t = some (.slice e)) (hsz : P.cellsOf e = d.sz) (he : zY P e d) : zY P t (.sl e d) := by
 intro H enc w base spare held fuel cs x h
 rcases DataW.trod_slice ht h with ⟨rfl, _⟩ | ⟨a, len, cap, elems, rest, n, _, rfl, _, _, hl, hm, hlen, hel, _, _⟩
 ·refine ⟨[], ?_, fun x hx => by simp at hx, by simp⟩
  simp only [Rp]
  exact ⟨none, 0, rfl, Nat.le_refl _, Nat.zero_le _, fun h => absurd h (by simp)⟩
 ·obtain ⟨ys, hyl, hys⟩ := collect (α := d.T) (Q := fun i y => d.ok y /\ ∃ c, c.length = d.sz /\ Rp (here w) w d y c /\ ∀ (q : Nat) (u : Value), c[q]? = some u -> w.cell? (a.add (i * d.sz + q)) = some u) len (fun i hi => by
   have h1 := hel i hi
   rw [List.getElem?_eq_getElem (by omega), Option.bind_eq_some_iff] at h1
   obtain ⟨c, hc, hx⟩ := h1
   obtain ⟨y, hy, hok⟩ := he H enc w base spare held n c _ hx
   obtain ⟨_, hcg⟩ := Kx hc
   refine ⟨y, hok, c, hy.len, hy, fun q u hq => ?_⟩
   have := hcg q u hq
   rwa [cH, hsz] at this)
  have hmax : len <= 9223372036854775807 := Nat.le_trans hl hm
  refine ⟨ys, ?_, fun y hy => ?_, by omega⟩
  ·simp only [Rp]
   refine ⟨some a, cap, by rw [hyl], by omega, hm, fun hpos => ⟨a, rfl, ?_, fun j p hj => (hys j p hj).2⟩⟩
   obtain ⟨_, c, hc, _, hq⟩ := hys 0 ys[0] (List.getElem?_eq_getElem hpos)
   have h0 := hq 0 _ (List.getElem?_eq_getElem (by rw [hc]; exact d.ll))
   have := ru h0
   rwa [zP] at this
  ·obtain ⟨i, hi⟩ := List.getElem?_of_mem hy
   exact (hys i y hi).1
abbrev start (w : World) : aL := ⟨fun _ => .dead, fun _ => here w⟩
theorem K4 {P : Program} {t e : TypeId} {d : Ty} (ho : zY P t (.sl e d)) (ht : P.underlying t = some (.slice e)) {H : Type} {enc : TypeId × Value -> H} {w : World} {b base : Nat} {r : Reach} {spare : Nat -> Bool} {held : Bool} {v : Value} {x : DataW H} {ps : List MemPlace}
  (hv : Value.okWide P w r b t v) (h : DataW.Trod enc P w base spare held t v x ps) : ∃ l : List d.T, rav (start w) w (.one (.emb e d l true)) v /\ (Ty.sl e d).ok l := by
 obtain ⟨a, len, cap, rfl⟩ := okWide_slice ht hv
 obtain ⟨fuel, hf⟩ := h
 obtain ⟨l, hr, hok⟩ := ho H enc w base spare held fuel _ _ hf
 exact ⟨l, by simpa [rav, rc, Value.cells] using hr, hok⟩
theorem UC {H : Type} {enc : TypeId × Value -> H} {P : Program} {W : World} {base : Nat} {spare : Nat -> Bool} {held : Bool} {t : TypeId} {v : Value} {d : DataW H} {ps : List MemPlace} (h : DataW.Trod enc P W base spare held t v d ps) : ∀ x ∈ ps, x.block < W.heap.size := by
 obtain ⟨m, hm⟩ := h
 exact DataW.trod_lt m _ _ _ hm
theorem LY {P : Program} {W : World} (h : W.ShapedOpen P) : GH P (start W) W := fun G ⟨hg, zero, t, h0, hz, hb, hc, hu⟩ => by
 obtain ⟨m, hm⟩ := Go.Proofs.cell_of_shapedOpen_int h hg h0 hz hb hc hu
 exact ⟨ru hm, m, hm⟩
def bc {α R : Type} (o : Option α) (f : α -> Option R) : Option R := match o with | some x => f x | none => none
theorem gR {α β : Type} [BEq α] [LawfulBEq α] {l : List (α × β)} {a : α} {b : β} (h : l.lookup a = some b) : (a, b) ∈ l := by
 induction l with
 | nil => cases h
 | cons q r ih =>
  obtain ⟨a', b'⟩ := q
  rw [List.lookup_cons] at h
  split at h
  ·rename_i heq
   cases h
   rw [eq_of_beq heq]
   exact List.mem_cons_self
  ·exact List.mem_cons_of_mem _ (ih h)
theorem ag.no {P : Program} : ∀ c : Code, ag P c .none
 | .seq a b => ⟨ag.no a, ag.no b⟩
 | .cond _ a b => ⟨ag.no a, ag.no b⟩
 | .block _ b => ag.no b
 | .loop b => ag.no b
 | .skip | .label _ | .region _ _ _ | .exit _ | .ret | .goto _ | .scope _ | .refuse _ | .rangeFunc _ _ _ _ => trivial
def aO : List Bool -> Code -> Code
 | p, .seq a b => (match p with | false :: p => aO p a | true :: p => aO p b | [] => .skip)
 | p, .cond _ a b => (match p with | false :: p => aO p a | true :: p => aO p b | [] => .skip)
 | p, .block _ b => aO p b
 | p, .loop b => (match p with | [] => b | _ :: p => aO p b)
 | _, _ => .skip
def cD : List Bool -> Code -> LT -> LT -> LT
 | p, .seq a b, t, s => (match p with | false :: p => .node (cD p a t.l s) t.r | true :: p => .node t.l (cD p b t.r s) | [] => t)
 | p, .cond _ a b, t, s => (match p with | false :: p => .node (cD p a t.l s) t.r | true :: p => .node t.l (cD p b t.r s) | [] => t)
 | p, .block _ b, t, s => .node (cD p b t.l s) .none
 | p, .loop b, t, s => (match p with | [] => s | _ :: p => .node (cD p b t.l s) .none)
 | _, _, t, _ => t
theorem ag.put {P : Program} {ss : List SP} {gs : List (Nat × GP)} {F : StT ss gs -> aP (Ex × St)} (hw : rR ss gs) : ∀ {p : List Bool} {c : Code} {t : LT}, ag P c t -> bw P (aO p c) ss gs F -> ag P c (cD p c t (.sum ss gs F))
 | p, .seq a b, t, h, hl => by
  cases p with
  | nil => exact h
  | cons x p => cases x with
   | false => exact ⟨ag.put hw h.1 hl, h.2⟩
   | true => exact ⟨h.1, ag.put hw h.2 hl⟩
 | p, .cond _ a b, t, h, hl => by
  have h1 : p = [] ∨ (ag P a t.l /\ ag P b t.r) := by
   cases t with
   | sum ss gs F => exact .inr ⟨ag.no a, ag.no b⟩
   | none => exact .inr h
   | node x y => exact .inr h
  cases p with
  | nil => exact h
  | cons x p =>
   have h := h1.resolve_left (by simp)
   cases x with
   | false => exact ⟨ag.put hw h.1 hl, h.2⟩
   | true => exact ⟨h.1, ag.put hw h.2 hl⟩
 | p, .block _ b, t, h, hl => ag.put (c := b) hw h hl
 | p, .loop b, t, h, hl => by
  cases p with
  | nil => exact ⟨hw, hl⟩
  | cons x p =>
   have : ag P b t.l := by
    cases t with
    | sum ss gs F => exact ag.no b
    | none => exact h
    | node x y => exact h
   exact ag.put (c := b) hw this hl
 | p, .skip, t, h, hl => h
 | p, .label _, t, h, hl => h
 | p, .region _ _ _, t, h, hl => h
 | p, .exit _, t, h, hl => h
 | p, .ret, t, h, hl => h
 | p, .goto _, t, h, hl => h
 | p, .scope _, t, h, hl => h
 | p, .refuse _, t, h, hl => h
 | p, .rangeFunc _ _ _ _, t, h, hl => h
def aw : List Bool -> Code -> Code
 | p, .seq a b => (match p with | false :: p => aw p a | true :: p => aw p b | [] => .skip)
 | p, .cond c a b => (match p with | false :: p => aw p a | true :: p => aw p b | [] => .cond c a b)
 | p, .block _ b => aw p b
 | p, .loop b => (match p with | [] => .loop b | _ :: p => aw p b)
 | p, .region id ops d => (match p with | [] => .region id ops d | _ => .skip)
 | _, _ => .skip
def aD : List Bool -> Code -> LT -> LT -> LT
 | p, .seq a b, t, s => (match p with | false :: p => .node (aD p a t.l s) t.r | true :: p => .node t.l (aD p b t.r s) | [] => t)
 | p, .cond _ a b, t, s => (match p with | false :: p => .node (aD p a t.l s) t.r | true :: p => .node t.l (aD p b t.r s) | [] => s)
 | p, .block _ b, t, s => .node (aD p b t.l s) .none
 | p, .loop b, t, s => (match p with | [] => s | _ :: p => .node (aD p b t.l s) .none)
 | p, .region _ _ _, t, s => (match p with | [] => s | _ => t)
 | _, _, t, _ => t
theorem ag.bP {P : Program} {ss : List SP} {gs : List (Nat × GP)} {F : StT ss gs -> aP (Ex × St)} (hw : rR ss gs) : ∀ {p : List Bool} {c : Code} {t : LT}, ag P c t -> aK P (aw p c) ss gs F -> ag P c (aD p c t (.sum ss gs F))
 | p, .seq a b, t, h, hl => by
  cases p with
  | nil => exact h
  | cons x p => cases x with
   | false => exact ⟨ag.bP hw h.1 hl, h.2⟩
   | true => exact ⟨h.1, ag.bP hw h.2 hl⟩
 | p, .cond _ a b, t, h, hl => by
  have h1 : (ag P a t.l /\ ag P b t.r) := by
   cases t with
   | sum ss gs F => exact ⟨ag.no a, ag.no b⟩
   | none => exact h
   | node x y => exact h
  cases p with
  | nil => exact ⟨hw, hl⟩
  | cons x p =>
   have h := h1
   cases x with
   | false => exact ⟨ag.bP hw h.1 hl, h.2⟩
   | true => exact ⟨h.1, ag.bP hw h.2 hl⟩
 | p, .block _ b, t, h, hl => ag.bP (c := b) hw h hl
 | p, .loop b, t, h, hl => by
  cases p with
  | nil => exact ⟨hw, hl⟩
  | cons x p =>
   have : ag P b t.l := by
    cases t with
    | sum ss gs F => exact ag.no b
    | none => exact h
    | node x y => exact h
   exact ag.bP (c := b) hw this hl
 | p, .skip, t, h, hl => h
 | p, .label _, t, h, hl => h
 | p, .region _ _ _, t, h, hl => by
  cases p with
  | nil => exact ⟨hw, hl⟩
  | cons x p => exact h
 | p, .exit _, t, h, hl => h
 | p, .ret, t, h, hl => h
 | p, .goto _, t, h, hl => h
 | p, .scope _, t, h, hl => h
 | p, .refuse _, t, h, hl => h
 | p, .rangeFunc _ _ _ _, t, h, hl => h
theorem ag.wL {P : Program} {p : List Bool} {c : Code} {t : LT} {ss : List SP} {gs : List (Nat × GP)} {F : StT ss gs -> aP (Ex × St)} (hp : aw p c = .loop (aO p c)) (hw : rR ss gs) (h : ag P c t) (hl : bw P (aO p c) ss gs F) : ag P c (aD p c t (.sum ss gs F)) :=
 ag.bP hw h (by rw [hp]; exact hl)
def ae (f : Func) : Code := f.body.getD .skip
theorem Env.Ok.of {P : Program} {E : Env} (h : ∀ q ∈ E.ti, TI.Ok P q.1 q.2) (hf : ∀ q ∈ E.fn, P.funcs[q.1]? = some q.2 /\ (q.2.name == "runtime.NumGoroutine") = false) (hp : ∀ q ∈ E.prim, gj P q.1 q.2) (hl : ∀ q ∈ E.lt, ∀ fn, P.funcs[q.1]? = some fn -> ag P (ae fn) q.2) (hm : ∀ q ∈ E.mark, Cs P q.1 q.2) (he : ∀ t ∈ E.eqt, EqT P t) (hg : ∀ q ∈ E.gen, dp P q.1 q.2) : Env.Ok P E :=
 ⟨fun t i hl => h _ (gR hl), fun f fn hl => hf _ (gR hl), hp, fun f fn c hf1 hb => by
  unfold Env.Ph
  cases hlk : E.lt.lookup f with
  | none => exact ag.no c
  | some t =>
   have := hl _ (gR hlk) fn (hf _ (gR hf1)).1
   unfold ae at this
   rw [hb] at this
   exact this, fun f m hl => hm _ (gR hl), he, hg⟩
theorem EqT.of {P : Program} {t : TypeId} {fa : Array Field} (h1 : P.stoodInHeld t = false) (h2 : P.eqGuardType P.depth t = false) (h3 : P.underlying t = some (.struct fa)) (h4 : fa.toList.all (fun f => f.name != "_") = true) : EqT P t :=
 ⟨h1, h2, fun fa' h5 f hf => by
  rw [h3] at h5
  cases h5
  have := List.all_eq_true.1 h4 f hf
  simpa using this⟩
theorem AP {α : Type} {p : α -> Prop} : ∀ q ∈ ([] : List α), p q := fun q h => by cases h
theorem mem_cons {α : Type} {p : α -> Prop} {a : α} {l : List α} (h : p a) (h' : ∀ q ∈ l, p q) : ∀ q ∈ a :: l, p q := fun q hq => (List.mem_cons.1 hq).elim (fun e => e ▸ h) (h' q)
def SV : TypeDesc -> Bool
 | .struct _ => false | .array _ _ => false | _ => true
theorem TI.dP {P : Program} {t : TypeId} {ti : TypeInfo} {d : TypeDesc} {by_ : Nat} {z : Value} {fl : Bool} (h1 : P.info? t = some ti) (h2 : P.underlying t = some d) (h3 : ti.size = 1 /\ ti.bytes = by_) (h4 : ti.zero = some z /\ z.cells = #[Ro fl]) (h5 : SV d = true) : TI.Ok P t ⟨.other, 1, by_, some (.nul fl)⟩ :=
 ⟨⟨ti, h1, h3.1, h3.2, fun τ h => by cases h; exact ⟨rfl, z, h4.1, h4.2⟩⟩, _, h2, by clear h2; cases d <;> first | rfl | cases h5⟩
theorem TI.ok_int {P : Program} {t : TypeId} {ti : TypeInfo} {k : IntKind} {by_ : Nat} {z : Value} (h1 : P.info? t = some ti) (h2 : P.underlying t = some (.int k)) (h3 : ti.size = 1 /\ ti.bytes = by_) (h4 : ti.zero = some z /\ z.cells = #[.int k 0]) : TI.Ok P t ⟨.scal, 1, by_, some (.int k)⟩ :=
 ⟨⟨ti, h1, h3.1, h3.2, fun τ h => by cases h; exact ⟨rfl, z, h4.1, h4.2⟩⟩, _, h2, rfl⟩
theorem TI.P5 {P : Program} {t : TypeId} {ti : TypeInfo} {by_ : Nat} {z : Value} (h1 : P.info? t = some ti) (h2 : P.underlying t = some .bool) (h3 : ti.size = 1 /\ ti.bytes = by_) (h4 : ti.zero = some z /\ z.cells = #[.bool false]) : TI.Ok P t ⟨.scal, 1, by_, some .bool⟩ :=
 ⟨⟨ti, h1, h3.1, h3.2, fun τ h => by cases h; exact ⟨rfl, z, h4.1, h4.2⟩⟩, _, h2, rfl⟩
theorem TI.Is {P : Program} {t : TypeId} {ti : TypeInfo} {by_ : Nat} {z : Value} (h1 : P.info? t = some ti) (h2 : P.underlying t = some .string) (h3 : ti.size = 1 /\ ti.bytes = by_) (h4 : ti.zero = some z /\ z.cells = #[.string ByteArray.empty]) : TI.Ok P t ⟨.scal, 1, by_, some .str⟩ :=
 ⟨⟨ti, h1, h3.1, h3.2, fun τ h => by cases h; exact ⟨rfl, z, h4.1, h4.2⟩⟩, _, h2, rfl⟩
theorem TI.ok_slice {P : Program} {t e : TypeId} {ti : TypeInfo} {by_ : Nat} {z : Value} {τ : Ty} (h1 : P.info? t = some ti) (h2 : P.underlying t = some (.slice e)) (h3 : ti.size = 1 /\ ti.bytes = by_) (h4 : ti.zero = some z /\ z.cells = #[.slice none 0 0]) : TI.Ok P t ⟨.slice e, 1, by_, some (.sl e τ)⟩ :=
 ⟨⟨ti, h1, h3.1, h3.2, fun τ h => by cases h; exact ⟨rfl, z, h4.1, h4.2⟩⟩, _, h2, rfl⟩
theorem TI.a8 {P : Program} {t : TypeId} {ti : TypeInfo} {fa : Array Field} {fs : List (TypeId × Nat)} {sz by_ : Nat} {z : Value} {τ : Ty} (h1 : P.info? t = some ti) (h2 : P.underlying t = some (.struct fa)) (h3 : ti.size = sz /\ ti.bytes = by_) (h4 : ti.zero = some z /\ z.cells = τ.zv.toArray) (h5 : τ.sz = sz)
  (h6 : fs = fa.toList.map fun f => (f.type, f.offset)) (h7 : fa.toList.all (fun f => ((P.info? f.type).map (·.size)).getD 0 != 0) = true) : TI.Ok P t ⟨.struct fs, sz, by_, some τ⟩ :=
 ⟨⟨ti, h1, h3.1, h3.2, fun τ h => by cases h; exact ⟨h5, z, h4.1, h4.2⟩⟩, _, h2, fa, rfl, h6, fun f hf => by
  have := List.all_eq_true.1 h7 f hf
  cases hi : P.info? f.type with
  | none => rw [hi] at this; simp at this
  | some fi => rw [hi] at this; exact ⟨fi, rfl, by simpa using this⟩⟩
end Go.Proofs.YtahlaccdpmddbaaGreat.Lib
namespace Go.Proofs.YtahlaccdpmddbaaGreat.Lib
open Go Go.RowKit Go.WideShapes
set_option linter.unusedVariables false
section
variable {α V R S : Type}
def yF (o : Option α) (z : V) (v : α -> V) : V := match o with | some x => v x | none => z
def ua (o : Option α) (d : α -> Bool) : Bool := match o with | some x => d x | none => false
theorem tC {c : Bool} {f : V -> R} {A B : Option R} {x y : V} (hA : A = some (f x)) (hB : B = some (f y)) : cond c A B = some (f (cond c x y)) := by cases c <;> assumption
theorem al {W : Type} {o : Option V} {z : V} {f : V -> W} {A : Option W} (h : A = o.bind fun r => some (f r)) : A = (aP.br o.isSome (.done (f (o.getD z))) .no).run some := by rw [h]; cases o <;> rfl
theorem pS {f : V -> R} (x : V) : some (f x) = cond true (some (f x)) none := rfl
theorem pN {f : V -> R} (x : V) : none = cond false (some (f x)) none := rfl
theorem pC {c dA dB : Bool} {f : V -> R} {A B : Option R} {x y : V} (hA : A = cond dA (some (f x)) none) (hB : B = cond dB (some (f y)) none) : cond c A B = cond (cond c dA dB) (some (f (cond c x y))) none := by cases c <;> assumption
theorem pI {p : Prop} [Decidable p] {dA : Bool} {f : V -> R} {A : Option R} {x : V} (hA : A = cond dA (some (f x)) none) : (if p then A else none) = cond (decide p && dA) (some (f x)) none := by
 by_cases hp : p
 ·rw [if_pos hp, hA, decide_eq_true hp]; rfl
 ·rw [if_neg hp, decide_eq_false hp]; rfl
theorem pO {o : Option α} {f : V -> R} {A : α -> Option R} {d : α -> Bool} {v : α -> V} {z : V} (hA : ∀ x, A x = cond (d x) (some (f (v x))) none) : bc o A = cond (ua o d) (some (f (yF o z v))) none := by
 cases o with
 | none => rfl
 | some x => exact hA x
theorem bC {c : Bool} {k : S -> Option R} {A B : Option S} {A' B' : Option R} (hA : A' = A.bind k) (hB : B' = B.bind k) : cond c A' B' = (cond c A B).bind k := by cases c <;> assumption
theorem bI {p : Prop} [Decidable p] {k : S -> Option R} {A : Option S} {A' : Option R} (hA : A' = A.bind k) : (if p then A' else none) = (if p then A else none : Option S).bind k := by split <;> first | assumption | rfl
theorem QT {p : Prop} [Decidable p] {k : S -> Option R} {A : Option S} {A' : Option R} (hA : A' = A.bind k) : (if p then none else A') = (if p then none else A : Option S).bind k := by split <;> first | assumption | rfl
theorem bO {o : Option α} {k : S -> Option R} {A : α -> Option S} {A' : α -> Option R} (hA : ∀ x, A' x = (A x).bind k) : bc o A' = (bc o A).bind k := by
 cases o with
 | none => rfl
 | some x => exact hA x
def iter (s : V -> Option (Nat × V)) : Nat -> V -> Option (Nat × V)
 | 0, _ => none
 | n + 1, v => (s v).bind fun q => match q.1 with | 0 => iter s n q.2 | c + 1 => some (c, q.2)
def mj (s : V -> Option (Nat × V)) (n : Nat) (v : V) (c : Nat) : Bool := match iter s n v with | some q => q.1 == c | none => false
def th (s : V -> Option (Nat × V)) (n : Nat) (v : V) : V := match iter s n v with | some q => q.2 | none => v
def dt (body : St -> (Ex -> St -> Option R) -> Option R) (z : Nz) (bld : V -> St) (ex : List Ex) (n : Nat) (K : Ex -> St -> Option R) (q : Nat × V) : Option R :=
 match q.1 with | 0 => iB body z n (bld q.2) K | c + 1 => K (ex.getD c .normal) (bld q.2)
theorem yW {body : St -> (Ex -> St -> Option R) -> Option R} {z : Nz} {bld : V -> St} {s : V -> Option (Nat × V)} {ex : List Ex} {K : Ex -> St -> Option R}
  (h : ∀ n v, iB body z (n + 1) (bld v) K = (s v).bind (dt body z bld ex n K)) : ∀ n v, iB body z n (bld v) K = (iter s n v).bind fun q => K (ex.getD q.1 .normal) (bld q.2)
 | 0, v => rfl
 | n + 1, v => by
  rw [h, iter]
  cases s v with
  | none => rfl
  | some q =>
   obtain ⟨c, v'⟩ := q
   cases c with
   | zero => exact yW h n v'
   | succ c => rfl
def bz (s : V -> Option (Nat × V)) (N : Nat) (v : V) (bld : V -> St) : List Ex -> Nat -> aP (Ex × St)
 | [], _ => .no
 | e :: es, c => .br (mj s N v c) (.done (e, bld (th s N v))) (bz s N v bld es (c + 1))
theorem vT {s : V -> Option (Nat × V)} {N : Nat} {v : V} {bld : V -> St} {e : Ex} {st' : St} : ∀ (es : List Ex) (c : Nat), (bz s N v bld es c).run some = some (e, st') -> ∃ i, es[i]? = some e /\ iter s N v = some (c + i, th s N v) /\ st' = bld (th s N v)
 | [], c, h => by cases h
 | x :: es, c, h => by
  simp only [bz, aP.run] at h
  cases hc : mj s N v c with
  | true =>
   rw [hc] at h
   simp only [cond_true, Option.some.injEq, Prod.mk.injEq] at h
   obtain ⟨rfl, rfl⟩ := h
   refine ⟨0, rfl, ?_, rfl⟩
   unfold mj at hc
   unfold th
   cases hi : iter s N v with
   | none => rw [hi] at hc; cases hc
   | some q =>
    rw [hi] at hc
    obtain ⟨c', v'⟩ := q
    have : c' = c := by simpa using hc
    subst this
    rfl
  | false =>
   rw [hc] at h
   obtain ⟨i, h1, h2, h3⟩ := vT es (c + 1) h
   exact ⟨i + 1, by simpa using h1, by rw [h2]; simp only [Nat.add_assoc, Nat.add_comm 1 i], h3⟩
end
section
variable {P : Program} {E : Env}
theorem aE (hE : Env.Ok P E) (hm : P.follows .mixedOrders = true) {b : Code} {lt : LT} (hlt : ag P b lt) {ss : List SP} {gs : List (Nat × GP)} {s : StT ss gs -> Option (Nat × StT ss gs)} {N : StT ss gs -> Nat} {ex : List Ex}
  (h : ∀ (n : Nat) (v : StT ss gs) (K : Ex -> St -> Option (Ex × St)), iB (di E (jg E fO 0) fO 0 b lt) (.norm ss gs) (n + 1) (ax ss gs v) K = (s v).bind (dt (di E (jg E fO 0) fO 0 b lt) (.norm ss gs) (ax ss gs) ex n K)) :
  bw P b ss gs fun v => bz s (N v) v (ax ss gs) ex 0 := by
 refine Kk (draw := fO) hE (fun call hC => lU hE hm call hC) hlt 0 0 (.norm ss gs) fun v e st' hv => ⟨N v, ?_⟩
 obtain ⟨i, h1, h2, h3⟩ := vT ex 0 hv
 rw [yW (K := fun e st => some (e, st)) (fun n v => h n v _) (N v) v, h2, h3, Nat.zero_add]
 simp [h1]
theorem aA (hE : Env.Ok P E) (hm : P.follows .mixedOrders = true) {c : Code} {lt : LT} (hlt : ag P c lt) {ss : List SP} {gs : List (Nat × GP)} {F : StT ss gs -> aP (Ex × St)} {sx : List SP} {gx : List (Nat × GP)}
  (h : ∀ (v : StT ss gs), di E (jg E fO 0) fO 0 c lt (ax ss gs v) (fun e st => bif st.sl.length == sx.length then some (e, st.norm sx gx) else none) = (F v).run some) : aK P c ss gs F := by
 intro B O w0 w ρ a v e st' Q hF hS hn
 have hD := fun call hC => lU hE hm call hC
 have hC := eK hE hD 0
 refine cb (R := Ex × St) (r := (e, st')) hE hC (hD _ hC) 0 c lt _ ρ a w _ Q hlt hS ((h v).trans hF) fun e1 ρ1 st1 a1 w1 hk h1 => ?_
 simp only [aR] at hk
 split at hk
 ·rename_i hl
  cases hk
  obtain ⟨ρ2, h2⟩ := h1.norm sx gx
  exact hn ρ2 a1 w1 h2
 ·cases hk
theorem Bb (hE : Env.Ok P E) (hm : P.follows .mixedOrders = true) {id : Nat} {ops : Array Oper} (hb : Jh ops = true) (n : Nat) {ss : List SP} {gs : List (Nat × GP)} {F : StT ss gs -> aP (Ex × St)} {sx : List SP} {gx : List (Nat × GP)}
  (h : ∀ (v : StT ss gs), ((fe E ops (ops.size + 1) (Array.replicate ops.size false)).map fun π => bB E (jg E fO 0) ops.toList (π.map (cw ops)) (ax ss gs v) (fun st => bif st.sl.length == sx.length then some (Ex.normal, st.norm sx gx) else none)) = List.replicate n ((F v).run some)) : aK P (.region id ops true) ss gs F := by
 intro B O w0 w ρ a v e st' Q hF hS hn
 have hC := eK hE (fun call hC => lU hE hm call hC) 0
 refine Bl (R := Ex × St) (r := (e, st')) hE hC hm hb hS (k := fun st => bif st.sl.length == sx.length then some (Ex.normal, st.norm sx gx) else none) (fun π hπ => ?_) fun ρ1 st1 a1 w1 hk h1 => ?_
 ·have h1 := List.mem_map_of_mem (f := fun π => bB E (jg E fO 0) ops.toList (π.map (cw ops)) (ax ss gs v) (fun st => bif st.sl.length == sx.length then some (Ex.normal, st.norm sx gx) else none)) hπ
  rw [h v] at h1
  rw [List.eq_of_mem_replicate h1]
  exact hF
 ·simp only [aR] at hk
  split at hk
  ·rename_i hl
   cases hk
   obtain ⟨ρ2, h2⟩ := h1.norm sx gx
   exact hn ρ2 a1 w1 h2
  ·cases hk
@[reducible] def U2 (l : List SP) : List SP := .und :: .und :: l
@[reducible] def U4 (l : List SP) : List SP := .und :: .und :: .und :: .und :: l
@[reducible] def U8 (l : List SP) : List SP := U4 (U4 l)
@[reducible] def U16 (l : List SP) : List SP := U8 (U8 l)
@[reducible] def U32 (l : List SP) : List SP := U16 (U16 l)
@[reducible] def U64 (l : List SP) : List SP := U32 (U32 l)
def rG : Code -> Array Oper | .region _ ops _ => ops | _ => #[]
def UR : Code -> Bool | .region _ _ d => d | _ => false
theorem bA {c : Code} (hc : UR c = true) (hE : Env.Ok P E) (hm : P.follows .mixedOrders = true) (hb : Jh (rG c) = true) (n : Nat) {ss : List SP} {gs : List (Nat × GP)} {F : StT ss gs -> aP (Ex × St)} {sx : List SP} {gx : List (Nat × GP)}
  (h : ∀ (v : StT ss gs), ((fe E (rG c) ((rG c).size + 1) (Array.replicate (rG c).size false)).map fun π => bB E (jg E fO 0) (rG c).toList (π.map (cw (rG c))) (ax ss gs v) (fun st => bif st.sl.length == sx.length then some (Ex.normal, st.norm sx gx) else none)) = List.replicate n ((F v).run some)) : aK P c ss gs F := by
 cases c with
 | region id ops d =>
  have : d = true := hc
  subst this
  exact Bb hE hm hb n h
 | _ => cases hc
theorem yJ (hE : Env.Ok P E) (hm : P.follows .mixedOrders = true) {f : FuncId} {p : Prim} (h : ∀ v, jg E fO 1 f (SPs.bld (R := Unit) p.ss v).1 [] = (p.F v).run some) : gj P f p :=
 Lf (draw := fO) hE (fun call hC => lU hE hm call hC) fun v res out hv => ⟨1, by rw [h v]; exact hv⟩
theorem b9 (hE : Env.Ok P E) (hm : P.follows .mixedOrders = true) {f : FuncId} {m : Gen} (hwf : rR m.ss m.gs) (hfn : ∃ fn c, E.fn.lookup f = some fn /\ fn.body = some c) (h : ∀ v, GW E fO 0 f (ax m.ss m.gs v) = (m.F v).run some) : dp P f m :=
 O9 (draw := fO) hE (fun call hC => lU hE hm call hC) hwf hfn fun v res fin hv => ⟨0, by rw [h v]; exact hv⟩
theorem aZ {g : FuncId} {f : Func} {t : LT} (hf : P.funcs[g]? = some f) (h : ag P (ae f) t) : ∀ fn, P.funcs[g]? = some fn -> ag P (ae fn) t := fun fn hfn => by
 rw [hf] at hfn
 cases hfn
 exact h
theorem FZ {f : FuncId} {p : Prim} (hp : gj P f p) {v : SPs.T p.ss Unit} {b : Bool} (h : (p.F v).run some = some (.one (.bool b), [])) {W : World} (hsh : W.ShapedOpen P) {vs : List Value} (hr : aX (rav (start W) W) (SPs.bld (R := Unit) p.ss v).1 vs) (hu : ∀ x ∈ (SPs.bld (R := Unit) p.ss v).1, ∀ d, x.ak d = false) :
  Calls P f vs.toArray W fun e w' => e = .returned (.bool b) /\ Below W.heap.size W w' := by
 refine (hp v _ _ h (start W) W vs (fun _ _ h => h) (fun _ h => h) (LY hsh) hr hu).2.mono fun e w' hh => ?_
 obtain ⟨v, ρ', he, hv, _, _, hb⟩ := hh
 have hv : v = .bool b := hv
 subst hv
 exact ⟨he, hb⟩
def AN (ss : List SP) : Bool := ss.all fun s => match s with | .one (.dat _ _) => true | .agg ps => ps.all (fun p => match p with | .dat _ _ => true | _ => false) | _ => false
theorem QD {ss : List SP} (h : AN ss = true) (v : SPs.T ss Unit) : ∀ x ∈ (SPs.bld (R := Unit) ss v).1, ∀ d, x.ak d = false := by
 have hc : ∀ {R : Type} (ps : List CP) (y : CPs.T ps R) (d : Nat), ps.all (fun p => match p with | .dat _ _ => true | _ => false) = true -> (CPs.bld ps y).1.any (·.ak d) = false := by
  intro R ps
  induction ps with
  | nil => intro y d h; rfl
  | cons p r ih =>
   intro y d h
   simp only [List.all_cons, Bool.and_eq_true] at h
   cases p with
   | dat t b => simp only [CPs.bld, List.any_append, rY, Bool.false_or]; exact ih _ d h.2
   | own j => cases h.1
   | ptr j c => cases h.1
   | und => cases h.1
   | fnc f ts => cases h.1
   | ept t => cases h.1
   | fnp f js => cases h.1
 have main : ∀ {R : Type} (ss : List SP) (y : SPs.T ss R), AN ss = true -> ∀ x ∈ (SPs.bld ss y).1, ∀ d, x.ak d = false := by
  intro R ss
  induction ss with
  | nil => intro y h x hx; simp [SPs.bld] at hx
  | cons s r ih =>
   intro y h x hx d
   simp only [AN, List.all_cons, Bool.and_eq_true] at h
   cases s with
   | und => cases h.1
   | one p =>
    cases p with
    | dat t b =>
     rcases List.mem_cons.1 hx with rfl | hx
     ·have := hc [.dat t b] y d rfl
      generalize (CPs.bld [.dat t b] y).1 = l at this
      unfold oneOf
      split
      ·simpa [AV.ak] using this
      ·rfl
     ·exact ih _ h.2 x hx d
    | own j => cases h.1
    | ptr j c => cases h.1
    | und => cases h.1
    | fnc f ts => cases h.1
    | ept t => cases h.1
    | fnp f js => cases h.1
   | agg ps =>
    rcases List.mem_cons.1 hx with rfl | hx
    ·exact hc ps y d h.1
    ·exact ih _ h.2 x hx d
 exact main ss v h
end
structure fk (P : Program) where
 E : Env
 ok : Env.Ok P E
def fk.base (P : Program) (ti : List (TypeId × TI)) (fn : List (FuncId × Func)) (eqt : List TypeId) (h : ∀ q ∈ ti, TI.Ok P q.1 q.2) (hf : ∀ q ∈ fn, P.funcs[q.1]? = some q.2 /\ (q.2.name == "runtime.NumGoroutine") = false) (he : ∀ t ∈ eqt, EqT P t) : fk P :=
 ⟨{ ti := ti, fn := fn, eqt := eqt }, Env.Ok.of h hf (fun _ h => nomatch h) (fun _ h => nomatch h) (fun _ h => nomatch h) he (fun _ h => nomatch h)⟩
theorem IU {α : Type} {Q : α -> Prop} {x : α} {l : List α} (h : Q x) (hl : ∀ q ∈ l, Q q) : ∀ q ∈ x :: l, Q q := fun q hq => (List.mem_cons.1 hq).elim (fun e => e ▸ h) (hl q)
def fk.p {P : Program} {f : FuncId} {p : Prim} (e : fk P) (h : gj P f p) : fk P := ⟨{ e.E with prim := (f, p) :: e.E.prim }, ⟨e.ok.ti, e.ok.fn, IU (Q := fun q : FuncId × Prim => gj P q.1 q.2) h e.ok.prim, e.ok.lt, e.ok.mark, e.ok.eqt, e.ok.gen⟩⟩
def fk.g {P : Program} {f : FuncId} {p : Gen} (e : fk P) (h : dp P f p) : fk P := ⟨{ e.E with gen := (f, p) :: e.E.gen }, ⟨e.ok.ti, e.ok.fn, e.ok.prim, e.ok.lt, e.ok.mark, e.ok.eqt, IU (Q := fun q : FuncId × Gen => dp P q.1 q.2) h e.ok.gen⟩⟩
def fk.m {P : Program} {f : FuncId} {p : Mrk} (e : fk P) (h : Cs P f p) : fk P := ⟨{ e.E with mark := (f, p) :: e.E.mark }, ⟨e.ok.ti, e.ok.fn, e.ok.prim, e.ok.lt, fun f' m hm => by
 simp only [List.lookup] at hm
 split at hm
 ·rename_i hb
  have := eq_of_beq hb
  subst this
  cases hm
  exact h
 ·exact e.ok.mark f' m hm, e.ok.eqt, e.ok.gen⟩⟩
def fk.l {P : Program} {g : FuncId} {t : LT} (e : fk P) (h : ∀ fn, P.funcs[g]? = some fn -> ag P (ae fn) t) : fk P := ⟨{ e.E with lt := (g, t) :: e.E.lt }, ⟨e.ok.ti, e.ok.fn, e.ok.prim, fun f fn c hf hb => by
 unfold Env.Ph
 simp only [List.lookup]
 split
 ·rename_i hg
  have := eq_of_beq hg
  subst this
  have h1 := h fn (e.ok.fn _ _ hf).1
  unfold ae at h1
  rw [hb] at h1
  exact h1
 ·exact e.ok.lt f fn c hf hb, e.ok.mark, e.ok.eqt, e.ok.gen⟩⟩
end Go.Proofs.YtahlaccdpmddbaaGreat.Lib
namespace Go.Proofs.YtahlaccdpmddbaaGreat.Lib
open Go Go.RowKit
variable {P : Program}
noncomputable def e8 (l : List ByteArray) (sep : ByteArray) : ByteArray := ⟨(Go.Lib.join (l.map (·.data.toList)) sep.data.toList).toArray⟩
theorem HX (l : List ByteArray) (sep : ByteArray) : (e8 l sep).size = (Go.Lib.join (l.map (·.data.toList)) sep.data.toList).length := by
 simp [e8, ByteArray.size]
noncomputable def Jg (e : TypeId) : Prim := ⟨[.one (.dat (.sl e .str) true), .one (.dat .str true)],
 fun v => .br (decide (List.length (α := ByteArray) v.1 <= 140737488355328 /\ (e8 v.1 v.2.1).size <= 140737488355328)) (.done (.one (.str (e8 v.1 v.2.1)), [])) .no⟩
theorem SS {f : FuncId} {e : TypeId} (hf : ∃ fn, P.funcs[f]? = some fn /\ fn.body.isSome = true /\ (fn.name == "runtime.NumGoroutine") = false)
  (h0 : ∀ (a : Option Addr) (c : Nat) (sep : ByteArray) (w : World), Calls P f #[.slice a 0 c, .string sep] w fun e w' => e = .returned (.string ⟨#[]⟩) /\ w' = w)
  (h1 : ∀ (bk o c : Nat) (xs : List ByteArray) (sep : ByteArray) (w : World), (∀ (j : Nat) x, xs[j]? = some x -> w.cell? ⟨bk, o + j, none⟩ = some (.string x)) -> bk < w.heap.size -> xs.length <= 140737488355328 -> xs.length <= c ->
   (Go.Lib.join (xs.map (·.data.toList)) sep.data.toList).length <= 140737488355328 ->
   Calls P f #[.slice (some ⟨bk, o, none⟩) xs.length c, .string sep] w fun e w' => e = .returned (.string ⟨(Go.Lib.join (xs.map (·.data.toList)) sep.data.toList).toArray⟩) /\ Below w.heap.size w w') : gj P f (Jg e) := by
 intro v res out hv ρ w vs hsz hmono _ hargs hu
 refine ⟨hf, ?_⟩
 obtain ⟨l, sep, u⟩ := v
 simp only [Jg, aP.run] at hv
 by_cases hc : List.length (α := ByteArray) l <= 140737488355328 /\ (e8 l sep).size <= 140737488355328
 ·rw [decide_eq_true hc] at hv
  simp only [cond_true, Option.some.injEq, Prod.mk.injEq] at hv
  obtain ⟨rfl, rfl⟩ := hv
  have hst : (SPs.bld (R := Unit) (Jg e).ss (l, sep, u)).1 = [.one (.emb e .str l true), .one (.str sep)] := rfl
  rw [hst] at hargs
  match vs, hargs with
  | [v0, v1], .cons hr0 (.cons hr1 .nil) =>
   have hr1 : v1 = .string sep := hr1
   subst hr1
   have hr0 : Rp (ρ.ok true) w (.sl e .str) l [v0] := hr0
   simp only [Rp] at hr0
   obtain ⟨A, c, e1, hle, hm, hd⟩ := hr0
   have e1 : v0 = .slice A l.length c := by simpa using e1
   subst e1
   have fin : ∀ w' : World, Below w.heap.size w w' -> Mem w.heap.size ⟨fun _ => False, ρ.ok, ρ.loc⟩ ρ [] w' := fun w' hb =>
    ⟨fun j b h => (by cases h), fun i j g h => (by cases h), fun j g h => (by cases h), fun b g h => Nat.lt_of_lt_of_le (hsz b g h) hb.size, fun b g _ j h => (by cases h), hmono, fun b g h => .inl h, fun b g h => h, fun j b d h => (by cases h)⟩
   by_cases hl : l.length = 0
   ·have : l = [] := List.eq_nil_of_length_eq_zero hl
    subst this
    refine (h0 A c sep w).mono fun ex w' he => ⟨_, ρ, he.1, ?_, fin w' (he.2 ▸ Below.refl _ _), fun d h => (by cases h), he.2 ▸ Below.refl _ _⟩
    show _ = _
    rfl
   ·obtain ⟨ad, q0, _, q1⟩ := hd (by omega)
    subst q0
    have cell : ∀ (j : Nat) x, l[j]? = some x -> w.cell? (ad.add (j * Ty.str.sz + 0)) = some (.string x) := fun j x hj => by
     obtain ⟨c, q2, q3, q4⟩ := q1 j x hj
     have q3 : c = [.string x] := q3
     exact q4 0 (.string x) (by rw [q3]; rfl)
    obtain ⟨x0, hx0⟩ : ∃ x, l[0]? = some x := ⟨_, List.getElem?_eq_getElem (by omega)⟩
    have c0 := cell 0 x0 hx0
    have c0 : w.cell? ad = some (.string x0) := by simpa [Addr.add] using c0
    obtain ⟨bk, o, sp⟩ := ad
    have hsp : sp = none := by
     cases sp with
     | none => rfl
     | some s =>
      unfold World.cell? at c0
      revert c0
      split <;> simp
    subst hsp
    have hcell : ∀ (j : Nat) x, l[j]? = some x -> w.cell? ⟨bk, o + j, none⟩ = some (.string x) := fun j x hj => by
     have := cell j x hj
     have e : (⟨bk, o, none⟩ : Addr).add (j * Ty.str.sz + 0) = ⟨bk, o + j, none⟩ := by
      simp only [Addr.add, Ty.sz, Nat.mul_one, Nat.add_zero]
      split
      ·rename_i h; rw [h]; rfl
      ·rfl
     rw [e] at this
     exact this
    refine (h1 bk o c l sep w hcell (ru c0) hc.1 hle (by rw [← HX]; exact hc.2)).mono fun ex w' he => ⟨_, ρ, he.1, ?_, fin w' he.2, fun d h => (by cases h), he.2⟩
    show _ = _
    rfl
 ·rw [decide_eq_false hc] at hv
  cases hv
end Go.Proofs.YtahlaccdpmddbaaGreat.Lib
namespace Go.Proofs.YtahlaccdpmddbaaGreat.Lib
open Go Go.RowKit Go.Lib
set_option linter.unusedVariables false
set_option linter.unusedSimpArgs false
def Bh (t tb : TypeId) (y z : String) : Oper := { dst := some 4, op := Op.binOp BinOp.eql t (Operand.tmp 3) (Operand.const (Value.slice none 0 0)) t, type := tb, pos := y, after := #[{ on := 0, ground := Ground.data }], guard := none }
def OZ (t : TypeId) : Code := Code.region 0 #[{ dst := some 2, op := Op.assign (Operand.const (Value.slice none 0 0)), type := t, pos := "slices.go:355", after := #[], guard := none }] false
def O2 (t : TypeId) : Oper := { dst := some 3, op := Op.move (Operand.tmp 0), type := t, pos := "slices.go:357", after := #[], guard := none }
def Oe (t : TypeId) : Code := (Code.region 2 #[{ dst := some 2, op := Op.assign (Operand.const (Value.slice none 0 0)), type := t, pos := "slices.go:358", after := #[], guard := none }] false).seq Code.ret
def CW (t : TypeId) : Code :=
  (Code.region 3
    #[{ dst := some 5, op := Op.buildSlice t 0 #[], type := t, pos := "slices.go:362", after := #[], guard := none },
      { dst := some 6, op := Op.move (Operand.tmp 0), type := t, pos := "slices.go:362", after := #[], guard := none },
      { dst := some 7, op := Op.call { callee := Callee.builtin Builtin.append, args := #[Operand.tmp 5, Operand.tmp 6], argTypes := #[t, t] }, type := t, pos := "slices.go:362",
        after := #[{ on := 0, ground := Ground.data }, { on := 1, ground := Ground.data }], guard := none },
      { dst := some 2, op := Op.assign (Operand.tmp 7), type := t, pos := "slices.go:362",
        after := #[{ on := 2, ground := Ground.data }, { on := 2, ground := Ground.chain }, { on := 0, ground := Ground.phase }, { on := 1, ground := Ground.phase }, { on := 2, ground := Ground.phase }], guard := none }]
    false).seq Code.ret
def KI (t tb : TypeId) : Code := (OZ t).seq (((Code.region 1 #[O2 t, Bh t tb "slices.go:357" ""] false).seq (Code.cond (Operand.tmp 4) (Oe t) Code.skip)).seq (CW t))
def GJ (e : TypeId) (τ : Ty) (by_ : Nat) : Prim := ⟨[.one (.dat (.sl e τ) true)], fun v => .br (decide (List.length (α := τ.T) v.1 * by_ <= 140737488351232)) (.done (.one (.sl 4096), [(4096, .arr e τ v.1 false)])) .no⟩
theorem Mem.aab {n0 : Nat} {ok : Bool -> Nat -> Prop} {l0 : Nat -> Loc} {ρ : aL} {w : World} {e : TypeId} {τ : Ty} {l : List τ.T} {b b' : Bool} {j : Nat} (hfl : τ.flat = true) (h : Mem n0 ⟨fun _ => False, ok, l0⟩ ρ [(j, .arr e τ l b)] w) : Mem n0 ⟨fun _ => False, ok, l0⟩ ρ [(j, .arr e τ l b')] w := by
  have ho : ∀ i g, bx ρ [(j, Blk.arr e τ l b')] i g -> bx ρ [(j, Blk.arr e τ l b)] i g := by
    intro i g h
    unfold bx at h ⊢
    simp only [Sig.get, aR] at h ⊢
    split at h
    · rename_i he
      split at he
      · cases he
      · cases he
    · rename_i he
      split at he
      · rename_i hc
        rw [if_pos hc]
        exact h
      · cases he
    · exact h.elim
  refine ⟨fun i x hi => ?_, fun i k g h1 h2 => h.inj i k g (ho i g h1) (ho k g h2), fun i g h1 => h.old i g (ho i g h1), h.okb, fun q g hq i h1 => h.oko q g hq i (ho i g h1), h.okm, h.okx, h.oky, fun i x d hi hd => ?_⟩
  · simp only [Sig.get, aR] at hi
    split at hi
    · rename_i hc
      cases hi
      obtain ⟨v, g, xs, h1, h2, h3⟩ := h.blk i _ (by simp only [Sig.get, aR]; rw [if_pos hc])
      exact ⟨v, g, xs, h1, ⟨h2.1, fun q p hp => uI hfl (h2.2 q p hp)⟩, h3⟩
    · cases hi
  · simp only [Sig.get, aR] at hi
    split at hi
    · cases hi; cases hd
    · cases hi
section
variable {P : Program} {E : Env}
theorem Rl (hE : Env.Ok P E) {f : FuncId} {fn : Func} {t tb e : TypeId} {sz sz' bs by_ : Nat} {yt : Option Ty} {td : TD} {τ : Ty} (hf : P.funcs[f]? = some fn) (hn : (fn.name == "runtime.NumGoroutine") = false) (hb : fn.body = some (KI t tb)) (hnt : fn.ntmps = 8) (hrs : fn.results = #[.tmp 2])
    (ht : E.ti.lookup t = some ⟨.slice e, sz, bs, yt⟩) (he : E.ti.lookup e = some ⟨td, sz', by_, some τ⟩) (hby : by_ ≠ 0) (hfl : τ.flat = true) : gj P f (GJ e τ by_) := by
  intro v res out hv ρ0 w vs hokb hokm hgl hr hu
  refine ⟨⟨fn, hf, by rw [hb]; rfl, hn⟩, ?_⟩
  obtain ⟨l, x⟩ := v
  simp only [GJ, aP.run] at hv
  by_cases hc : List.length (α := τ.T) l * by_ <= 140737488351232
  · rw [decide_eq_true hc] at hv
    simp only [cond_true, Option.some.injEq, Prod.mk.injEq] at hv
    obtain ⟨rfl, rfl⟩ := hv
    have hst : (SPs.bld (R := Unit) (GJ e τ by_).ss (l, x)).1 = [.one (.emb e τ l true)] := rfl
    rw [hst] at hr
    obtain ⟨u, rfl, hr9⟩ := hr.single
    clear hr
    have hr0 : Rp (ρ0.ok true) w (.sl e τ) l [u] := hr9
    simp only [Rp] at hr0
    obtain ⟨A, c, e1, hle, hm, hd⟩ := hr0
    have e1 : u = .slice A l.length c := by simpa using e1
    subst e1
    refine calls_of_wp hf hb ?_
    let st0 : St := ⟨[.one (.emb e τ l true), .one .und, .one .und, .one .und, .one .und, .one .und, .one .und, .one .und], []⟩
    have h0 : Sim P w.heap.size ⟨fun _ => False, ρ0.ok, ρ0.loc⟩ w ρ0 st0 { tmps := #[.slice A l.length c] ++ Array.replicate (fn.ntmps - 1) undef, defers := [] } w := by
      refine ⟨⟨(fun j b hj => by cases hj), (fun i j g hi => by cases hi), (fun j g hj => by cases hj), hokb, (fun b g hg j hj => by cases hj), hokm, fun b g hg => .inl hg, fun b g hg => hg, (fun j b d hj => by cases hj)⟩, by rw [hnt]; rfl, fun i v hi => ?_, fun i v d hi hd => ?_, rfl, fV.refl _ _ _, Nat.le_refl _, fun _ _ => rfl, fun G hG => ⟨(hgl G hG).1, hokb _ _ (hgl G hG).1, fun h => h, (hgl G hG).2⟩⟩
      · rw [hnt]
        match i, hi with
        | 0, hi => cases hi; exact ⟨_, rfl, hr9⟩
        | 1, hi => cases hi; exact ⟨_, rfl, trivial⟩
        | 2, hi => cases hi; exact ⟨_, rfl, trivial⟩
        | 3, hi => cases hi; exact ⟨_, rfl, trivial⟩
        | 4, hi => cases hi; exact ⟨_, rfl, trivial⟩
        | 5, hi => cases hi; exact ⟨_, rfl, trivial⟩
        | 6, hi => cases hi; exact ⟨_, rfl, trivial⟩
        | 7, hi => cases hi; exact ⟨_, rfl, trivial⟩
        | n + 8, hi => simp [st0] at hi
      · match i, hi with
        | 0, hi => cases hi; cases hd
        | 1, hi => cases hi; cases hd
        | 2, hi => cases hi; cases hd
        | 3, hi => cases hi; cases hd
        | 4, hi => cases hi; cases hd
        | 5, hi => cases hi; cases hd
        | 6, hi => cases hi; cases hd
        | 7, hi => cases hi; cases hd
        | n + 8, hi => simp [st0] at hi
    have hC : dO P (fun _ _ _ => none) := fun f args res out h => by cases h
    have hD : jw P E (fun _ _ _ => none) (fun _ _ _ _ => false) := fun R r B O w0 w ρ st a id ops k Q h => by cases h
    have go := @cb P E w.heap.size ⟨fun _ => False, ρ0.ok, ρ0.loc⟩ w St
    refine wp_seq (cb (R := Ex × St) (r := (Ex.normal, ⟨[.one (.emb e τ l true), .one .und, .one .nil, .one .und, .one .und, .one .und, .one .und, .one .und], []⟩)) hE hC hD 0 (OZ t) .none st0 ρ0 _ w (fun e st => some (e, st)) _ trivial h0 rfl fun ex ρ1 st1 a1 w1 hk h1 => ?_)
    cases hk
    show ((Code.seq _ _).wp P _ a1 w1)
    refine wp_seq (wp_seq (wp_region_list ?_))
    unfold wpList
    rw [if_pos (by rfl)]
    refine .inl (iO (R := St) (r := ⟨[.one (.emb e τ l true), .one .und, .one .nil, .one (.emb e τ l true), .one .und, .one .und, .one .und, .one .und], []⟩) hE hC h1 (O2 t) (k := some) rfl fun ρ2 st2 a2 w2 hk h2 => ?_)
    cases hk
    unfold wpList
    rw [if_pos (by rfl)]
    left
    obtain ⟨u3, hu3, hr3⟩ := h2.sl 3 _ rfl
    have hr3' : Rp (ρ2.ok true) w2 (.sl e τ) l [u3] := hr3
    simp only [Rp] at hr3'
    obtain ⟨A', c', e3, _, _, hd3⟩ := hr3'
    have e3 : u3 = .slice A' l.length c' := by simpa using e3
    subst e3
    have hev : a2.eval (.tmp 3) = .slice A' l.length c' := by
      simp only [Act.eval, Array.getD_eq_getD_getElem?, hu3, Option.getD_some]
    have hrun : (execOp a2.eval (Bh t tb "slices.go:357" "")).run P w2 = .ok (.value (.bool A'.isNone)) w2 := by
      unfold execOp Bh
      have hbin : (binOp .eql t (.slice A' l.length c') (.slice none 0 0)).run P w2 = .ok (.bool A'.isNone) w2 := by
        simp only [binOp]
        simp [Op.equal, Op.maxDepth, Lib.run_equalIn_slice_nil w2 9999 t e A' l.length c' 0 0 (dD (hE.ti _ _ ht))]
      have hev0 : a2.eval (.const (.slice none 0 0)) = .slice none 0 0 := rfl
      have hg : (eqGuard BinOp.eql t (Operand.tmp 3) (Operand.const (Value.slice none 0 0)) (Value.slice A' l.length c') (Value.slice none 0 0)).run P w2 = .ok () w2 := by
        unfold eqGuard
        simp
      simp [hev, hev0, Sem.run_bind, hbin, hg]
    unfold Oper.wp
    rw [hrun, Oper.upon_value]
    have h3 := h2.put (some 4) (v := .one (.bool A'.isNone)) (u := .bool A'.isNone) rfl (fun d hd => by cases hd)
    show Exit.then _ _ .normal _ w2
    have hcv : (a2.put (some 4) (.bool A'.isNone)).eval (.tmp 4) = .bool A'.isNone := by
      obtain ⟨u4, hu4, hr4⟩ := h3.sl 4 (.one (.bool A'.isNone)) rfl
      have hr4 : u4 = .bool A'.isNone := hr4
      subst hr4
      simp only [Act.eval, Array.getD_eq_getD_getElem?, hu4, Option.getD_some]
    have hres : fn.results.toList = [.tmp 2] := by rw [hrs]
    have fin : ∀ (ρ' : aL) (st' : St) (a' : Act) (w' : World) (l' : List τ.T) (b : Bool) (j : Nat), Sim P w.heap.size ⟨fun _ => False, ρ0.ok, ρ0.loc⟩ w ρ' st' a' w' -> wO st'.sg [st'.sl.getD 2 (.one .und)] = some (.one (.sl 4096), [(4096, .arr e τ l' b)]) -> l' = l ->
        a'.defers = [] /\ ∃ v, (results fn a'.tmps).run P w' = .ok v w' /\ ∃ v_1 ρ', Ending.returned v = .returned v_1 /\ rav ρ' w' (.one (.sl 4096)) v_1 /\ Mem w.heap.size ⟨fun _ => False, ρ0.ok, ρ0.loc⟩ ρ' [(4096, .arr e τ l false)] w' /\ (∀ d, (AV.one (.sl 4096)).ak d = true -> (Sig.get d [(4096, Blk.arr e τ l false)]).isSome = true) /\ Below w.heap.size w w' := by
      intro ρ' st' a' w' l' b j h' hl hll
      subst hll
      have hres' : lg E st' fn.results.toList = some [st'.sl.getD 2 (.one .und)] := by rw [hres]; rfl
      obtain ⟨us, g1, g2, _⟩ := ej hE h' hres'
      obtain ⟨ρ9, g3, g4, g5⟩ := qv h'.mem g1 hl
      exact ⟨h'.defers, _, jn g2, _, ρ9, rfl, g3, g4.aab hfl, fun d hd => (by have := eq_of_beq hd; subst this; rfl), ⟨h'.fr.os, h'.fr.tape, h'.fr.output, h'.fr.size, fun k hk => h'.fr.block k hk (fun h => h)⟩⟩
    cases hA : A'.isNone with
    | true =>
      rw [hA] at hcv h3
      have hA' : A' = none := by cases A' with | none => rfl | some x => cases hA
      have hl : l = [] := by
        rcases Nat.eq_zero_or_pos l.length with hl | hl
        · exact List.eq_nil_of_length_eq_zero hl
        · obtain ⟨ad, hx, _⟩ := hd3 hl
          rw [hA'] at hx; cases hx
      refine wp_cond_true hcv ?_
      refine cb (R := Ex × St) (r := (Ex.ret, ⟨[.one (.emb e τ l true), .one .und, .one .nil, .one (.emb e τ l true), .one (.bool true), .one .und, .one .und, .one .und], []⟩)) hE hC hD 0 (Oe t) .none _ ρ2 _ w2 (fun e st => some (e, st)) _ ⟨trivial, trivial⟩ h3 rfl fun ex ρ5 st5 a5 w5 hk h5 => ?_
      cases hk
      subst hl
      obtain ⟨u2, hu2, hr2⟩ := h5.sl 2 _ rfl
      have hr2 : u2 = .slice none 0 0 := hr2
      subst hr2
      obtain ⟨us, g1, g2, _⟩ := ej hE h5 (rs := fn.results.toList) (vs := [.one .nil]) (by rw [hres]; rfl)
      obtain ⟨ux, hux, hrx⟩ := g1.single
      subst hux
      have hrx : ux = .slice none 0 0 := hrx
      subst hrx
      refine ⟨h5.defers, _, jn g2, _, ρ5.upd 4096 (.arr (.slice none 0 0) none τ.sz), rfl, ⟨none, τ.sz, aL.cX _ _ _⟩, ?_, fun d hd => ?_, ⟨h5.fr.os, h5.fr.tape, h5.fr.output, h5.fr.size, fun k hk => h5.fr.block k hk (fun h => h)⟩⟩
      · have hno : ∀ i g, ¬ bx (ρ5.upd 4096 (.arr (.slice none 0 0) none τ.sz)) [(4096, Blk.arr e τ [] false)] i g := by
          intro i g ho
          obtain ⟨b, a1, a2, a3⟩ := aI.1 ho
          simp only [Sig.get, aR] at a1
          split at a1
          · rename_i hi
            have hi := eq_of_beq hi
            subst hi
            cases a1
            rcases a3 with ⟨_, _, a3, _⟩ | ⟨_, _, _, _, _, v, sz, a3⟩
            · cases a3
            · rw [aL.cX] at a3; cases a3
          · cases a1
        refine ⟨fun i b hi => ?_, fun i k g h1 => (hno i g h1).elim, fun i g h1 => (hno i g h1).elim, h5.mem.okb, fun q g hq i h1 => (hno i g h1).elim, h5.mem.okm, h5.mem.okx, h5.mem.oky, fun i b d hi hd => ?_⟩
        · simp only [Sig.get, aR] at hi
          split at hi
          · rename_i hc
            have hc := eq_of_beq hc
            subst hc
            cases hi
            exact ⟨.slice none 0 0, none, [], aL.cX _ _ _, ⟨by simp, fun j p hp => by simp at hp⟩, rfl, none, rfl⟩
          · cases hi
        · simp only [Sig.get, aR] at hi
          split at hi
          · cases hi; cases hd
          · cases hi
      · have := eq_of_beq hd
        subst this
        rfl
    | false =>
      rw [hA] at hcv h3
      refine wp_cond_false hcv (wp_skip ?_)
      have hcode : di E (fun _ _ _ => none) (fun _ _ _ _ => false) 0 (CW t) .none ⟨[.one (.emb e τ l true), .one .und, .one .nil, .one (.emb e τ l true), .one (.bool false), .one .und, .one .und, .one .und], []⟩ (fun e st => some (e, st)) =
          some (Ex.ret, ⟨[.one (.emb e τ l true), .one .und, .one (.sl 5), .one (.emb e τ l true), .one (.bool false), .one .und, .one (.emb e τ l true), .one (.sl 5)], [(5, .arr e τ ([] ++ l) (false || (true && !τ.flat)))]⟩) := by
        have hin : (l.length * by_ <= 140737488351232) := hc
        have e1 : Nat.blt 5 4294967296 = true := rfl
        have e2 : Nat.ble 0 16777216 = true := rfl
        have e3 : (by_ != 0) = true := by simpa using hby
        simp [CW, LT.l, LT.r, e1, e2, e3, di, bB, exec, cA, ht, he, Sig.free, Sig.get, cm, aJ, kp, rowOf, target, St.ca, Sig.put, Sig.bq, St.put, qop, AV.bq, Cell.bq, Blk.bq, hc, hby, PIN]
      refine cb (R := Ex × St) (r := _) hE hC hD 0 (CW t) .none _ ρ2 _ w2 (fun e st => some (e, st)) _ ⟨trivial, trivial⟩ h3 hcode fun ex ρ5 st5 a5 w5 hk h5 => ?_
      cases hk
      exact fin ρ5 _ a5 w5 ([] ++ l) (false || (true && !τ.flat)) 5 h5 rfl (List.nil_append l)
  · rw [decide_eq_false hc] at hv
    cases hv
end
end Go.Proofs.YtahlaccdpmddbaaGreat.Lib
namespace Go.Proofs.YtahlaccdpmddbaaGreat.Lib
open Go Go.RowKit
set_option linter.unusedVariables false
theorem ba {n : Int} (h0 : -9223372036854775808 <= n) (h1 : n <= 9223372036854775807) : IntKind.wrap .i64 n = n := by
 simp only [IntKind.wrap, IntKind.bits, IntKind.signed, Bool.true_and]
 split
 ·rename_i h
  simp only [decide_eq_true_eq, ge_iff_le] at h
  omega
 ·rename_i h
  simp only [decide_eq_true_eq, ge_iff_le] at h
  omega
theorem bE {n : Nat} (h1 : (n : Int) + 1 <= 9223372036854775807) : IntKind.wrap .i64 ((n : Int) + 1) = ((n + 1 : Nat) : Int) := by
 rw [ba (by omega) h1]; rfl
theorem ay {α R : Type} (x : α) (f : α -> Option R) : bc (some x) f = f x := rfl
section
variable {V X Y : Type}
theorem fold_iter {A : Type} {s : V -> Option (Nat × V)} {mk : A -> Int -> V} {xs : List X} {f : A -> X -> A} {Inv : Nat -> A -> Prop}
  (h1 : ∀ (i : Nat) (x : X) (a : A), xs[i]? = some x -> Inv i a -> s (mk a (i : Int)) = some (0, mk (f a x) ((i + 1 : Nat) : Int)) /\ Inv (i + 1) (f a x))
  (h2 : ∀ a, s (mk a (xs.length : Int)) = some (1, mk a (xs.length : Int))) :
  ∀ (k i : Nat) (a : A) (n : Nat), i + k = xs.length -> k < n -> Inv i a -> iter s n (mk a (i : Int)) = some (0, mk ((xs.drop i).foldl f a) (xs.length : Int))
 | 0, i, a, n, hk, hn, hI => by
  obtain ⟨m, rfl⟩ : ∃ m, n = m + 1 := ⟨n - 1, by omega⟩
  have hi : i = xs.length := by omega
  subst hi
  rw [iter, h2 a, List.drop_eq_nil_of_le (Nat.le_refl _)]
  rfl
 | k + 1, i, a, n, hk, hn, hI => by
  obtain ⟨m, rfl⟩ : ∃ m, n = m + 1 := ⟨n - 1, by omega⟩
  have hi : i < xs.length := by omega
  obtain ⟨h3, h4⟩ := h1 i xs[i] a (List.getElem?_eq_getElem hi) hI
  rw [iter, h3, List.drop_eq_getElem_cons hi]
  exact fold_iter h1 h2 k (i + 1) (f a xs[i]) m (by omega) (by omega) h4
theorem bg {s : V -> Option (Nat × V)} {n : Nat} {v v' : V} {c : Nat} (h : iter s n v = some (c, v')) (d : Nat) : mj s n v d = (c == d) := by unfold mj; rw [h]
theorem bD {s : V -> Option (Nat × V)} {n : Nat} {v v' : V} {c : Nat} (h : iter s n v = some (c, v')) : th s n v = v' := by unfold th; rw [h]
def first (p : Nat -> Bool) : Nat -> Nat -> Option Nat
 | _, 0 => none
 | i, k + 1 => bif p i then some i else first p (i + 1) k
theorem pF {p : Nat -> Bool} : ∀ {k i : Nat}, first p i k = none -> ∀ j, i <= j -> j < i + k -> p j = false
 | 0, i, _, j, h1, h2 => by omega
 | k + 1, i, h, j, h1, h2 => by
  simp only [first] at h
  cases hp : p i with
  | true => rw [hp] at h; cases h
  | false =>
   rw [hp] at h
   by_cases hj : j = i
   ·subst hj; exact hp
   ·exact pF (k := k) (i := i + 1) h j (by omega) (by omega)
theorem gN {p : Nat -> Bool} : ∀ {k i j : Nat}, first p i k = some j -> i <= j /\ j < i + k /\ p j = true
 | 0, i, j, h => by cases h
 | k + 1, i, j, h => by
  simp only [first] at h
  cases hp : p i with
  | true => rw [hp] at h; cases h; exact ⟨by omega, by omega, hp⟩
  | false =>
   rw [hp] at h
   obtain ⟨h1, h2, h3⟩ := gN (k := k) (i := i + 1) h
   exact ⟨by omega, by omega, h3⟩
theorem dm {s : V -> Option (Nat × V)} {mk : Int -> V} {fin : Nat -> V} {p : Nat -> Bool} {N : Nat}
  (h1 : ∀ i : Nat, i < N -> s (mk (i : Int)) = bif p i then some (1, fin i) else some (0, mk ((i + 1 : Nat) : Int)))
  (h2 : s (mk (N : Int)) = some (2, mk (N : Int))) :
  ∀ (k i : Nat) (n : Nat), i + k = N -> k < n -> iter s n (mk (i : Int)) = some (match first p i k with | some j => (0, fin j) | none => (1, mk (N : Int)))
 | 0, i, n, hk, hn => by
  obtain ⟨m, rfl⟩ : ∃ m, n = m + 1 := ⟨n - 1, by omega⟩
  have hi : i = N := by omega
  subst hi
  rw [iter, h2]
  rfl
 | k + 1, i, n, hk, hn => by
  obtain ⟨m, rfl⟩ : ∃ m, n = m + 1 := ⟨n - 1, by omega⟩
  rw [iter, h1 i (by omega)]
  simp only [first]
  cases hp : p i with
  | true => rfl
  | false => exact dm h1 h2 k (i + 1) m (by omega) (by omega)
theorem gI {p : X -> Bool} {xs : List X} {q : Nat -> Bool} (hq : ∀ (i : Nat) (x : X), xs[i]? = some x -> q i = p x) : (first q 0 xs.length).isSome = xs.any p := by
 cases h : first q 0 xs.length with
 | none =>
  have h0 := pF h
  symm
  rw [Option.isSome_none, List.any_eq_false]
  intro x hx
  obtain ⟨i, hi⟩ := List.getElem?_of_mem hx
  have hlt := (List.getElem?_eq_some_iff.1 hi).1
  rw [← hq i x hi, h0 i (Nat.zero_le _) (by omega)]
  simp
 | some j =>
  obtain ⟨h1, h2, h3⟩ := gN h
  have hj : j < xs.length := by omega
  symm
  rw [Option.isSome_some, List.any_eq_true]
  exact ⟨xs[j], List.getElem_mem hj, by rw [← hq j _ (List.getElem?_eq_getElem hj)]; exact h3⟩
end
end Go.Proofs.YtahlaccdpmddbaaGreat.Lib
namespace Go.Proofs.YtahlaccdpmddbaaGreat.Lib
open Go Go.RowKit
set_option linter.unusedVariables false
section
variable {α β : Type}
theorem K8 {b : Bool} {x y : Option α} {z : α} : (cond b x y).getD z = cond b (x.getD z) (y.getD z) := by cases b <;> rfl
theorem EN {b : Bool} {x y : Option α} : (cond b x y).isSome = cond b x.isSome y.isSome := by cases b <;> rfl
theorem QM {x z : α} : (some x).getD z = x := rfl
theorem QU {z : α} : (none : Option α).getD z = z := rfl
theorem Ly {x : α} : (some x).isSome = true := rfl
theorem Kn : (none : Option α).isSome = false := rfl
theorem Oz {o : Option β} {f : β -> Option α} {z : α} : (bc o f).getD z = yF o z fun x => (f x).getD z := by cases o <;> rfl
theorem HR {o : Option β} {f : β -> Option α} : (bc o f).isSome = ua o fun x => (f x).isSome := by cases o <;> rfl
theorem isSome_ite {p : Prop} [Decidable p] {x : Option α} : (if p then x else none).isSome = (decide p && x.isSome) := by by_cases h : p <;> simp [h]
theorem It {p : Prop} [Decidable p] {x : Option α} : (if p then none else x).isSome = (!decide p && x.isSome) := by by_cases h : p <;> simp [h]
end
def Sat {α : Type} (o : Option α) (P : α -> Prop) : Prop := ∃ r, o = some r /\ P r
section
variable {α β V : Type} {P Q : α -> Prop}
theorem ab {a : α} : Sat (some a) P = P a := propext ⟨fun ⟨r, h1, h2⟩ => by cases h1; exact h2, fun h => ⟨a, rfl, h⟩⟩
theorem aG : Sat (none : Option α) P = False := propext ⟨fun ⟨r, h1, h2⟩ => (by cases h1), False.elim⟩
theorem aF {b : Bool} {x y : Option α} : Sat (cond b x y) P = ((b = true -> Sat x P) /\ (b = false -> Sat y P)) := by
 cases b <;> simp
theorem aV {p : Prop} [Decidable p] {x : Option α} : Sat (if p then x else none) P = (p /\ Sat x P) := by
 by_cases h : p <;> simp [h, aG]
theorem aU {p : Prop} [Decidable p] {x : Option α} : Sat (if p then none else x) P = (¬p /\ Sat x P) := by
 by_cases h : p <;> simp [h, aG]
theorem aT {o : Option β} {f : β -> Option α} : Sat (bc o f) P = ∃ b, o = some b /\ Sat (f b) P := by
 cases o with
 | none => exact propext ⟨fun ⟨r, h1, h2⟩ => (by cases h1), fun ⟨b, h1, h2⟩ => (by cases h1)⟩
 | some x => exact propext ⟨fun h => ⟨x, rfl, h⟩, fun ⟨b, h1, h2⟩ => by cases h1; exact h2⟩
theorem Sat.d {o : Option α} (h : Sat o P) : o.isSome = true := by obtain ⟨r, rfl, _⟩ := h; rfl
theorem Sat.v {o : Option α} {z : α} (h : Sat o P) : P (o.getD z) := by obtain ⟨r, rfl, h⟩ := h; exact h
theorem Sat.mono {o : Option α} (h : Sat o P) (hq : ∀ r, P r -> Q r) : Sat o Q := by obtain ⟨r, rfl, h⟩ := h; exact ⟨r, rfl, hq r h⟩
theorem He {l : List β} {i : Int} (h0 : 0 <= i) (h1 : i < (l.length : Int)) : ∃ b, l[i.toNat]? = some b /\ b ∈ l := ⟨l[i.toNat]'(by omega), List.getElem?_eq_getElem _, List.getElem_mem _⟩
theorem vY {s : V -> Option (Nat × V)} {Q : V -> Prop} (Inv : Nat -> V -> Prop) (h : ∀ k v, Inv k v -> (∃ v', s v = some (1, v') /\ Q v') ∨ (∃ k' v', k = k' + 1 /\ s v = some (0, v') /\ Inv k' v')) : ∀ (k : Nat) (v : V) (n : Nat), Inv k v -> k < n -> ∃ v', iter s n v = some (0, v') /\ Q v'
 | k, v, 0, _, hn => by omega
 | k, v, n + 1, hI, hn => by
  rcases h k v hI with ⟨v', h1, h2⟩ | ⟨k', v', rfl, h1, h2⟩
  ·exact ⟨v', by simp [iter, h1], h2⟩
  ·obtain ⟨v2, h3, h4⟩ := vY Inv h k' v' n h2 (by omega)
   exact ⟨v2, by simp [iter, h1, h3], h4⟩
theorem eP {s : V -> Option (Nat × V)} {Q : V -> Prop} (Inv : Nat -> V -> Prop) (h : ∀ k v, Inv k v -> Sat (s v) fun r => (r.1 = 1 /\ Q r.2) ∨ (r.1 = 0 /\ ∃ k', k = k' + 1 /\ Inv k' r.2)) (k : Nat) (v : V) (n : Nat) (hI : Inv k v) (hn : k < n) : (mj s n v 0 = true /\ ∀ c, mj s n v (c + 1) = false) /\ Q (th s n v) := by
 obtain ⟨v', h1, h2⟩ := vY (s := s) (Q := Q) Inv (fun k v hI => by
  obtain ⟨⟨c, v'⟩, h1, h2⟩ := h k v hI
  rcases h2 with ⟨rfl, h2⟩ | ⟨rfl, k', h3, h4⟩
  ·exact .inl ⟨v', h1, h2⟩
  ·exact .inr ⟨k', v', h3, h1, h4⟩) k v n hI hn
 exact ⟨⟨bg h1 0, fun c => bg h1 _⟩, by rw [bD h1]; exact h2⟩
end
def Ty.few (B : Nat) : (t : Ty) -> t.T -> Prop
 | .sl _ t, l => l.length <= B /\ ∀ x, x ∈ l -> t.few B x
 | .pair a b, p => a.few B p.1 /\ b.few B p.2
 | _, _ => True
theorem pZ {B C : Nat} (hB : B <= C) : ∀ (t : Ty) (x : t.T), t.few B x -> t.few C x
 | .sl _ t, l, h => ⟨Nat.le_trans h.1 hB, fun x hx => pZ hB t x (h.2 x hx)⟩
 | .pair a b, p, h => ⟨pZ hB a p.1 h.1, pZ hB b p.2 h.2⟩
 | .int _, _, _ => trivial
 | .bool, _, _ => trivial
 | .str, _, _ => trivial
 | .nul _, _, _ => trivial
def Ty.FW : Ty -> Bool
 | .sl _ _ => false | .pair a b => a.FW && b.FW | _ => true
theorem yd {B : Nat} : ∀ (t : Ty), t.FW = true -> ∀ x : t.T, t.few B x
 | .sl _ _, h, _ => by cases h
 | .pair a b, h, p => ⟨yd a (Bool.and_eq_true _ _ ▸ h : a.FW = true /\ b.FW = true).1 p.1, yd b (Bool.and_eq_true _ _ ▸ h : a.FW = true /\ b.FW = true).2 p.2⟩
 | .int _, _, _ => trivial
 | .bool, _, _ => trivial
 | .str, _, _ => trivial
 | .nul _, _, _ => trivial
theorem QF {B e : Nat} {t : Ty} (ht : t.FW = true) {l : List t.T} (h : l.length <= B) : Ty.few B (.sl e t) l := ⟨h, fun x _ => yd t ht x⟩
theorem bL {B e : Nat} {t : Ty} {l : List t.T} (h : l = []) : Ty.few B (.sl e t) l = True := propext ⟨fun _ => trivial, fun _ => by subst h; exact ⟨Nat.zero_le _, fun _ h => absurd h List.not_mem_nil⟩⟩
theorem bj {B : Nat} {a b : Ty} {p : (Ty.pair a b).T} : Ty.few B (.pair a b) p = (a.few B p.1 /\ b.few B p.2) := propext ⟨fun h => h, fun h => h⟩
theorem bJ {B : Nat} {k : IntKind} {x : (Ty.int k).T} : Ty.few B (.int k) x = True := propext ⟨fun _ => trivial, fun _ => trivial⟩
theorem bl {B : Nat} {x : Ty.bool.T} : Ty.few B .bool x = True := propext ⟨fun _ => trivial, fun _ => trivial⟩
theorem bK {B : Nat} {x : Ty.str.T} : Ty.few B .str x = True := propext ⟨fun _ => trivial, fun _ => trivial⟩
theorem bH {B : Nat} {b : Bool} {x : (Ty.nul b).T} : Ty.few B (.nul b) x = True := propext ⟨fun _ => trivial, fun _ => trivial⟩
theorem dK {V : Type} {s : V -> Option (Nat × V)} {f : Nat -> V} {c N : Nat} {v' : V} (h1 : ∀ i, i < N -> s (f i) = some (0, f (i + 1))) (h2 : s (f N) = some (c + 1, v')) : ∀ (k i n : Nat), i + k = N -> k < n -> iter s n (f i) = some (c, v')
 | 0, i, n, hk, hn => by
  obtain ⟨n, rfl⟩ : ∃ m, n = m + 1 := ⟨n - 1, by omega⟩
  have : i = N := by omega
  subst this
  rw [iter, h2]
  rfl
 | k + 1, i, n, hk, hn => by
  obtain ⟨n, rfl⟩ : ∃ m, n = m + 1 := ⟨n - 1, by omega⟩
  rw [iter, h1 i (by omega)]
  exact dK h1 h2 k (i + 1) n (by omega) (by omega)
theorem dV {α : Type} {xs : List α} {i : Nat} {x : α} (h : xs[i]? = some x) : xs.take (i + 1) = xs.take i ++ [x] := by rw [List.take_add_one, h]; rfl
theorem pH {α β : Type} {f : β -> α -> β} {b : β} {xs : List α} {i : Nat} {x : α} (h : xs[i]? = some x) : (xs.take (i + 1)).foldl f b = f ((xs.take i).foldl f b) x := by rw [dV h, List.foldl_append]; rfl
theorem fP {α : Type} {p : α -> Bool} {xs : List α} {i : Nat} {x : α} (h : xs[i]? = some x) : (xs.take (i + 1)).filter p = (xs.take i).filter p ++ cond (p x) [x] [] := by rw [dV h, List.filter_append]; cases hp : p x <;> simp [hp]
theorem ED {V K : Type} {s : V -> Option (Nat × V)} {mk : K -> V} {Inv : Nat -> K -> Prop} {Q : V -> Prop} {c N : Nat}
  (h1 : ∀ i k, i < N -> Inv i k -> ∃ k', s (mk k) = some (0, mk k') /\ Inv (i + 1) k') (h2 : ∀ k, Inv N k -> ∃ v', s (mk k) = some (c + 1, v') /\ Q v') :
  ∀ (m i n : Nat) (k : K), i + m = N -> m < n -> Inv i k -> ∃ v', iter s n (mk k) = some (c, v') /\ Q v'
 | 0, i, n, k, hm, hn, hI => by
  obtain ⟨n, rfl⟩ : ∃ n', n = n' + 1 := ⟨n - 1, by omega⟩
  have : i = N := by omega
  subst this
  obtain ⟨v', h3, h4⟩ := h2 k hI
  refine ⟨v', ?_, h4⟩
  rw [iter, h3]
  rfl
 | m + 1, i, n, k, hm, hn, hI => by
  obtain ⟨n, rfl⟩ : ∃ n', n = n' + 1 := ⟨n - 1, by omega⟩
  obtain ⟨k', h3, h4⟩ := h1 i k (by omega) hI
  obtain ⟨v', h5, h6⟩ := ED h1 h2 m (i + 1) n k' (by omega) (by omega) h4
  refine ⟨v', ?_, h6⟩
  rw [iter, h3]
  exact h5
theorem Li {α : Type} {q : α -> Bool} {xs m : List α} {i j : Nat} {x : α} (hx : xs[j]? = some x) (hij : i < j) (hl : m.length = xs.length) (ht : m.take i = (xs.take j).filter q) (hd : ∀ t, j <= t -> m[t]? = xs[t]?) (hq : q x = true) :
  i + 1 < j + 1 /\ (m.set i x).length = xs.length /\ (m.set i x).take (i + 1) = (xs.take (j + 1)).filter q /\ ∀ t, j + 1 <= t -> (m.set i x)[t]? = xs[t]? := by
 have hj := (List.getElem?_eq_some_iff.1 hx).1
 refine ⟨by omega, by simpa using hl, ?_, fun t h => ?_⟩
 ·rw [fP hx, ← ht, hq, dV (x := x) (by rw [List.getElem?_set_self (by omega)]), List.take_set_of_le (Nat.le_refl _)]
  rfl
 ·rw [List.getElem?_set_ne (by omega)]
  exact hd t (by omega)
theorem K3 {α : Type} {q : α -> Bool} {xs m : List α} {i j : Nat} {x : α} (hx : xs[j]? = some x) (hij : i < j) (ht : m.take i = (xs.take j).filter q) (hd : ∀ t, j <= t -> m[t]? = xs[t]?) (hq : q x = false) :
  i < j + 1 /\ m.take i = (xs.take (j + 1)).filter q /\ ∀ t, j + 1 <= t -> m[t]? = xs[t]? := by
 refine ⟨by omega, ?_, fun t h => hd t (by omega)⟩
 rw [fP hx, ← ht, hq]
 simp
theorem yN {p : Nat -> Bool} : ∀ {k i j : Nat}, first p i k = some j -> ∀ t, i <= t -> t < j -> p t = false
 | 0, i, j, h, _, _, _ => by cases h
 | k + 1, i, j, h, t, h1, h2 => by
  simp only [first] at h
  cases hp : p i with
  | true =>
   rw [hp] at h
   simp at h
   omega
  | false =>
   rw [hp] at h
   simp at h
   rcases Nat.lt_or_ge i t with h3 | h3
   ·exact yN h t (by omega) h2
   ·have : t = i := by omega
    subst this
    exact hp
theorem zk {α : Type} {p : α -> Bool} {xs : List α} {j : Nat} (h : ∀ t x, t < j -> xs[t]? = some x -> p x = false) (hj : j <= xs.length) : xs.take j = (xs.take j).filter fun x => !p x := by
 symm
 rw [List.filter_eq_self]
 intro x hx
 obtain ⟨t, ht, rfl⟩ := List.mem_iff_getElem.1 hx
 rw [List.length_take] at ht
 rw [List.getElem_take, h t _ (by omega) (List.getElem?_eq_getElem (by omega))]
 rfl
end Go.Proofs.YtahlaccdpmddbaaGreat.Lib
