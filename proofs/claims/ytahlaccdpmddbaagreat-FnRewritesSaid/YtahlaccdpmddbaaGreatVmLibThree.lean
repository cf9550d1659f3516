/- An interpreter Nq plain values for translated functions, and that it says what the model does (calls, statements, loops, arguments). No condition. -/
import Derived.Test.YtahlaccdpmddbaaGreatVmLibTwo
import Derived.StillTail
import Derived.WalkKit
import Derived.ProofKit
import Derived.OpenShut
import Derived.ShutString
import Derived.ChangeOld
import Derived.Below
import Derived.Shelf.Vars
import Derived.SizedLaws
import Derived.WalkSpells
import Derived.KernelRfl
namespace Go.Proofs.YtahlaccdpmddbaaGreat.Lib
open Go Go.RowKit
set_option linter.unusedVariables false
set_option linter.unusedSimpArgs false
section
variable {P : Program} {E : Env} {call : bh} {R : Type} {r : R} {W : Nat -> Nat -> Bool} {G : List Oper}
def txt (E : Env) (call : bh) (G l : List Oper) (st : St) : Nat -> St
 | 0 => st
 | j + 1 => match l[j]? with
  | some o => (match gop E call G (txt E call G l st j).sg (aF (txt E call G l st j).sl) o with
   | some p => aft o p (txt E call G l st j)
   | none => txt E call G l st j)
  | none => txt E call G l st j
def Val (E : Env) (call : bh) (G l : List Oper) (st : St) (j : Nat) (o : Oper) (p : AV × Sig) : Prop :=
 l[j]? = some o /\ dY E o = true /\ gop E call G (txt E call G l st j).sg (aF (txt E call G l st j).sl) o = some p /\ (cT o = false -> ∀ q ∈ p.2, (txt E call G l st j).sg.get q.1 = none)
theorem Val.uniq {l : List Oper} {st : St} {j : Nat} {o o' : Oper} {p p' : AV × Sig} (h : Val E call G l st j o p) (h' : Val E call G l st j o' p') : o = o' /\ p = p' := by
 have h1 : o = o' := Option.some.inj (h.1.symm.trans h'.1)
 subst h1
 exact ⟨rfl, Option.some.inj (h.2.2.1.symm.trans h'.2.2.1)⟩
theorem Val.succ {l : List Oper} {st : St} {j : Nat} {o : Oper} {p : AV × Sig} (h : Val E call G l st j o p) : txt E call G l st (j + 1) = aft o p (txt E call G l st j) := by
 simp only [txt, h.1, h.2.2.1]
theorem zS {l : List Oper} {st : St} {k : St -> Option R} : ∀ n, n <= l.length -> (l.take n).all (dY E) = true -> (∀ j o, j < n -> l[j]? = some o -> cT o = true -> (gop E call G (txt E call G l st j).sg (aF (txt E call G l st j).sl) o).isSome = true) -> bJ E call G l st k = some r ->
  bJ E call G (l.drop n) (txt E call G l st n) k = some r /\ ∀ j, j < n -> ∃ o p, Val E call G l st j o p
 | 0, _, _, _, h => ⟨h, fun j hj => by omega⟩
 | n + 1, hn, hh, hst, h => by
  have hlt : n < l.length := by omega
  have hh' : (l.take n).all (dY E) = true := by
   rw [List.all_eq_true] at hh ⊢
   intro o ho
   exact hh o (by rw [List.take_add_one]; exact List.mem_append_left _ ho)
  have ho : dY E l[n] = true := by
   rw [List.all_eq_true] at hh
   refine hh _ ?_
   rw [List.mem_take_iff_getElem]
   exact ⟨n, by omega, rfl⟩
  obtain ⟨h1, h2⟩ := zS n (by omega) hh' (fun j o hj => hst j o (by omega)) h
  rw [List.drop_eq_getElem_cons hlt] at h1
  obtain ⟨p, h3, h4, h5⟩ := WO ho (fun hs => hst n _ (by omega) (List.getElem?_eq_getElem hlt) hs) h1
  have hv : Val E call G l st n l[n] p := ⟨List.getElem?_eq_getElem hlt, ho, h3, h4⟩
  refine ⟨by rw [hv.succ]; exact h5, fun j hj => ?_⟩
  by_cases hjn : j = n
  ·subst hjn; exact ⟨_, _, hv⟩
  ·exact h2 j (by omega)
theorem wP {a b : Sig} {i : Nat} {x : Blk} (h : (a ++ b).get i = some x) (hf : ∀ q ∈ a, b.get q.1 = none) : Sig.get i a = some x ∨ (Sig.get i a = none /\ Sig.get i b = some x) := by
 rw [Sig.get_append] at h
 cases ha : Sig.get i a with
 | none => rw [ha] at h; exact .inr ⟨rfl, by simpa using h⟩
 | some y => rw [ha] at h; exact .inl (by simpa using h)
theorem KB (o : Oper) (p : AV × Sig) (s : St) : (aft o p s).sg = Pu (cT o) p.2 s.sg := by
 unfold aft; cases o.dst <;> rfl
theorem Df (o : Oper) (p : AV × Sig) (s : St) (t : Nat) : (aft o p s).sl[t]? = if o.dst = some t then (if t < s.sl.length then some p.1 else none) else s.sl[t]? := by
 unfold aft
 cases hd : o.dst with
 | none => simp [St.put]
 | some d =>
  simp only [St.put, List.getElem?_set, Option.some.injEq]
  split
  ·rename_i hdt; subst hdt; split <;> rfl
  ·rfl
theorem KN (o : Oper) (p : AV × Sig) (s : St) : (aft o p s).sl.length = s.sl.length := by
 unfold aft; cases o.dst <;> simp [St.put]
structure ni (E : Env) (call : bh) (G l : List Oper) (st : St) (n : Nat) (W : Nat -> Nat -> Bool) : Prop where
 one : ∀ j k o o' p p' i, j < n -> k < n -> Val E call G l st j o p -> Val E call G l st k o' p' -> cT o = true -> cT o' = true -> (Sig.get i p.2).isSome = true -> (Sig.get i p'.2).isSome = true -> j = k
 made : ∀ j k o o' p p' i, j < n -> k < n -> Val E call G l st j o p -> Val E call G l st k o' p' -> cT o = true -> cT o' = false -> (Sig.get i p.2).isSome = true -> (Sig.get i p'.2).isSome = true -> k < j /\ W j k = true
 free : ∀ j m o o' p i t v, j < n -> m < n -> j ≠ m -> Val E call G l st j o p -> l[m]? = some o' -> cT o = true -> (Sig.get i p.2).isSome = true -> .tmp t ∈ opn G o' -> (txt E call G l st m).sl[t]? = some v -> v.ak i = false
 shape : ∀ j o p, j < n -> Val E call G l st j o p -> cT o = true -> ∃ i b, p.2 = [(i, b)] /\ ((txt E call G l st j).sg.get i).isSome = true
def Made (E : Env) (call : bh) (G l : List Oper) (st : St) (n : Nat) (L : Nat -> Prop) (i : Nat) (b : Blk) : Prop :=
 st.sg.get i = some b ∨ ∃ j o p, j < n /\ L j /\ Val E call G l st j o p /\ cT o = false /\ Sig.get i p.2 = some b
def fB (E : Env) (call : bh) (G l : List Oper) (st : St) (n : Nat) (L : Nat -> Prop) (i : Nat) (b : Blk) : Prop :=
 ∃ j o p, j < n /\ L j /\ Val E call G l st j o p /\ cT o = true /\ Sig.get i p.2 = some b
structure Part (E : Env) (call : bh) (G l : List Oper) (st : St) (n : Nat) (L : Nat -> Prop) (s : St) : Prop where
 len : s.sl.length = st.sl.length
 wr : ∀ j o p t, j < n -> L j -> Val E call G l st j o p -> o.dst = some t -> t < st.sl.length -> s.sl[t]? = some p.1
 un : ∀ t, (∀ j o, j < n -> L j -> l[j]? = some o -> o.dst ≠ some t) -> s.sl[t]? = st.sl[t]?
 sg : ∀ i b, s.sg.get i = some b ↔ fB E call G l st n L i b ∨ ((∀ b', ¬ fB E call G l st n L i b') /\ Made E call G l st n L i b)
theorem Part.start {l : List Oper} {st : St} {n : Nat} {L : Nat -> Prop} (hL : ∀ j, j < n -> ¬ L j) : Part E call G l st n L st :=
 ⟨rfl, fun j o p t hj hl => absurd hl (hL j hj), fun t _ => rfl, fun i b => ⟨fun h => .inr ⟨fun b' ⟨j, o, p, hj, hl, _⟩ => hL j hj hl, .inl h⟩, fun h => by
  rcases h with ⟨j, o, p, hj, hl, _⟩ | ⟨_, h | ⟨j, o, p, hj, hl, _⟩⟩
  ·exact absurd hl (hL j hj)
  ·exact h
  ·exact absurd hl (hL j hj)⟩⟩
theorem Part.step {l : List Oper} {st s : St} {n j : Nat} {L L' : Nat -> Prop} {o : Oper} {p : AV × Sig} (SO : ni E call G l st n W) (h : Part E call G l st n L s) (hj : j < n) (hn : ¬ L j) (hv : Val E call G l st j o p) (hL : ∀ i, L' i ↔ L i ∨ i = j)
  (hu : ∀ i o' t, i < n -> l[i]? = some o' -> o'.dst = some t -> o.dst = some t -> i = j) (hf : cT o = false -> ∀ q ∈ p.2, s.sg.get q.1 = none)
  (hbe : cT o = false -> ∀ k o' p' i, k < n -> L k -> Val E call G l st k o' p' -> cT o' = true -> (Sig.get i p.2).isSome = true -> Sig.get i p'.2 = none) : Part E call G l st n L' (aft o p s) := by
 refine ⟨by rw [KN, h.len], fun i o' p' t hi hl' hv' ht hlt => ?_, fun t ht => ?_, fun i b => ?_⟩
 ·rw [Df]
  split
  ·rename_i hd
   have hij := hu i o' t hi hv'.1 ht hd
   subst hij
   obtain ⟨_, rfl⟩ := hv.uniq hv'
   rw [if_pos (by rw [h.len]; exact hlt)]
  ·rename_i hd
   rcases (hL i).1 hl' with hl | rfl
   ·exact h.wr i o' p' t hi hl hv' ht hlt
   ·obtain ⟨rfl, _⟩ := hv.uniq hv'
    exact absurd ht hd
 ·rw [Df, if_neg (ht j o hj ((hL j).2 (.inr rfl)) hv.1)]
  exact h.un t fun i o' hi hl ho => ht i o' hi ((hL i).2 (.inl hl)) ho
 ·rw [KB]
  have stored_old : ∀ i b, fB E call G l st n L i b -> fB E call G l st n L' i b := fun i b ⟨k, o', p', h1, h2, h3⟩ => ⟨k, o', p', h1, (hL k).2 (.inl h2), h3⟩
  have made_old : ∀ i b, Made E call G l st n L i b -> Made E call G l st n L' i b := fun i b h => h.imp id fun ⟨k, o', p', h1, h2, h3⟩ => ⟨k, o', p', h1, (hL k).2 (.inl h2), h3⟩
  cases hs : cT o with
  | true =>
   obtain ⟨i0, b0, hp, _⟩ := SO.shape j o p hj hv hs
   rw [hp]
   show (s.sg.put i0 b0).get i = some b ↔ _
   rw [Sig.cA]
   have new : fB E call G l st n L' i0 b0 := ⟨j, o, p, hj, (hL j).2 (.inr rfl), hv, hs, by rw [hp]; simp [Sig.get]⟩
   have only : ∀ b', fB E call G l st n L' i0 b' -> b' = b0 := by
    rintro b' ⟨k, o', p', h1, h2, h3, h4, h5⟩
    have hjk := SO.one j k o o' p p' i0 hj h1 hv h3 hs h4 (by rw [hp]; simp [Sig.get]) (by rw [h5]; rfl)
    subst hjk
    obtain ⟨rfl, rfl⟩ := hv.uniq h3
    rw [hp] at h5
    simp [Sig.get] at h5
    exact h5.symm
   by_cases hi : i0 = i
   ·subst hi
    rw [if_pos rfl]
    constructor
    ·intro hb; cases hb; exact .inl new
    ·rintro (hb | ⟨hb, _⟩)
     ·rw [only b hb]
     ·exact absurd new (hb b0)
   ·rw [if_neg hi, h.sg]
    have back : ∀ b', fB E call G l st n L' i b' -> fB E call G l st n L i b' := by
     rintro b' ⟨k, o', p', h1, h2, h3, h4, h5⟩
     rcases (hL k).1 h2 with h2 | rfl
     ·exact ⟨k, o', p', h1, h2, h3, h4, h5⟩
     ·obtain ⟨rfl, rfl⟩ := hv.uniq h3
      rw [hp] at h5
      simp only [Sig.get, beq_eq_false_iff_ne.2 hi, cond_false] at h5
      cases h5
    have backM : ∀ b', Made E call G l st n L' i b' -> Made E call G l st n L i b' := by
     rintro b' (h1 | ⟨k, o', p', h1, h2, h3, h4, h5⟩)
     ·exact .inl h1
     ·rcases (hL k).1 h2 with h2 | rfl
      ·exact .inr ⟨k, o', p', h1, h2, h3, h4, h5⟩
      ·obtain ⟨rfl, rfl⟩ := hv.uniq h3
       rw [hs] at h4; cases h4
    constructor
    ·rintro (h1 | ⟨h1, h2⟩)
     ·exact .inl (stored_old i b h1)
     ·exact .inr ⟨fun b' hb' => h1 b' (back b' hb'), made_old i b h2⟩
    ·rintro (h1 | ⟨h1, h2⟩)
     ·exact .inl (back b h1)
     ·exact .inr ⟨fun b' hb' => h1 b' (stored_old i b' hb'), backM b h2⟩
  | false =>
   have hf := hf hs
   have backS : ∀ b', fB E call G l st n L' i b' -> fB E call G l st n L i b' := by
    rintro b' ⟨k, o', p', h1, h2, h3, h4, h5⟩
    rcases (hL k).1 h2 with h2 | rfl
    ·exact ⟨k, o', p', h1, h2, h3, h4, h5⟩
    ·obtain ⟨rfl, rfl⟩ := hv.uniq h3
     rw [hs] at h4; cases h4
   show (p.2 ++ s.sg).get i = some b ↔ _
   constructor
   ·intro hb
    rcases wP hb hf with hb | ⟨_, hb⟩
    ·refine .inr ⟨fun b' hb' => ?_, .inr ⟨j, o, p, hj, (hL j).2 (.inr rfl), hv, hs, hb⟩⟩
     obtain ⟨k, o', p', h1, h2, h3, h4, h5⟩ := backS b' hb'
     rw [hbe hs k o' p' i h1 h2 h3 h4 (by rw [hb]; rfl)] at h5
     cases h5
    ·rcases (h.sg i b).1 hb with h1 | ⟨h1, h2⟩
     ·exact .inl (stored_old i b h1)
     ·exact .inr ⟨fun b' hb' => h1 b' (backS b' hb'), made_old i b h2⟩
   ·intro hb
    have old : s.sg.get i = some b -> (p.2 ++ s.sg).get i = some b := by
     intro hs
     rw [Sig.get_append]
     cases ha : Sig.get i p.2 with
     | none => simpa using hs
     | some y =>
      have := hf _ (Sig.get_mem ha)
      rw [hs] at this
      cases this
    rcases hb with hb | ⟨h1, hb | ⟨k, o', p', h2, h3, h4, h5, h6⟩⟩
    ·exact old ((h.sg i b).2 (.inl (backS b hb)))
    ·exact old ((h.sg i b).2 (.inr ⟨fun b' hb' => h1 b' (stored_old i b' hb'), .inl hb⟩))
    ·rcases (hL k).1 h3 with h3 | rfl
     ·exact old ((h.sg i b).2 (.inr ⟨fun b' hb' => h1 b' (stored_old i b' hb'), .inr ⟨k, o', p', h2, h3, h4, h5, h6⟩⟩))
     ·obtain ⟨rfl, rfl⟩ := hv.uniq h4
      rw [Sig.get_append, h6]
      rfl
theorem mV {l : List Oper} {st : St} {n : Nat} (hv : ∀ j, j < n -> ∃ o p, Val E call G l st j o p) (hsh : ∀ j o p, j < n -> Val E call G l st j o p -> cT o = true -> ∃ i b, p.2 = [(i, b)] /\ ((txt E call G l st j).sg.get i).isSome = true) {i : Nat} : ∀ {a b : Nat}, a <= b -> b <= n -> ((txt E call G l st a).sg.get i).isSome = true -> ((txt E call G l st b).sg.get i).isSome = true := by
 intro a b hab
 induction b with
 | zero =>
  intro _ h; have : a = 0 := by omega
  subst this; exact h
 | succ b ih =>
  intro hb h
  by_cases hab' : a = b + 1
  ·subst hab'; exact h
  ·have h0 := ih (by omega) (by omega) h
   obtain ⟨o, p, hp⟩ := hv b (by omega)
   rw [hp.succ, KB]
   cases hs : cT o with
   | true =>
    obtain ⟨i0, b0, hp0, _⟩ := hsh b o p (by omega) hp hs
    rw [hp0]
    show ((Sig.put i0 b0 _).get i).isSome = true
    rw [Sig.cA]
    split
    ·rfl
    ·exact h0
   | false =>
    show (Sig.get i (p.2 ++ _)).isSome = true
    rw [Sig.get_append]
    cases ha : Sig.get i p.2 with
    | none => simpa using h0
    | some y => rfl
theorem rL {l : List Oper} {st : St} {j i : Nat} {o : Oper} {p : AV × Sig} (hp : Val E call G l st j o p) (hs : cT o = false) (hi : (Sig.get i p.2).isSome = true) : ((txt E call G l st (j + 1)).sg.get i).isSome = true := by
 rw [hp.succ, KB, hs]
 show (Sig.get i (p.2 ++ _)).isSome = true
 rw [Sig.get_append]
 obtain ⟨b, hb⟩ := Option.isSome_iff_exists.1 hi
 rw [hb]; rfl
def Pe (n : Nat) (ops : Array Oper) : Bool :=
 (List.range n).all fun j => (List.range n).all fun k => match ops[j]?, ops[k]? with
  | some oj, some ok => (match ok.dst with
   | some t => (j == k || oj.dst != some t) && (!((opn ops.toList oj).any fun x => match x with | .tmp u => u == t | _ => false) || (decide (k < j) && Region.waitsFor .any ops j k) || (decide (j < k) && Region.waitsFor .any ops k j))
   | none => true)
  | _, _ => true
def km (n : Nat) (ops : Array Oper) : Bool :=
 (List.range n).all fun j => match ops[j]? with
  | some o => o.after.toList.all fun e => !Region.binds .any e || Nat.blt e.on j
  | none => true
def oY (n m : Nat) : Array Bool := (List.replicate n true ++ List.replicate m false).toArray
def Oz (l : List Oper) (n j : Nat) (o : Oper) : Bool :=
 match o.op with
 | .store _ (.tmp t) _ => (List.range n).any (fun k => decide (k < j) && Region.waitsFor .any l.toArray j k && (match l[k]? with | some ok => (match ok.op with | .alloc _ => ok.guard.isNone && ok.dst == some t | _ => false) | none => false)) &&
   (List.range n).all (fun m => m == j || (match l[m]? with | some om => !((opn l om).any fun x => match x with | .tmp u => u == t | _ => false) | none => true))
 | _ => true
def LU (l : List Oper) (n : Nat) : Bool := (List.range n).all fun j => match l[j]? with | some o => Oz l n j o | none => true
def runN (E : Env) (call : bh) (l : List Oper) (st : St) : Nat -> Option St
 | 0 => some st
 | j + 1 => (match runN E call l st j with
  | some s => (match l[j]? with
   | some o => (match gop E call l s.sg (aF s.sl) o with | some p => some (aft o p s) | none => none)
   | none => none)
  | none => none)
def RO (t : Nat) (sl : List AV) (skip : Nat) : Bool := (List.range sl.length).all fun u => u == skip || !((sl.getD u (.one .und)).ak t)
def OJ (l : List Oper) (n : Nat) (st s : St) : Bool :=
 (l.take n).all fun o => match o.op with
 | .store _ (.tmp t) _ => RO t st.sl st.sl.length && RO t s.sl t
 | _ => true
def U9 (E : Env) (call : bh) (l : List Oper) (st : St) (n : Nat) : Bool :=
 (l.take n).all (fun o => !cT o) || (match runN E call l st n with | some s => OJ l n st s | none => false)
def Sj (E : Env) (l : List Oper) (n : Nat) : Bool :=
 Nat.blt n l.length && (l.take n).all (dY E) && Region.sinkB .any l.toArray n && Region.chainB .any l.toArray n && Pe n l.toArray && km n l.toArray && Region.seqB .any l.toArray (l.length - n) n (oY n (l.length - n)) && LU l n
def fH (E : Env) (call : bh) (l : List Oper) (st : St) : Bool := (List.range l.length).any fun i => Sj E l (l.length - 1 - i) && U9 E call l st (l.length - 1 - i)
structure HeadW (E : Env) (G l : List Oper) (n : Nat) (W : Nat -> Nat -> Bool) : Prop where
 ok : (l.take n).all (dY E) = true
 uniq : ∀ j k oj ok t, j < n -> k < n -> l[j]? = some oj -> l[k]? = some ok -> oj.dst = some t -> ok.dst = some t -> j = k
 reads : ∀ j k oj ok t, j < n -> k < n -> l[j]? = some oj -> l[k]? = some ok -> ok.dst = some t -> .tmp t ∈ opn G oj -> (k < j /\ W j k = true) ∨ (j < k /\ W k j = true)
structure C0 (E : Env) (l : List Oper) (n : Nat) : Prop where
 lt : n < l.length
 ok : (l.take n).all (dY E) = true
 sink : Region.sinkB .any l.toArray n = true
 chain : Region.chainB .any l.toArray n = true
 uniq : ∀ j k oj ok t, j < n -> k < n -> l[j]? = some oj -> l[k]? = some ok -> oj.dst = some t -> ok.dst = some t -> j = k
 reads : ∀ j k oj ok t, j < n -> k < n -> l[j]? = some oj -> l[k]? = some ok -> ok.dst = some t -> .tmp t ∈ opn l oj -> (k < j /\ Region.waitsFor .any l.toArray j k = true) ∨ (j < k /\ Region.waitsFor .any l.toArray k j = true)
 edges : ∀ j o, j < n -> l[j]? = some o -> ∀ e ∈ o.after, Region.binds .any e = true -> e.on < j
 seq : Region.seqB .any l.toArray (l.length - n) n (oY n (l.length - n)) = true
 sto : LU l n = true
theorem C0.w {E : Env} {l : List Oper} {n : Nat} (H : C0 E l n) : HeadW E l l n (Region.waitsFor .any l.toArray) := ⟨H.ok, H.uniq, H.reads⟩
theorem OV {l : List Oper} {n : Nat} (h : Sj E l n = true) : C0 E l n := by
 simp only [Sj, Bool.and_eq_true, Nat.blt_eq] at h
 obtain ⟨⟨⟨⟨⟨⟨⟨h1, h2⟩, h3⟩, h4⟩, h5⟩, h6⟩, h7⟩, h8⟩ := h
 simp only [Pe, List.all_eq_true, List.mem_range] at h5
 refine ⟨h1, h2, h3, h4, fun j k oj ok t hj hk h8 h9 h10 h11 => ?_, fun j k oj ok t hj hk h8 h9 h10 h11 => ?_, fun j o hj h8 e he hb => ?_, h7, h8⟩
 ·have := h5 j hj k hk
  simp only [List.getElem?_toArray, h8, h9, h11, h10, Bool.and_eq_true, Bool.or_eq_true, beq_iff_eq, bne_iff_ne, ne_eq, not_true_eq_false, or_false] at this
  exact this.1
 ·have := h5 j hj k hk
  simp only [List.getElem?_toArray, h8, h9, h10, Bool.and_eq_true, Bool.or_eq_true, decide_eq_true_eq, Bool.not_eq_true'] at this
  rcases this.2 with (h | h) | h
  ·rw [List.any_eq_false] at h
   exact absurd (h _ h11) (by simp)
  ·exact .inl h
  ·exact .inr h
 ·simp only [km, List.all_eq_true, List.mem_range] at h6
  have := h6 j hj
  simp only [List.getElem?_toArray, h8, List.all_eq_true] at this
  have := this e (by simpa using he)
  simpa [hb] using this
theorem o5 {l : List Oper} {st : St} : ∀ m, (txt E call G l st m).sl.length = st.sl.length
 | 0 => rfl
 | m + 1 => by
  simp only [txt]
  split
  ·split
   ·rw [KN, o5 m]
   ·exact o5 m
  ·exact o5 m
theorem Ea {l : List Oper} {st : St} {n : Nat} (H : HeadW E G l n W) (hv : ∀ j, j < n -> ∃ o p, Val E call G l st j o p) {w : Nat} {o : Oper} {p : AV × Sig} {t : Nat} (hp : Val E call G l st w o p) (hw : w < n) (hd : o.dst = some t) (ht : t < st.sl.length) : ∀ m, w < m -> m <= n -> (txt E call G l st m).sl[t]? = some p.1
 | 0, h, _ => by omega
 | m + 1, h, hm => by
  obtain ⟨o', p', hp'⟩ := hv m (by omega)
  rw [hp'.succ, Df]
  by_cases hwm : w = m
  ·subst hwm
   obtain ⟨rfl, rfl⟩ := hp.uniq hp'
   rw [if_pos hd, if_pos (by rw [o5]; exact ht)]
  ·rw [if_neg (fun hd' => hwm (H.uniq w m o o' t hw (by omega) hp.1 hp'.1 hd hd'))]
   exact Ea H hv hp hw hd ht m (by omega) (by omega)
theorem Rn {l : List Oper} {st : St} {n : Nat} (hv : ∀ j, j < n -> ∃ o p, Val E call G l st j o p) {t : Nat} : ∀ m, m <= n -> (∀ w o, w < m -> l[w]? = some o -> o.dst ≠ some t) -> (txt E call G l st m).sl[t]? = st.sl[t]?
 | 0, _, _ => rfl
 | m + 1, hm, h => by
  obtain ⟨o', p', hp'⟩ := hv m (by omega)
  rw [hp'.succ, Df, if_neg (h m o' (by omega) hp'.1)]
  exact Rn hv m (by omega) fun w o hw => h w o (by omega)
theorem nn {l : List Oper} {st : St} {n : Nat} (H : HeadW E G l n W) (SO : ni E call G l st n W) (hv : ∀ j, j < n -> ∃ o p, Val E call G l st j o p) : ∀ j, j <= n -> Part E call G l st n (· < j) (txt E call G l st j)
 | 0, _ => Part.start (fun j _ h => by omega)
 | j + 1, hj => by
  obtain ⟨o, p, hp⟩ := hv j (by omega)
  rw [hp.succ]
  refine (nn H SO hv j (by omega)).step (L' := (· < j + 1)) SO (by omega) (by omega) hp (fun i => by omega) (fun i o' t hi h1 h2 h3 => H.uniq i j o' o t hi (by omega) h1 hp.1 h2 h3) hp.2.2.2 (fun hs k o' p' i hk hkj hp' hs' hi => ?_)
  cases hg : Sig.get i p'.2 with
  | none => rfl
  | some b =>
   have := (SO.made k j o' o p' p i hk (by omega) hp' hp hs' hs (by rw [hg]; rfl) hi).1
   omega
theorem EH {sl sl' : List AV} {x : Operand} (h : ∀ t, x = .tmp t -> sl'[t]? = sl[t]?) : aF sl' x = aF sl x := by
 cases x with
 | tmp t => simp only [aF, List.getD_eq_getElem?_getD, h t rfl]
 | _ => rfl
theorem FQ {l : List Oper} {st s : St} {n j : Nat} {L : Nat -> Prop} {o : Oper} {p : AV × Sig} (H : HeadW E G l n W) (SO : ni E call G l st n W) (hv : ∀ j, j < n -> ∃ o p, Val E call G l st j o p) (h : Part E call G l st n L s)
  (hj : j < n) (hp : Val E call G l st j o p) (hn : ¬ L j) (hcl : ∀ a b, a < n -> b < n -> L a -> W a b = true -> L b) (hrd : ∀ k, k < n -> W j k = true -> L k)
  (hdom : ∀ (i : Nat) (v : AV) (d : Nat), s.sl[i]? = some v -> v.ak d = true -> (s.sg.get d).isSome = true) : gop E call G s.sg (aF s.sl) o = some p /\ (cT o = false -> ∀ q ∈ p.2, s.sg.get q.1 = none) /\
  (cT o = false -> ∀ k o' p' i, k < n -> L k -> Val E call G l st k o' p' -> cT o' = true -> (Sig.get i p.2).isSome = true -> Sig.get i p'.2 = none) := by
 have hT := nn H SO hv j (by omega)
 have hN := nn H SO hv n (Nat.le_refl _)
 have slot : ∀ t, .tmp t ∈ opn G o -> s.sl[t]? = (txt E call G l st j).sl[t]? := by
  intro t ht
  by_cases hw : ∃ k o', k < n /\ l[k]? = some o' /\ o'.dst = some t
  ·obtain ⟨k, o', hk, ho', hd⟩ := hw
   obtain ⟨o2, p2, hp2⟩ := hv k hk
   have : o2 = o' := Option.some.inj (hp2.1.symm.trans ho')
   subst this
   rcases H.reads j k o o2 t hj hk hp.1 hp2.1 hd ht with ⟨hlt, hwt⟩ | ⟨hlt, hwt⟩
   ·by_cases htl : t < st.sl.length
    ·rw [h.wr k o2 p2 t hk (hrd k hk hwt) hp2 hd htl, hT.wr k o2 p2 t hk hlt hp2 hd htl]
    ·rw [List.getElem?_eq_none (by rw [h.len]; exact Nat.le_of_not_lt htl), List.getElem?_eq_none (by rw [hT.len]; exact Nat.le_of_not_lt htl)]
   ·have hnk : ¬ L k := fun hl => hn (hcl k j hk hj hl hwt)
    rw [h.un t fun i oi hi hl ho hdi => hnk (by rw [H.uniq k i o2 oi t hk hi hp2.1 ho hd hdi]; exact hl), hT.un t fun i oi hi hl ho hdi => by
     have := H.uniq k i o2 oi t hk hi hp2.1 ho hd hdi
     omega]
  ·rw [h.un t fun i oi hi hl ho hdi => hw ⟨i, oi, hi, ho, hdi⟩, hT.un t fun i oi hi hl ho hdi => hw ⟨i, oi, hi, ho, hdi⟩]
 have hev : ∀ x ∈ opn G o, aF s.sl x = aF (txt E call G l st j).sl x := fun x hx => EH fun t ht => slot t (ht ▸ hx)
 have made : cT o = false -> ∀ k o' p' i, k < n -> L k -> Val E call G l st k o' p' -> cT o' = true -> (Sig.get i p.2).isSome = true -> Sig.get i p'.2 = none := by
  intro hs k o' p' i hk hl hp' hs' hi
  cases hg : Sig.get i p'.2 with
  | none => rfl
  | some b => exact absurd (hcl k j hk hj hl (SO.made k j o' o p' p i hk hj hp' hp hs' hs (by rw [hg]; rfl) hi).2) hn
 cases hs : cT o with
 | true =>
  refine ⟨?_, (fun h => by cases h), (fun h => by cases h)⟩
  obtain ⟨ty, u, v, hop', hgd⟩ := rK hs hp.2.1
  have hg := hp.2.2.1
  unfold gop sop at hg ⊢
  simp only [hgd, hop'] at hg ⊢
  have hua : .tmp u ∈ opn G o := List.mem_append_right _ (by rw [hop']; simp [Op.operands])
  have huv : v ∈ opn G o := List.mem_append_right _ (by rw [hop']; simp [Op.operands])
  rw [hev _ hua, hev _ huv]
  obtain ⟨i, c, b, b', hx, hb, rfl, hgo⟩ := GR hg
  refine hgo s.sg ?_
  have no : ∀ M : Nat -> Prop, ¬ M j -> ∀ b', ¬ fB E call G l st n M i b' := by
   rintro M hM b2 ⟨k, o', p', h1, h2, h3, h4, h5⟩
   have := SO.one j k o o' _ p' i hj h1 hp h3 hs h4 (by simp [Sig.get]) (by rw [h5]; rfl)
   subst this
   exact hM h2
  rcases (hT.sg i b).1 hb with h1 | ⟨_, h1⟩
  ·exact absurd h1 (no _ (by omega) b)
  ·refine (h.sg i b).2 (.inr ⟨no L hn, ?_⟩)
   rcases h1 with h1 | ⟨k, o', p', h1, h2, h3, h4, h5⟩
   ·exact .inl h1
   ·exact .inr ⟨k, o', p', h1, hrd k h1 (SO.made j k o o' _ p' i hj h1 hp h3 hs h4 (by simp [Sig.get]) (by rw [h5]; rfl)).2, h3, h4, h5⟩
 | false =>
 have fresh : ∀ q ∈ p.2, s.sg.get q.1 = none := by
  intro q hq
  have hsome : (Sig.get q.1 p.2).isSome = true := by
   have : ∀ (sg : Sig) (q : Nat × Blk), q ∈ sg -> (sg.get q.1).isSome = true := by
    intro sg
    induction sg with
    | nil => intro q hq; cases hq
    | cons a r ih =>
     intro q hq
     obtain ⟨i, c⟩ := a
     simp only [Sig.get]
     cases hb : (i == q.1) with
     | true => rfl
     | false =>
      rcases List.mem_cons.1 hq with rfl | hq
      ·simp at hb
      ·exact ih q hq
   exact this p.2 q hq
  cases hsg : s.sg.get q.1 with
  | none => rfl
  | some b =>
   have h0 := hp.2.2.2 hs q hq
   rcases (h.sg q.1 b).1 hsg with ⟨k, o', p', h1, h2, h3, h4, h5⟩ | ⟨_, h1 | ⟨k, o', p', h1, h2, h3, h4, h5⟩⟩
   ·rw [made hs k o' p' q.1 h1 h2 h3 h4 hsome] at h5
    cases h5
   ·have := mV hv SO.shape (i := q.1) (Nat.zero_le j) (by omega) (by show (st.sg.get q.1).isSome = true; rw [h1]; rfl)
    rw [h0] at this; cases this
   ·rcases Nat.lt_trichotomy k j with hlt | heq | hgt
    ·have := mV hv SO.shape (i := q.1) (show k + 1 <= j by omega) (by omega) (rL h3 h4 (by rw [h5]; rfl))
     rw [h0] at this; cases this
    ·subst heq; exact absurd h2 hn
    ·have h6 := h3.2.2.2 h4 _ (Sig.get_mem h5)
     have := mV hv SO.shape (i := q.1) (show j + 1 <= k by omega) (by omega) (rL hp hs hsome)
     simp only at h6
     rw [h6] at this; cases this
 refine ⟨Nw hs hp.2.2.1 hev (fun x hx i b hu hb => ?_) fresh, fun _ => fresh, fun _ => made hs⟩
 cases x with
 | tmp t =>
  simp only [aF, List.getD_eq_getElem?_getD] at hu
  cases ht : (txt E call G l st j).sl[t]? with
  | none => rw [ht] at hu; cases hu
  | some v =>
   rw [ht] at hu
   have no : ∀ M : Nat -> Prop, ∀ b', ¬ fB E call G l st n M i b' := by
    rintro M b2 ⟨k, o', p', h1, h2, h3, h4, h5⟩
    have hkj : k ≠ j := by
     rintro rfl
     obtain ⟨rfl, _⟩ := hp.uniq h3
     rw [hs] at h4; cases h4
    have := SO.free k j o' o p' i t v h1 hj hkj h3 hp.1 h4 (by rw [h5]; rfl) hx ht
    have hu : v.ak i = true := hu
    rw [this] at hu; cases hu
   obtain ⟨b', hb'⟩ := Option.isSome_iff_exists.1 (hdom t v i (by rw [slot t hx]; exact ht) hu)
   have up : ∀ (M : Nat -> Prop) b, Made E call G l st n M i b -> (txt E call G l st n).sg.get i = some b := fun M b hm => (hN.sg i b).2 (.inr ⟨no _, hm.imp id fun ⟨k, o', p', h1, _, h3⟩ => ⟨k, o', p', h1, h1, h3⟩⟩)
   have m1 : (txt E call G l st n).sg.get i = some b := by
    rcases (hT.sg i b).1 hb with h1 | ⟨_, h1⟩
    ·exact absurd h1 (no _ b)
    ·exact up _ b h1
   have m2 : (txt E call G l st n).sg.get i = some b' := by
    rcases (h.sg i b').1 hb' with h1 | ⟨_, h1⟩
    ·exact absurd h1 (no _ b')
    ·exact up _ b' h1
   rw [m1] at m2
   cases m2
   exact hb'
 | const v =>
  exfalso
  have : ∀ v : Value, (Lg v).ak i = false := by
   intro v
   have hc1 : ∀ v c, sX v = some c -> c.ak i = false := by
    intro v c h
    unfold sX at h
    split at h <;> first | (cases h; done) | (cases h; rfl) | skip
    ·split at h
     ·cases h; rfl
     ·cases h
   have hcs : ∀ vs cs, lH vs = some cs -> ∀ c ∈ cs, c.ak i = false := by
    intro vs
    induction vs with
    | nil => intro cs h c hc; cases h; cases hc
    | cons a vs ih =>
     intro cs h c hc
     simp only [lH, Option.bind_eq_some_iff, Option.some.injEq] at h
     obtain ⟨c1, h1, cs1, h2, rfl⟩ := h
     rcases List.mem_cons.1 hc with rfl | hc
     ·exact hc1 _ _ h1
     ·exact ih _ h2 _ hc
   unfold Lg
   split
   ·split
    ·rename_i l hl
     simp only [AV.ak]
     rw [List.any_eq_false]
     intro c hc
     simp [hcs _ _ hl c hc]
    ·rfl
   ·split <;> rfl
   ·split
    ·rename_i c hc; exact hc1 _ _ hc
    ·rfl
  have h2 := this v
  simp only [aF] at hu
  rw [h2] at hu
  cases hu
 | func f => simp [aF, AV.ak, Cell.ak] at hu
 | global g => simp [aF, AV.ak, Cell.ak] at hu
theorem tV {l : List Oper} {st : St} : ∀ {n : Nat} {s : St}, runN E call l st n = some s -> s = txt E call l l st n /\ ∀ j o, j < n -> l[j]? = some o -> (gop E call l (txt E call l l st j).sg (aF (txt E call l l st j).sl) o).isSome = true
 | 0, s, h => by cases h; exact ⟨rfl, fun j o hj => by omega⟩
 | n + 1, s, h => by
  simp only [runN] at h
  split at h
  ·rename_i s0 h0
   obtain ⟨rfl, ih⟩ := tV h0
   split at h
   ·rename_i o ho
    split at h
    ·rename_i p hp
     cases h
     refine ⟨by simp only [txt, ho, hp], fun j o' hj ho' => ?_⟩
     by_cases hjn : j = n
     ·subst hjn
      rw [ho] at ho'; cases ho'
      rw [hp]; rfl
     ·exact ih j o' (by omega) ho'
    ·cases h
   ·cases h
  ·cases h
theorem zt {t k : Nat} {sl : List AV} (h : RO t sl k = true) {u : Nat} {v : AV} (hu : sl[u]? = some v) (hk : u ≠ k) : v.ak t = false := by
 have hlt := (List.getElem?_eq_some_iff.1 hu).1
 have := List.all_eq_true.1 h u (List.mem_range.2 hlt)
 simp only [Bool.or_eq_true, beq_iff_eq, Bool.not_eq_true', List.getD_eq_getElem?_getD, hu, Option.getD_some] at this
 exact this.resolve_left hk
theorem MF {l : List Oper} {st : St} {j : Nat} {o : Oper} {p : AV × Sig} {T : TypeId} (hp : Val E call l l st j o p) (ho : o.op = .alloc T) (hg : o.guard = none) : ∃ d b, o.dst = some d /\ p = (.one (.ptr d 0 0), [(d, b)]) := by
 have h := hp.2.2.1
 unfold gop sop hop at h
 simp only [hg, ho, qop] at h
 split at h
 ·simp only [aP] at h
  split at h
  ·rename_i d _ _ _ _ hd _ _
   cases h
   exact ⟨d, _, hd, rfl⟩
  ·cases h
 ·cases h
theorem Nf {l : List Oper} {st : St} {n : Nat} (H : C0 E l n) (hv : ∀ j, j < n -> ∃ o p, Val E call l l st j o p) (hd : U9 E call l st n = true) : ni E call l l st n (Region.waitsFor .any l.toArray) := by
 have sto : ∀ j o p, j < n -> Val E call l l st j o p -> cT o = true -> ∃ t, (∃ b, p.2 = [(t, b)]) /\ ((txt E call l l st j).sg.get t).isSome = true /\ (∃ k ok pk b, k < j /\ Region.waitsFor .any l.toArray j k = true /\ Val E call l l st k ok pk /\ cT ok = false /\ pk.2 = [(t, b)]) /\
   (∀ m om, m < n -> m ≠ j -> l[m]? = some om -> .tmp t ∉ opn l om) /\ .tmp t ∈ opn l o /\ (∀ (u : Nat) (v : AV), st.sl[u]? = some v -> v.ak t = false) /\ (∀ (u : Nat) (v : AV), (txt E call l l st n).sl[u]? = some v -> u ≠ t -> v.ak t = false) := by
  intro j o p hj hp hs
  obtain ⟨T, t, x, hop', hgd⟩ := rK hs hp.2.1
  have h1 := List.all_eq_true.1 H.sto j (List.mem_range.2 hj)
  rw [hp.1] at h1
  simp only [Oz, hop', Bool.and_eq_true, List.any_eq_true, List.mem_range, List.all_eq_true] at h1
  obtain ⟨⟨k, hkn, ⟨hkj, hw⟩, hal⟩, hoth⟩ := h1
  simp only [decide_eq_true_eq] at hkj
  obtain ⟨ok, pk, hpk⟩ := hv k hkn
  rw [hpk.1] at hal
  simp only at hal
  split at hal
  ·rename_i Ta hka
   simp only [Bool.and_eq_true, Option.isNone_iff_eq_none, beq_iff_eq] at hal
   obtain ⟨d, bk, hdk, hpk'⟩ := MF hpk hka hal.1
   have : d = t := Option.some.inj (hdk.symm.trans hal.2)
   subst this
   have hg := hp.2.2.1
   unfold gop sop at hg
   simp only [hgd, hop'] at hg
   obtain ⟨i, c, b, b', hx, hb, rfl, _⟩ := GR hg
   have hdl : d < st.sl.length := by
    rcases Nat.lt_or_ge d st.sl.length with h | h
    ·exact h
    ·exfalso
     simp only [aF, List.getD_eq_getElem?_getD] at hx
     rw [List.getElem?_eq_none (by rw [o5]; exact h)] at hx
     cases hx
   have hsl := Ea H.w hv hpk hkn hdk hdl j hkj (by omega)
   rw [o4 hsl, hpk'] at hx
   cases hx
   have hda : OJ l n st (txt E call l l st n) = true := by
    unfold U9 at hd
    rw [Bool.or_eq_true] at hd
    rcases hd with hd | hd
    ·exfalso
     have := List.all_eq_true.1 hd o (List.mem_take_iff_getElem.2 ⟨j, by have := H.lt; omega, by
      have := hp.1
      rw [List.getElem?_eq_some_iff] at this
      exact this.2⟩)
     rw [hs] at this; cases this
    ·split at hd
     ·rename_i s hrun
      rw [(tV hrun).1] at hd
      exact hd
     ·cases hd
   have hdo := List.all_eq_true.1 hda o (List.mem_take_iff_getElem.2 ⟨j, by have := H.lt; omega, by
      have := hp.1
      rw [List.getElem?_eq_some_iff] at this
      exact this.2⟩)
   simp only [hop', Bool.and_eq_true] at hdo
   refine ⟨d, ⟨_, rfl⟩, by rw [hb]; rfl, ⟨k, ok, pk, bk, hkj, hw, hpk, by unfold cT; rw [hka], by rw [hpk']⟩, fun m om hm hmj hom hmem => ?_, List.mem_append_right _ (by rw [hop']; simp [Op.operands]), fun u v hu => zt hdo.1 hu (by have := (List.getElem?_eq_some_iff.1 hu).1; omega), fun u v hu hne => zt hdo.2 hu hne⟩
   have h2 := hoth m hm
   rw [hom] at h2
   simp only [Bool.or_eq_true, beq_iff_eq, Bool.not_eq_true'] at h2
   rcases h2 with h2 | h2
   ·exact hmj h2
   ·rw [List.any_eq_false] at h2
    exact absurd (h2 _ hmem) (by simp)
  ·cases hal
 have hsh : ∀ j o p, j < n -> Val E call l l st j o p -> cT o = true -> ∃ i b, p.2 = [(i, b)] /\ ((txt E call l l st j).sg.get i).isSome = true := by
  intro j o p hj hp hs
  obtain ⟨t, ⟨b, h1⟩, h2, _⟩ := sto j o p hj hp hs
  exact ⟨t, b, h1, h2⟩
 have key : ∀ {i t : Nat} {b : Blk}, (Sig.get i [(t, b)]).isSome = true -> i = t := by
  intro i t b h
  simp only [Sig.get] at h
  cases hb : (t == i) with
  | true => exact (eq_of_beq hb).symm
  | false => rw [hb] at h; cases h
 refine ⟨fun j k o o' p p' i hj hk hp hp' hs hs' hi hi' => ?_, fun j k o o' p p' i hj hk hp hp' hs hs' hi hi' => ?_, fun j m o o' p i u v hj hm hjm hp ho' hs hi hu hv' => ?_, hsh⟩
 ·obtain ⟨t, ⟨b, h1⟩, _, _, h4, _⟩ := sto j o p hj hp hs
  obtain ⟨t', ⟨b', h1'⟩, _, _, _, h5', _⟩ := sto k o' p' hk hp' hs'
  rw [h1] at hi
  rw [h1'] at hi'
  have e1 := key hi
  have e2 := key hi'
  subst e1; subst e2
  by_cases hjk : j = k
  ·exact hjk
  ·exact absurd h5' (h4 k o' hk (Ne.symm hjk) hp'.1)
 ·obtain ⟨t, ⟨b, h1⟩, _, ⟨k0, ok, pk, bk, g1, g2, g3, g4, g5⟩, _⟩ := sto j o p hj hp hs
  rw [h1] at hi
  have e1 := key hi
  subst e1
  have hk0 : (Sig.get i pk.2).isSome = true := by rw [g5]; simp [Sig.get]
  have fresh : ∀ a ao ap, Val E call l l st a ao ap -> cT ao = false -> (Sig.get i ap.2).isSome = true -> (txt E call l l st a).sg.get i = none := by
   intro a ao ap ha hs0 hi0
   obtain ⟨b0, hb0⟩ := Option.isSome_iff_exists.1 hi0
   exact ha.2.2.2 hs0 _ (Sig.get_mem hb0)
  rcases Nat.lt_trichotomy k k0 with hlt | heq | hgt
  ·have := mV hv hsh (i := i) (show k + 1 <= k0 by omega) (by omega) (rL hp' hs' hi')
   rw [fresh k0 ok pk g3 g4 hk0] at this; cases this
  ·subst heq; exact ⟨g1, g2⟩
  ·have := mV hv hsh (i := i) (show k0 + 1 <= k by omega) (by omega) (rL g3 g4 hk0)
   rw [fresh k o' p' hp' hs' hi'] at this; cases this
 ·obtain ⟨t, ⟨b, h1⟩, _, _, h4, _, h6, h7⟩ := sto j o p hj hp hs
  rw [h1] at hi
  have e1 := key hi
  subst e1
  have hut : u ≠ i := by
   rintro rfl
   exact h4 m o' hm (Ne.symm hjm) ho' hu
  have hul : u < st.sl.length := by
   have := (List.getElem?_eq_some_iff.1 hv').1
   rw [o5] at this
   exact this
  by_cases hw : ∃ w ow, w < m /\ l[w]? = some ow /\ ow.dst = some u
  ·obtain ⟨w, ow, hwm, how, hdw⟩ := hw
   obtain ⟨o2, p2, hp2⟩ := hv w (by omega)
   have : o2 = ow := Option.some.inj (hp2.1.symm.trans how)
   subst this
   rw [Ea H.w hv hp2 (by omega) hdw hul m hwm (by omega)] at hv'
   cases hv'
   exact h7 u _ (Ea H.w hv hp2 (by omega) hdw hul n (by omega) (Nat.le_refl _)) hut
  ·rw [Rn hv m (by omega) fun w ow hwm how hdw => hw ⟨w, ow, hwm, how, hdw⟩] at hv'
   exact h6 u v hv'
end
end Go.Proofs.YtahlaccdpmddbaaGreat.Lib
namespace Go.Proofs.YtahlaccdpmddbaaGreat.Lib
open Go Go.RowKit
set_option linter.unusedVariables false
set_option linter.unusedSimpArgs false
def cnt (listed : Array Bool) : Nat -> Nat
 | 0 => 0
 | n + 1 => cnt listed n + if listed.getD n false = true then 0 else 1
theorem rm {listed : Array Bool} : ∀ {n : Nat}, cnt listed n = 0 -> ∀ i, i < n -> listed.getD i false = true
 | 0, _, i, hi => by omega
 | n + 1, h, i, hi => by
  simp only [cnt] at h
  by_cases hl : listed.getD n false = true
  ·by_cases hin : i = n
   ·subst hin; exact hl
   ·exact rm (n := n) (by omega) i (by omega)
  ·rw [if_neg hl] at h; omega
theorem Lr {listed : Array Bool} : ∀ {n : Nat}, cnt listed n ≠ 0 -> ∃ i, i < n /\ listed.getD i false = false /\ ∀ k, k < i -> listed.getD k false = true
 | 0, h => absurd rfl h
 | n + 1, h => by
  by_cases h0 : cnt listed n = 0
  ·refine ⟨n, by omega, ?_, fun k hk => rm h0 k hk⟩
   simp only [cnt, h0, Nat.zero_add] at h
   cases hl : listed.getD n false with
   | false => rfl
   | true => rw [hl] at h; simp at h
  ·obtain ⟨i, h1, h2, h3⟩ := Lr h0
   exact ⟨i, by omega, h2, h3⟩
theorem wm {listed : Array Bool} {i : Nat} (hi : i < listed.size) (hu : listed.getD i false = false) : ∀ n, cnt (listed.setIfInBounds i true) n + (if i < n then 1 else 0) = cnt listed n
 | 0 => by simp [cnt]
 | n + 1 => by
  have ih := wm hi hu n
  simp only [cnt]
  by_cases hin : i = n
  ·subst hin
   have h1 : (listed.setIfInBounds i true).getD i false = true := by simp [hi]
   rw [h1, hu]
   simp only [Nat.lt_irrefl, if_false, Nat.add_zero] at ih
   simp [ih]
  ·rw [getD_set_ne false hin]
   by_cases hlt : i < n
   ·rw [if_pos hlt] at ih
    rw [if_pos (show i < n + 1 by omega)]
    omega
   ·rw [if_neg hlt] at ih
    rw [if_neg (show ¬ i < n + 1 by omega)]
    omega
theorem Ag (m : Nat) : ∀ n, cnt (Array.replicate m false) n = n
 | 0 => rfl
 | n + 1 => by simp only [cnt, Ag m n, getD_replicate_false]; rfl
section
variable {P : Program} {E : Env} {B : Nat} {O : Ow} {w0 w w' : World} {ρ ρ' : aE} {a : Act} {R : Type} {r : R} {call : bh} {G : List Oper}
theorem Sim.same {s s' : St} (h : Sim P B O w0 ρ s a w) (hsl : s'.sl = s.sl) (hsg : ∀ i, s'.sg.get i = s.sg.get i) : Sim P B O w0 ρ s' a w := by
 have ho : ∀ j g, bE ρ s'.sg j g ↔ bE ρ s.sg j g := fun j g => by unfold bE; rw [hsg]
 refine ⟨⟨fun j b hj => h.mem.blk j b (by rw [← hsg]; exact hj), fun i j g h1 h2 => h.mem.inj i j g ((ho _ _).1 h1) ((ho _ _).1 h2), fun j g h1 => h.mem.old j g ((ho _ _).1 h1), h.mem.okb, fun b g hb j h1 => h.mem.oko b g hb j ((ho _ _).1 h1), h.mem.okm, h.mem.okx, h.mem.oky, fun j b d hj hd => ?_⟩, by rw [hsl]; exact h.len, fun i v hi => h.sl i v (by rw [← hsl]; exact hi), fun i v d hi hd => ?_, h.defers, h.fr, h.base, h.pin, h.glo⟩
 ·rw [hsg]; exact h.mem.dom j b d (by rw [← hsg]; exact hj) hd
 ·rw [hsg]; exact h.dom i v d (by rw [← hsl]; exact hi) hd
theorem Part.same {l : List Oper} {st s s' : St} {n : Nat} {L L' : Nat -> Prop} (hv : ∀ j, j < n -> ∃ o p, Val E call G l st j o p) (h : Part E call G l st n L s) (h' : Part E call G l st n L' s') (hL : ∀ j, j < n -> L j) (hL' : ∀ j, j < n -> L' j) : s'.sl = s.sl /\ ∀ i, s'.sg.get i = s.sg.get i := by
 constructor
 ·apply List.ext_getElem?
  intro t
  by_cases hw : ∃ k o', k < n /\ l[k]? = some o' /\ o'.dst = some t
  ·obtain ⟨k, o', hk, ho', hd⟩ := hw
   obtain ⟨o2, p2, hp2⟩ := hv k hk
   have : o2 = o' := Option.some.inj (hp2.1.symm.trans ho')
   subst this
   by_cases htl : t < st.sl.length
   ·rw [h.wr k o2 p2 t hk (hL k hk) hp2 hd htl, h'.wr k o2 p2 t hk (hL' k hk) hp2 hd htl]
   ·rw [List.getElem?_eq_none (by rw [h'.len]; exact Nat.le_of_not_lt htl), List.getElem?_eq_none (by rw [h.len]; exact Nat.le_of_not_lt htl)]
  ·rw [h.un t fun i oi hi hl ho hdi => hw ⟨i, oi, hi, ho, hdi⟩, h'.un t fun i oi hi hl ho hdi => hw ⟨i, oi, hi, ho, hdi⟩]
 ·intro i
  apply Option.ext
  intro b
  rw [h'.sg, h.sg]
  have sw : ∀ (M M' : Nat -> Prop), (∀ j, j < n -> M' j) -> ∀ b, fB E call G l st n M i b -> fB E call G l st n M' i b := fun M M' hM b ⟨j, o, p, hj, _, x⟩ => ⟨j, o, p, hj, hM j hj, x⟩
  have mw : ∀ (M M' : Nat -> Prop), (∀ j, j < n -> M' j) -> ∀ b, Made E call G l st n M i b -> Made E call G l st n M' i b := fun M M' hM b h => h.imp id fun ⟨j, o, p, hj, _, x⟩ => ⟨j, o, p, hj, hM j hj, x⟩
  constructor
  ·rintro (h | ⟨h, h2⟩)
   ·exact .inl (sw _ _ hL b h)
   ·exact .inr ⟨fun b' hb' => h b' (sw _ _ hL' b' hb'), mw _ _ hL b h2⟩
  ·rintro (h | ⟨h, h2⟩)
   ·exact .inl (sw _ _ hL' b h)
   ·exact .inr ⟨fun b' hb' => h b' (sw _ _ hL b' hb'), mw _ _ hL' b h2⟩
theorem Af {ops : Array Oper} {s : St} {o : Oper} {p : AV × Sig} (hS : Sim P B O w0 ρ s a w) (ho : dY E o = true) (h : gop E call ops.toList s.sg (aF s.sl) o = some p) :
  (Region.wanted o (yielded ops a.tmps) = true /\ sop E call s.sg (aF s.sl) o = some p) ∨ (Region.wanted o (yielded ops a.tmps) = false /\ cT o = false /\ p = (.tup [], [])) := by
 have gs : ∀ q, o.guard = some q -> cT o = false := by
  intro q hq
  cases hs : cT o with
  | false => rfl
  | true =>
   obtain ⟨_, _, _, _, hg⟩ := rK hs ho
   rw [hg] at hq; cases hq
 unfold gop at h
 split at h
 ·rename_i hg
  exact .inl ⟨by simp [Region.wanted, hg], h⟩
 ·rename_i j want hg
  split at h
  ·rename_i t ht
   have ht' : (ops[j]?).bind (·.dst) = some t := by rw [← Array.getElem?_toList]; exact ht
   have he := (hS.eval (.tmp t)).1
   split at h
   ·rename_i v hv
    rw [hv] at he
    have he : a.tmps.getD t undef = .bool v := he
    have hy : yielded ops a.tmps j = some v := by
     unfold yielded
     rw [ht']
     rw [Array.getD_eq_getD_getElem?] at he
     simp only [Option.bind_some]
     cases hx : a.tmps[t]? with
     | none => rw [hx] at he; cases he
     | some x => rw [hx] at he; simp only [Option.getD_some] at he; subst he; rfl
    have hw : Region.wanted o (yielded ops a.tmps) = (v == want) := by
     unfold Region.wanted
     rw [hg]
     simp only [hy]
     cases v <;> cases want <;> rfl
    simp only [aP] at h
    split at h
    ·rename_i hvw; exact .inl ⟨hw.trans hvw, by rw [xV (gs _ hg)]; exact h⟩
    ·rename_i hvw; cases h; exact .inr ⟨by rw [hw]; simpa using hvw, gs _ hg, rfl⟩
   ·rename_i hv
    rw [hv] at he
    obtain ⟨us, he, hus⟩ := he
    cases hus
    have he : a.tmps.getD t undef = .tuple #[] := he
    have hy : yielded ops a.tmps j = none := by
     unfold yielded
     rw [ht']
     rw [Array.getD_eq_getD_getElem?] at he
     simp only [Option.bind_some]
     cases hx : a.tmps[t]? with
     | none => rfl
     | some x => rw [hx] at he; simp only [Option.getD_some] at he; subst he; rfl
    cases h
    refine .inr ⟨?_, gs _ hg, rfl⟩
    unfold Region.wanted
    rw [hg]
    simp only [hy]
    rfl
   ·cases h
  ·cases h
theorem nE (hE : Env.Ok P E) (hm : P.follows .mixedOrders = true) (call : bh) (hC : eb P call) : kq P E call fH := by
 intro R r B O w0 w ρ st a id ops k Q hdraw hS hk hnext
 simp only [fH, List.any_eq_true] at hdraw
 obtain ⟨n0, _, hB⟩ := hdraw
 generalize hn : ops.toList.length - 1 - n0 = n at hB
 rw [Bool.and_eq_true] at hB
 have H := OV hB.1
 obtain ⟨hk', hv⟩ := zS n (Nat.le_of_lt H.lt) H.ok (fun j o hj ho hs => by
  have hd := hB.2
  unfold U9 at hd
  rw [Bool.or_eq_true] at hd
  rcases hd with hd | hd
  ·have := List.all_eq_true.1 hd o (List.mem_take_iff_getElem.2 ⟨j, by have := H.lt; omega, (List.getElem?_eq_some_iff.1 ho).2⟩)
   rw [hs] at this; cases this
  ·split at hd
   ·rename_i s hrun
    exact (tV hrun).2 j o hj ho
   ·cases hd) hk
 have SO := Nf H hv hB.2
 have hsz : ops.size = ops.toList.length := by simp
 have harr : ops.toList.toArray = ops := by simp
 have hnlt : n < ops.size := by rw [hsz]; exact H.lt
 have hget : ∀ j : Nat, ops[j]? = ops.toList[j]? := fun j => by simp
 have hsink := H.sink
 have hchain := H.chain
 have hseq := H.seq
 rw [harr] at hsink hchain hseq
 refine wp_region_any hm ?_
 have main : ∀ (f : Nat) (listed : Array Bool) (a : Act) (w : World) (ρ : aE) (s : St), HeadInv .any ops n listed -> cnt listed n = f -> Part E call ops.toList ops.toList st n (fun i => listed.getD i false = true) s -> Sim P B O w0 ρ s a w -> wpAny P .any ops Q (f + (ops.size - n)) listed a w := by
  intro f
  induction f with
  | zero =>
   intro listed a w ρ s inv hc hp hS
   have hall := rm hc
   obtain ⟨h1, h2⟩ := Part.same hv hp (nn H.w SO hv n (Nat.le_refl _)) hall (fun j hj => hj)
   have hS' := hS.same h1 h2
   have htail := hO hE hC hnext (ops.toList.drop n) _ ρ a w hS' hk'
   have hl : listed = oY n (ops.toList.length - n) := by
    apply Array.ext
    ·rw [inv.size]; simp [oY]; omega
    ·intro i h1 h2
     have hi : i < ops.size := by rw [← inv.size]; exact h1
     rcases Nat.lt_or_ge i n with hin | hin
     ·have := hall i hin
      simp only [Array.getD_eq_getD_getElem?, Array.getElem?_eq_getElem h1, Option.getD_some] at this
      rw [this]
      simp [oY, List.getElem_append, hin]
     ·have := inv.tail i hin hi
      simp only [Array.getD_eq_getD_getElem?, Array.getElem?_eq_getElem h1, Option.getD_some] at this
      rw [this]
      simp [oY, List.getElem_append, Nat.not_lt.2 hin]
   have hdl : (ops.toList.drop n).length = ops.size - n := by simp
   rw [Nat.zero_add, ← hdl]
   refine wpAny_of_seq (ops.toList.drop n) n listed a w (fun j => by simp [List.getElem?_drop]) ?_ htail
   rw [hl, List.length_drop]
   exact hseq
  | succ f ih =>
   intro listed a w ρ s inv hc hp hS
   obtain ⟨i0, hi0, hu0, hlow⟩ := Lr (listed := listed) (n := n) (by omega)
   have hu0' : listed.getD i0 true = false := getD_in (by rw [inv.size]; omega) hu0
   rw [show f + 1 + (ops.size - n) = (f + (ops.size - n)) + 1 by omega]
   refine ⟨fun h0 => ?_, fun i hi => ?_⟩
   ·exfalso
    have hi0s : i0 < ops.size := by omega
    have : i0 ∈ Region.ready .any ops listed := by
     refine mem_ready.2 ⟨hu0', ops[i0], Array.getElem?_eq_getElem hi0s, fun e he hb => hlow _ ?_⟩
     exact H.edges i0 ops[i0] hi0 (by rw [← hget]; exact Array.getElem?_eq_getElem hi0s) e he hb
    rw [h0] at this
    cases this
   ·have hin : i < n := by
     rcases Nat.lt_or_ge i n with h | h
     ·exact h
     ·exact absurd hi (tail_waits hsink hchain hnlt inv _ i0 rfl hi0 hu0' i h)
    obtain ⟨hu, oi, hoi, haft⟩ := mem_ready.1 hi
    obtain ⟨o, p, hval⟩ := hv i hin
    have : oi = o := Option.some.inj ((hoi.symm.trans (hget i)).trans hval.1)
    subst this
    have hu' := getD_both hu
    obtain ⟨hh, hf, hbe⟩ := FQ H.w SO hv hp hin hval (by rw [hu']; simp) (fun a b ha hb hla hw => by
     rw [harr] at hw
     obtain ⟨oj, hoj, e, he, hbd, hon⟩ := Region.waitsFor_spec hw
     rw [← hon]
     exact inv.closed a oj hoj hla e he hbd) (fun b hb hw => by
     rw [harr] at hw
     obtain ⟨oj, hoj, e, he, hbd, hon⟩ := Region.waitsFor_spec hw
     have : oj = oi := Option.some.inj (hoj.symm.trans hoi)
     subst this
     rw [← hon]
     exact haft e he hbd) hS.dom
    have hho := hval.2.1
    unfold wpOp
    simp only [hoi]
    have next : ∀ ρ' a' w', Sim P B O w0 ρ' (aft oi p s) a' w' -> wpAny P .any ops Q (f + (ops.size - n)) (listed.setIfInBounds i true) a' w' := by
     intro ρ' a' w' hS'
     refine ih _ a' w' ρ' _ (inv.set hi hin) ?_ ?_ hS'
     ·have := wm (listed := listed) (i := i) (by rw [inv.size]; omega) hu' n
      rw [if_pos hin] at this
      omega
     ·refine hp.step SO hin (by rw [hu']; simp) hval (fun j => ?_) (fun j o' t hj h1 h2 h3 => H.uniq j i o' oi t hj hin h1 hval.1 h2 h3) hf hbe
      by_cases hji : i = j
      ·subst hji
       simp [show i < listed.size by rw [inv.size]; omega]
      ·rw [getD_set_ne false hji]
       exact ⟨.inl, fun h => h.elim (fun h => h) fun h => absurd h.symm hji⟩
    rcases Af hS hho hh with ⟨hw, hh⟩ | ⟨hw, hns, rfl⟩
    ·rw [if_pos hw]
     have hex : exec E call oi s some = some (aft oi p s) := by
      cases hs : cT oi with
      | true =>
       obtain ⟨t, u, v, h1, _⟩ := rK hs hho
       unfold sop at hh
       simp only [h1] at hh
       exact Ls h1 hh some
      | false =>
       rw [xV hs] at hh
       rw [Hq (R := St) hho hh some, oe hs]
     refine .inl (jy hE hC hS oi hex fun ρ' st' a' w' heq hS' => ?_)
     cases heq
     exact next ρ' a' w' hS'
    ·rw [if_neg (by rw [hw]; simp)]
     refine next ρ _ w ?_
     rw [oe hns]
     exact hS.put oi.dst (v := .tup []) (u := undef) ⟨[], rfl, .nil⟩ (fun d hd => by cases hd)
 have h0 := main n (Array.replicate ops.size false) a { w with drawn := w.drawn + 1 } ρ st
  ⟨by simp, fun j oj _ hl => (by rw [getD_replicate_false] at hl; cases hl), fun t _ ht => getD_in (by simpa using ht) (getD_replicate_false _ _)⟩
  (Ag _ _) (Part.start fun j _ h => by rw [getD_replicate_false] at h; cases h)
  (hS.below ⟨rfl, rfl, rfl, Nat.le_refl _, fun _ _ => rfl⟩)
 rwa [show n + (ops.size - n) = ops.size by omega] at h0
end
end Go.Proofs.YtahlaccdpmddbaaGreat.Lib
namespace Go.Proofs.YtahlaccdpmddbaaGreat.Lib
open Go Go.RowKit
set_option linter.unusedVariables false
set_option linter.unusedSimpArgs false
section
variable {P : Program} {E : Env} {B : Nat} {O : Ow} {w0 w w' : World} {ρ ρ' : aE} {st : St} {a : Act} {R : Type} {r : R} {call : bh}
theorem GN {sl : List AV} {sg1 : Sig} {js : List (Nat × Nat)} {dst : Option Nat} {res : AV} {fin : Sig} (k : St -> Option R) : lK sl sg1 js dst res fin k = (lK sl sg1 js dst res fin some).bind k := by
 unfold lK
 simp only [aP]
 repeat' (first | rfl | split)
theorem BI {α : Type} (o : aJ α) (f : α -> Option St) (g : α -> Option R) (k : St -> Option R) (h : ∀ x, g x = (f x).bind k) : o.run g = (o.run f).bind k := by
 rw [aJ.run_bind o g, aJ.run_bind o f, Option.bind_assoc]
 congr 1
 funext x
 exact h x
theorem GO {dst : Option Nat} {f : AV} {args : List AV} {k : St -> Option R} {oth : Option R} {oth' : Option St} (ho : oth = oth'.bind k) : m6 E st dst f args k oth = (m6 E st dst f args some oth').bind k := by
 unfold m6
 repeat' (first | exact ho | exact BI _ _ _ _ fun x => GN k | split)
theorem rD {dst : Option Nat} {f : AV} {args : List AV} (k : St -> Option R) : gS E call st dst f args k = (gS E call st dst f args some).bind k := by
 unfold gS
 simp only [wT]
 split
 ·split
  ·rw [Option.bind_assoc]
   congr 1
   funext x
   simp only [aP]
   repeat' (first | rfl | split)
  ·rfl
 ·rfl
theorem Ej {dst : Option Nat} {m : Mrk} {args : List AV} (k : St -> Option R) : ph st dst m args k = (ph st dst m args some).bind k := by
 unfold ph
 simp only [aP]
 repeat' (first | rfl | (refine BI _ _ _ _ fun x => ?_; split <;> rfl) | split)
theorem vX {t : TypeId} {p v : AV} (k : St -> Option R) : qy E st t p v k = (qy E st t p v some).bind k := by
 unfold qy
 simp only [aP]
 repeat' (first | rfl | split)
theorem C3 {dst : Option Nat} {t : TypeId} {s x : AV} (k : St -> Option R) : lN E st dst t s x k = (lN E st dst t s x some).bind k := by
 unfold lN
 simp only [aP]
 repeat' (first | rfl | split)
theorem vK {t : TypeId} {x : AV} (k : St -> Option R) : sU E st t x k = (sU E st t x some).bind k := by
 unfold sU
 repeat' (first | rfl | split)
theorem HJ {o : Oper} {k : St -> Option R} (h : exec E call o st k = some r) : ∃ s', exec E call o st some = some s' /\ k s' = some r := by
 have quiet : ∀ {op : Op}, (qop E st.sg (aF st.sl) o.dst op fun v add => k (St.put o.dst v ⟨st.sl, add ++ st.sg⟩)) = some r -> ∃ s', (qop E st.sg (aF st.sl) o.dst op fun v add => some (St.put o.dst v ⟨st.sl, add ++ st.sg⟩)) = some s' /\ k s' = some r := by
  intro op h
  obtain ⟨p, h1, h2⟩ := Cd h
  exact ⟨_, h1.1 _ st.sg _ (fun _ _ => rfl) (fun _ _ j b _ hj => hj) h1.2, h2⟩
 have eqn : ∀ {x : Option R} {y : Option St}, x = y.bind k -> x = some r -> ∃ s', y = some s' /\ k s' = some r := by
  intro x y h1 h2
  rw [h1, Option.bind_eq_some_iff] at h2
  exact h2
 cases hop : o.op with
 | store t x v =>
  unfold exec at h ⊢
  rw [hop] at h ⊢
  simp only at h ⊢
  refine eqn ?_ h
  rw [vX, vX (fun st => some (st.put o.dst (.one .und))), Option.bind_assoc]
  rfl
 | call c =>
  unfold exec at h ⊢
  rw [hop] at h ⊢
  simp only at h ⊢
  split at h
  ·rename_i s x t t' hc ha ht
   simp only [aP] at h ⊢
   split at h
   ·rename_i hh; rw [if_pos hh]; exact eqn (C3 k) h
   ·cases h
  ·rename_i x t hc ha ht
   refine eqn ?_ h
   rw [vK, vK (fun st => some (St.put o.dst (.tup []) st)), Option.bind_assoc]
   rfl
  ·refine eqn ?_ h
   split
   ·exact Ej k
   ·split
    ·exact rD k
    ·exact GO (rD k)
  ·exact quiet h
 | buildSlice t n ps =>
  unfold exec at h ⊢
  rw [hop] at h ⊢
  refine eqn ?_ h
  simp only [aP]
  repeat' (first | rfl | split)
 | _ => (unfold exec at h ⊢; rw [hop] at h ⊢; exact quiet h)
def eP (o : Oper) : Bool := o.guard.isNone && (match o.op with | .move _ | .nilCheck _ | .fieldAddr _ _ _ | .indexAddr _ _ _ | .slice _ _ _ _ _ => true | .call c => (match c.callee with | .builtin .len => true | _ => false) | _ => false)
theorem Ji (hE : Env.Ok P E) (h : Sim P B O w0 ρ st a w) {o : Oper} (ho : eP o = true) {k : AV -> Sig -> Option R} (hk : qop E st.sg (aF st.sl) o.dst o.op k = some r) : ∃ u, ∀ w2, (execOp a.eval o).run P w2 = .ok (.value u) w2 := by
 unfold eP at ho
 rw [Bool.and_eq_true] at ho
 have ho := ho.2
 split at ho
 ·rename_i x hop
  exact ⟨a.eval x, fun w2 => by unfold execOp; simp [hop]⟩
 ·rename_i x hop
  rw [hop] at hk
  simp only [qop] at hk
  have hx := (h.eval x).1
  refine ⟨a.eval x, fun w2 => ?_⟩
  split at hk <;> rename_i hp <;> try (cases hk; done)
  ·rw [hp] at hx
   unfold execOp
   rcases hx with ⟨_, g, _, h2⟩ | ⟨_, _, _, _, _, _, h2⟩ <;> simp [hop, h2]
  ·rw [hp] at hx
   unfold execOp
   obtain ⟨_, _, h2⟩ := hx
   simp [hop, h2]
  ·rw [hp] at hx
   unfold execOp
   obtain ⟨_, h2, _⟩ := hx
   simp [hop, h2]
  ·rw [hp] at hx
   unfold execOp
   obtain ⟨_, h2, _⟩ := hx
   simp [hop, h2]
 ·rename_i t x f hop
  obtain ⟨_, u, _, h1, _⟩ := K3 hE h hop hk
  exact ⟨u, h1⟩
 ·rename_i t x i hop
  obtain ⟨_, u, _, h1, _⟩ := Lv hE h hop hk
  exact ⟨u, h1⟩
 ·rename_i t x lo hi mx hop
  obtain ⟨_, u, _, h1, _⟩ := KV hE h hop hk
  exact ⟨u, h1⟩
 ·rename_i c hop
  split at ho
  ·rename_i hc
   rw [hop] at hk
   simp only [qop] at hk
   split at hk
   ·rename_i x t ts hc2 ha hat
    have ha := zG ha
    have hat0 : c.argTypes[0]? = some t := by rw [← Array.getElem?_toList, hat]; rfl
    split at hk
    ·rename_i s sz by_ hp ht
     have hx := (h.eval x).1
     rw [hp] at hx
     have hx : a.eval x = .string s := hx
     refine ⟨.int .i64 s.size, fun w2 => ?_⟩
     unfold execOp
     simp [hop, Sem.run_bind, resolve, hc2, ha, invoke, builtin, Builtin.len_, hat0, hx, run_underlying (rQ (hE.ti _ _ ht)), goInt]
    ·rename_i cl e sz by_ ty hp ht
     have hx := (h.eval x).1
     rw [hp] at hx
     obtain ⟨A, n, cp, hu, hk⟩ := AM h hk hx
     refine ⟨.int .i64 n, fun w2 => ?_⟩
     unfold execOp
     simp [hop, Sem.run_bind, resolve, hc2, ha, invoke, builtin, Builtin.len_, hat0, hu, run_underlying (dz (hE.ti _ _ ht)), goInt]
    ·cases hk
   ·rename_i h2 _
    rw [hc] at h2
    cases h2
   ·rename_i h2 _
    rw [hc] at h2
    cases h2
   ·cases hk
  ·cases ho
 ·cases ho
theorem Mq {o : Oper} (ho : eP o = true) (k : St -> Option R) : exec E call o st k = qop E st.sg (aF st.sl) o.dst o.op fun v add => k (St.put o.dst v ⟨st.sl, add ++ st.sg⟩) := by
 unfold eP at ho
 rw [Bool.and_eq_true] at ho
 have ho := ho.2
 unfold exec
 split at ho <;> rename_i hop <;> first | (rw [hop]; done) | (cases ho; done) | (split at ho <;> rename_i hc <;> first | (rw [hop]; simp only [hc]; done) | (cases ho; done))
theorem Iz (hE : Env.Ok P E) (h : Sim P B O w0 ρ st a w) {o : Oper} (ho : eP o = true) {s' : St} (hk : exec E call o st some = some s') :
  ∃ u ρ', (∀ w2, (execOp a.eval o).run P w2 = .ok (.value u) w2) /\ Sim P B O w0 ρ' s' (a.put o.dst u) w := by
 rw [Mq ho] at hk
 obtain ⟨u, hu⟩ := Ji hE h ho hk
 obtain ⟨v, add, u', w', h1, h2, h3⟩ := BP hE h o hk
 obtain ⟨ρ2, hS⟩ := h.Wu h3
 rw [hu w] at h2
 cases h2
 cases h1
 exact ⟨u, ρ2, hu, hS⟩
end
end Go.Proofs.YtahlaccdpmddbaaGreat.Lib
namespace Go.Proofs.YtahlaccdpmddbaaGreat.Lib
open Go Go.RowKit
set_option linter.unusedVariables false
set_option linter.unusedSimpArgs false
def M5 : Oper := { dst := none, op := .move (.const (.bool true)), type := 0, pos := "", after := #[], guard := none }
def S8 : Oper := { dst := none, op := .ready 0, type := 0, pos := "", after := #[], guard := none }
def cG (ops : Array Oper) (i : Nat) : Oper := (ops[i]?).getD S8
def xy (ops : Array Oper) (L : Array Bool) (i : Nat) : Bool := (cG ops i).after.toList.all fun e => !Region.binds .any e || L.getD e.on false
def fT (ops : Array Oper) (skip : Nat -> Bool) : List Nat -> Array Bool -> List (List Nat)
 | [], _ => [[]]
 | i :: r, L => (bif xy ops L i then (fT ops skip r (L.setIfInBounds i true)).map (i :: ·) else []) ++ (bif skip i then fT ops skip r L else [])
def mi (ops : Array Oper) (L : Array Bool) (A : List Nat) (i : Nat) : Bool :=
 (List.range ops.size).any fun h => !L.getD h true && (!A.contains h && !((cG ops h).after.toList.any fun e => Region.binds .any e && e.on == i))
def ga (E : Env) (o : Oper) : Bool := dY E o && !cT o
def grow (E : Env) (ops : Array Oper) : List Nat -> Array Bool -> List Nat
 | [], _ => []
 | i :: r, L => bif !L.getD i true && ga E (cG ops i) && xy ops L i then i :: grow E ops r (L.setIfInBounds i true) else grow E ops r L
def ep (E : Env) (ops : Array Oper) (L : Array Bool) : List Nat := (List.range ops.size).filter fun i => (grow E ops (List.range ops.size) L).contains i
def fp (L : Array Bool) : List Nat -> Array Bool
 | [] => L
 | i :: r => fp (L.setIfInBounds i true) r
def Qv (ops : Array Oper) (A : List Nat) : Bool :=
 A.all fun j => A.all fun k => match (cG ops k).dst with
  | some t => (j == k || (cG ops j).dst != some t) && (!((opn ops.toList (cG ops j)).any fun x => match x with | .tmp u => u == t | _ => false) || (decide (k < j) && Region.waitsFor .any ops j k) || (decide (j < k) && Region.waitsFor .any ops k j))
  | none => true
def re (E : Env) (ops : Array Oper) (L : Array Bool) (A : List Nat) : Bool :=
 A.all (fun i => ga E (cG ops i) && !L.getD i true && xy ops (fp L A) i) && Qv ops A
def branch (ops : Array Oper) (A : List Nat) (next : Array Bool -> List (List Nat)) (L : Array Bool) (D : List Nat) : List (List Nat) :=
 bif (Region.ready .any ops L).isEmpty then [D] else ((Region.ready .any ops L).filter fun h => !A.contains h).flatMap fun h => bif (cG ops h).guard.isNone then (next (L.setIfInBounds h true)).map fun π => D ++ h :: π else [D ++ [ops.size]]
def Uk (ops : Array Oper) (L : Array Bool) : Option Nat := (List.range ops.size).find? fun i => eP (cG ops i) && (Region.ready .any ops L).contains i && Region.free .any ops L i
def eO (E : Env) (ops : Array Oper) : Nat -> Array Bool -> List (List Nat)
 | 0, _ => [[ops.size]]
 | f + 1, L => match Uk ops L with
  | some i => (eO E ops f (L.setIfInBounds i true)).map (i :: ·)
  | none => bif re E ops L (ep E ops L) then (fT ops (mi ops L (ep E ops L)) (ep E ops L) L).flatMap fun D => branch ops (ep E ops L) (eO E ops f) (fp L D) D else [[ops.size]]
section
variable {P : Program} {E : Env} {B : Nat} {O : Ow} {w0 w w' : World} {ρ ρ' : aE} {st : St} {a : Act} {R : Type} {r : R} {call : bh} {ops : Array Oper}
def vg1 (E : Env) (call : bh) (G : List Oper) (o : Oper) (st : St) (k : St -> Option R) : Option R :=
 match o.guard with
 | none => exec E call o st k
 | some (j, want) => (match (G[j]?).bind (·.dst) with
   | some t => (match st.sl[t]? with
    | some (.one (.bool v)) => (match v with
     | true => bif want then exec E call o (st.put (some t) (.one (.bool true))) k else k ((st.put (some t) (.one (.bool true))).put o.dst (.tup []))
     | false => bif want then k ((st.put (some t) (.one (.bool false))).put o.dst (.tup [])) else exec E call o (st.put (some t) (.one (.bool false))) k)
    | some (.tup []) => k (st.put o.dst (.tup []))
    | _ => none)
   | none => none)
theorem eh {G : List Oper} {o : Oper} {l : List Oper} {st : St} {k : St -> Option R} : bJ E call G (o :: l) st k = vg1 E call G o st fun s => bJ E call G l s k := rfl
theorem pT {G : List Oper} : ∀ {l m : List Oper} {st : St} {k : St -> Option R}, bJ E call G (l ++ m) st k = bJ E call G l st fun s => bJ E call G m s k
 | [], _, _, _ => rfl
 | o :: l, m, st, k => by
  rw [List.cons_append, eh, eh]
  congr 1
  funext s
  exact pT
def lD (ops : Array Oper) (D : List Nat) : List Oper := (List.range ops.size).map fun i => bif D.contains i then cG ops i else M5
theorem tM {G : List Oper} {D : List Nat} : ∀ {l : List Nat} {st : St} {k : St -> Option R}, bJ E call G (l.map fun i => bif D.contains i then cG ops i else M5) st k = bJ E call G ((l.filter D.contains).map (cG ops)) st k
 | [], _, _ => rfl
 | i :: l, st, k => by
  rw [List.map_cons, eh]
  cases hd : D.contains i with
  | true =>
   rw [List.filter_cons_of_pos hd, List.map_cons, eh]
   simp only [cond_true]
   congr 1
   funext s
   exact tM
  | false =>
   rw [List.filter_cons_of_neg (by rw [hd]; simp)]
   simp only [cond_false]
   exact tM (l := l)
theorem Bb {i : Nat} {o : Oper} (h : ops[i]? = some o) : cG ops i = o := by unfold cG; rw [h]; rfl
theorem wA {i : Nat} (h : i < ops.size) : ops[i]? = some (cG ops i) := by unfold cG; rw [Array.getElem?_eq_getElem h]; rfl
theorem yM : cG ops ops.size = S8 := by unfold cG; simp
theorem Ch {G : List Oper} {l : List Oper} {st : St} {k : St -> Option R} (h : bJ E call G (S8 :: l) st k = some r) : False := by
 rw [eh] at h
 unfold vg1 exec S8 at h
 simp only [qop] at h
 cases h
theorem DO {D : List Nat} {i : Nat} (h : i < ops.size) : (lD ops D)[i]? = some (bif D.contains i then cG ops i else M5) := by
 unfold lD
 rw [List.getElem?_map, List.getElem?_range h]
 rfl
theorem RG {D : List Nat} : (lD ops D).length = ops.size := by unfold lD; simp
theorem gy {L : Array Bool} {i j : Nat} : (L.setIfInBounds i true).getD j false = true ↔ L.getD j false = true ∨ (i = j /\ i < L.size) := by
 by_cases hij : i = j
 ·subst hij
  by_cases hl : i < L.size
  ·simp [hl]
  ·have : L.getD i false = false := by simp [Array.getElem?_eq_none (Nat.le_of_not_lt hl)]
   simp [hl]
 ·rw [getD_set_ne false hij]
  simp [hij]
theorem eS : ∀ {D : List Nat} {L : Array Bool}, (fp L D).size = L.size
 | [], _ => rfl
 | i :: r, L => by rw [fp, eS]; simp
theorem iM : ∀ {D : List Nat} {L : Array Bool} {j : Nat}, j < L.size -> ((fp L D).getD j false = true ↔ L.getD j false = true ∨ j ∈ D)
 | [], _, _, _ => by simp [fp]
 | i :: r, L, j, hj => by
  rw [fp, iM (by simpa using hj), gy]
  constructor
  ·rintro ((h | ⟨rfl, _⟩) | h)
   ·exact .inl h
   ·exact .inr (List.mem_cons_self ..)
   ·exact .inr (List.mem_cons_of_mem _ h)
  ·rintro (h | h)
   ·exact .inl (.inl h)
   ·rcases List.mem_cons.1 h with rfl | h
    ·exact .inl (.inr ⟨rfl, hj⟩)
    ·exact .inr h
theorem jH {p skip : Nat -> Bool} : ∀ {l : List Nat} {L : Array Bool}, l.Pairwise (· < ·) -> (∀ i ∈ l, i < L.size) ->
  (∀ i ∈ l, p i = true -> ∀ e ∈ (cG ops i).after, Region.binds .any e = true -> L.getD e.on false = true ∨ (e.on ∈ l /\ p e.on = true /\ e.on < i)) -> (∀ i ∈ l, p i = false -> skip i = true) -> l.filter p ∈ fT ops skip l L
 | [], _, _, _, _, _ => by simp [fT]
 | i :: l, L, hs, hz, h, hk => by
  have hlt : ∀ {j}, j ∈ l -> i < j := fun hj => List.rel_of_pairwise_cons hs hj
  simp only [fT, List.mem_append]
  cases hp : p i with
  | true =>
   left
   have hd : xy ops L i = true := by
    unfold xy
    rw [List.all_eq_true]
    intro e he
    cases hb : Region.binds .any e with
    | false => rfl
    | true =>
     rcases h i (List.mem_cons_self ..) hp e (by simpa using he) hb with h1 | ⟨h1, _, h2⟩
     ·simp only [Bool.not_true, Bool.false_or]; exact h1
     ·rcases List.mem_cons.1 h1 with h1 | h1
      ·omega
      ·have := hlt h1; omega
   rw [hd, cond_true, List.filter_cons_of_pos hp]
   refine List.mem_map.2 ⟨_, jH (List.Pairwise.of_cons hs) (fun j hj => by simpa using hz j (List.mem_cons_of_mem _ hj)) (fun j hj hpj e he hb => ?_) (fun j hj => hk j (List.mem_cons_of_mem _ hj)), rfl⟩
   rcases h j (List.mem_cons_of_mem _ hj) hpj e he hb with h1 | ⟨h1, h2, h3⟩
   ·exact .inl (gy.2 (.inl h1))
   ·rcases List.mem_cons.1 h1 with h1 | h1
    ·exact .inl (gy.2 (.inr ⟨h1.symm, hz i (List.mem_cons_self ..)⟩))
    ·exact .inr ⟨h1, h2, h3⟩
  | false =>
   right
   rw [List.filter_cons_of_neg (by rw [hp]; simp), hk i (List.mem_cons_self ..) hp, cond_true]
   refine jH (List.Pairwise.of_cons hs) (fun j hj => hz j (List.mem_cons_of_mem _ hj)) (fun j hj hpj e he hb => ?_) (fun j hj => hk j (List.mem_cons_of_mem _ hj))
   rcases h j (List.mem_cons_of_mem _ hj) hpj e he hb with h1 | ⟨h1, h2, h3⟩
   ·exact .inl h1
   ·rcases List.mem_cons.1 h1 with h1 | h1
    ·rw [h1, hp] at h2; cases h2
    ·exact .inr ⟨h1, h2, h3⟩
theorem vH (L : Array Bool) : (ep E ops L).Pairwise (· < ·) := List.Pairwise.filter _ List.pairwise_lt_range
theorem pz {L : Array Bool} {i : Nat} (h : i ∈ ep E ops L) : i < ops.size := List.mem_range.1 ((List.mem_filter.1 h).1)
theorem z9 (hed : km ops.size ops = true) {i : Nat} (hi : i < ops.size) {e : Edge} (he : e ∈ (cG ops i).after) (hb : Region.binds .any e = true) : e.on < i := by
 unfold km at hed
 have := List.all_eq_true.1 hed i (List.mem_range.2 hi)
 rw [wA hi] at this
 have := List.all_eq_true.1 this e (by simpa using he)
 simpa [hb] using this
theorem UU {L : Array Bool} {i : Nat} (h : L.getD i false = true) : i < L.size := by
 rcases Nat.lt_or_ge i L.size with h1 | h1
 ·exact h1
 ·simp [Array.getElem?_eq_none h1] at h
theorem uK {A : List Nat} {L : Array Bool} (hed : km ops.size ops = true) (hL : L.size = ops.size) (hA : ∀ i ∈ A, i < ops.size) (hp : re E ops L A = true) {i : Nat} (hi : i ∈ A) {e : Edge} (he : e ∈ (cG ops i).after) (hb : Region.binds .any e = true) :
  (L.getD e.on false = true ∨ e.on ∈ A) /\ e.on < i := by
 refine ⟨?_, z9 hed (hA i hi) he hb⟩
 unfold re at hp
 rw [Bool.and_eq_true, List.all_eq_true] at hp
 have h1 := hp.1 i hi
 simp only [Bool.and_eq_true] at h1
 have h2 := List.all_eq_true.1 h1.2 e (by simpa using he)
 simp only [hb, Bool.not_true, Bool.false_or] at h2
 have h3 := UU h2
 rw [eS] at h3
 exact (iM h3).1 h2
theorem JZ {L : Array Bool} (hed : km ops.size ops = true) (hL : L.size = ops.size) (hp : re E ops L (ep E ops L) = true) : ep E ops L ∈ fT ops (mi ops L (ep E ops L)) (ep E ops L) L := by
 have := jH (ops := ops) (p := fun _ => true) (skip := mi ops L (ep E ops L)) (vH L) (fun i hi => by rw [hL]; exact pz hi) (L := L) (fun i hi _ e he hb => by
  obtain ⟨h1, h2⟩ := uK hed hL (fun i hi => pz hi) hp hi he hb
  exact h1.imp id fun h => ⟨h, rfl, h2⟩) (fun _ _ h => by cases h)
 rwa [List.filter_eq_self.2 (fun _ _ => rfl)] at this
theorem ig {L : Array Bool} {i : Nat} (h : i ∈ Region.ready .any ops L) (hL : L.size = ops.size) : L.getD i false = false /\ i < ops.size := by
 have := (mem_ready.1 h).1
 refine ⟨getD_both this, ?_⟩
 obtain ⟨_, o, ho, _⟩ := mem_ready.1 h
 exact (Array.getElem?_eq_some_iff.1 ho).1
theorem Jp (hed : km ops.size ops = true) {L : Array Bool} (hL : L.size = ops.size) (h : Region.ready .any ops L = []) : ∀ i, i < ops.size -> L.getD i false = true := by
 intro i
 induction i using Nat.strongRecOn with
 | ind i ih =>
  intro hi
  cases hu : L.getD i false with
  | true => rfl
  | false =>
   have : i ∈ Region.ready .any ops L := mem_ready.2 ⟨by rw [← hu]; simp [Array.getD, hL, hi], _, wA hi, fun e he hb => ih _ (z9 hed hi he hb) (Nat.lt_trans (z9 hed hi he hb) hi)⟩
   rw [h] at this
   cases this
theorem qM {L listed : Array Bool} {A : List Nat} {h : Nat} (hr : h ∈ Region.ready .any ops listed) (hA : h ∉ A) (hL : L.size = ops.size) (hLl : ∀ i, L.getD i false = true -> listed.getD i false = true) : ∀ i ∈ A, listed.getD i false = false -> mi ops L A i = true := by
 intro i hi hu
 obtain ⟨hu', o, ho, haft⟩ := mem_ready.1 hr
 have hh := (Array.getElem?_eq_some_iff.1 ho).1
 have hb0 := getD_both hu'
 have hLh : L.getD h true = false := by
  have h1 : L.getD h false = false := by
   cases h2 : L.getD h false with
   | false => rfl
   | true => rw [hLl h h2] at hb0; cases hb0
  rw [← h1]; simp [Array.getD, hL, hh]
 unfold mi
 rw [List.any_eq_true]
 refine ⟨h, List.mem_range.2 hh, ?_⟩
 rw [hLh, Bb ho]
 have hc : A.contains h = false := by
  cases hc : A.contains h with
  | false => rfl
  | true => exact absurd (by simpa using hc) hA
 rw [hc]
 simp only [Bool.not_false, Bool.true_and, Bool.not_eq_true', List.any_eq_false]
 intro e he hb
 rw [Bool.and_eq_true, beq_iff_eq] at hb
 have := haft e (by simpa using he) hb.1
 rw [hb.2, hu] at this
 cases this
theorem Bu {A : List Nat} {next : Array Bool -> List (List Nat)} {L : Array Bool} (hn : ∀ L, L.size = ops.size -> next L ≠ []) (hL : L.size = ops.size) (hA : ∀ i ∈ A, L.getD i false = true) {D : List Nat} : ∃ m, D ++ m ∈ branch ops A next L D := by
 unfold branch
 simp only [aP]
 split
 ·exact ⟨[], by simp⟩
 ·rename_i hr
  cases hrs : Region.ready .any ops L with
  | nil => rw [hrs] at hr; simp at hr
  | cons h rs =>
   have hh : h ∈ Region.ready .any ops L := by rw [hrs]; exact List.mem_cons_self ..
   have hc : A.contains h = false := by
    cases hc : A.contains h with
    | false => rfl
    | true =>
     have h1 := hA h (by simpa using hc)
     rw [(ig hh hL).1] at h1
     cases h1
   cases hnx : next (L.setIfInBounds h true) with
   | nil => exact absurd hnx (hn _ (by simpa using hL))
   | cons π πs =>
    cases hgd : (cG ops h).guard.isNone with
    | true => exact ⟨h :: π, List.mem_flatMap.2 ⟨h, List.mem_filter.2 ⟨List.mem_cons_self .., by simpa using hc⟩, by rw [hgd]; exact List.mem_map.2 ⟨π, by rw [hnx]; exact List.mem_cons_self .., rfl⟩⟩⟩
    | false => exact ⟨[ops.size], List.mem_flatMap.2 ⟨h, List.mem_filter.2 ⟨List.mem_cons_self .., by simpa using hc⟩, by rw [hgd]; exact List.mem_singleton.2 rfl⟩⟩
theorem mD (hed : km ops.size ops = true) : ∀ (f : Nat) (L : Array Bool), L.size = ops.size -> eO E ops f L ≠ []
 | 0, _, _ => by simp [eO]
 | f + 1, L, hL => by
  simp only [eO]
  split
  ·rename_i i hi
   have := mD hed f (L.setIfInBounds i true) (by simpa using hL)
   simpa using this
  ·simp only [aP]
   split
   ·rename_i hp
    obtain ⟨m, hm⟩ := Bu (D := ep E ops L) (A := ep E ops L) (L := fp L (ep E ops L)) (mD hed f) (by rw [eS]; exact hL) (fun i hi => (iM (by rw [hL]; exact pz hi)).2 (.inr hi))
    exact List.ne_nil_of_mem (List.mem_flatMap.2 ⟨_, JZ hed hL hp, hm⟩)
   ·simp
def VD (E : Env) (call : bh) (ops : Array Oper) (st : St) (D : List Nat) : Prop := ∀ j, j < ops.size -> ∃ o p, Val E call ops.toList (lD ops D) st j o p
theorem Cz {D : List Nat} (hl : ∀ i ∈ D, ga E (cG ops i) = true) : ∀ o ∈ lD ops D, dY E o = true /\ cT o = false := by
 intro o ho
 unfold lD at ho
 obtain ⟨i, hi, rfl⟩ := List.mem_map.1 ho
 cases hc : D.contains i with
 | true =>
  have := hl i (by simpa using hc)
  unfold ga at this
  simp only [Bool.and_eq_true, Bool.not_eq_true'] at this
  exact this
 | false => exact ⟨rfl, rfl⟩
theorem Rl {D : List Nat} {m : List Nat} {k : St -> Option R} (hl : ∀ i ∈ D, ga E (cG ops i) = true) (hD : (List.range ops.size).filter D.contains = D) (h : bJ E call ops.toList ((D ++ m).map (cG ops)) st k = some r) :
  VD E call ops st D /\ bJ E call ops.toList (m.map (cG ops)) (txt E call ops.toList (lD ops D) st ops.size) k = some r := by
 rw [List.map_append, pT] at h
 have h1 : bJ E call ops.toList (lD ops D) st (fun s => bJ E call ops.toList (m.map (cG ops)) s k) = some r := by
  unfold lD
  rw [tM, hD]
  exact h
 have hall := Cz hl
 obtain ⟨h2, h3⟩ := zS ops.size (by rw [RG]; exact Nat.le_refl _) (by
  rw [List.all_eq_true]
  intro o ho
  exact (hall o (List.mem_of_mem_take ho)).1) (fun j o hj ho hs => by
  rw [(hall o (List.mem_of_getElem? ho)).2] at hs
  cases hs) h1
 rw [List.drop_eq_nil_of_le (by rw [RG]; exact Nat.le_refl _)] at h2
 exact ⟨h3, h2⟩
theorem ni.none {l : List Oper} {st : St} {n : Nat} {W : Nat -> Nat -> Bool} (hl : ∀ o ∈ l, cT o = false) : ni E call ops.toList l st n W := by
 have no : ∀ {j o p}, Val E call ops.toList l st j o p -> cT o = true -> False := fun hv hs => by
  rw [hl _ (List.mem_of_getElem? hv.1)] at hs; cases hs
 exact ⟨fun j k o o' p p' i _ _ hv _ hs => (no hv hs).elim, fun j k o o' p p' i _ _ hv _ hs => (no hv hs).elim, fun j m o o' p i t v _ _ _ hv _ hs => (no hv hs).elim, fun j o p _ hv hs => (no hv hs).elim⟩
theorem Kv {D : List Nat} {j k t : Nat} {oj ok : Oper} (hj : j < ops.size) (hk : k < ops.size) (h1 : (lD ops D)[j]? = some oj) (h2 : (lD ops D)[k]? = some ok) (h3 : ok.dst = some t) :
  k ∈ D /\ ok = cG ops k /\ (.tmp t ∈ opn ops.toList oj -> j ∈ D /\ oj = cG ops j /\ .tmp t ∈ opn ops.toList (cG ops j)) := by
 rw [DO hj] at h1
 rw [DO hk] at h2
 cases h1; cases h2
 have hkd : D.contains k = true := by
  cases hc : D.contains k with
  | true => rfl
  | false => rw [hc] at h3; cases h3
 refine ⟨by simpa using hkd, by rw [hkd]; rfl, fun hm => ?_⟩
 cases hc : D.contains j with
 | true =>
  rw [hc] at hm
  exact ⟨by simpa using hc, rfl, hm⟩
 | false =>
  rw [hc] at hm
  simp [opn, tst, M5, Op.operands] at hm
theorem Ks {A : List Nat} {L : Array Bool} (hp : re E ops L A = true) {D : List Nat} (hD : ∀ i ∈ D, i ∈ A) : HeadW E ops.toList (lD ops D) ops.size (fun a b => D.contains a && Region.waitsFor .any ops a b) := by
 unfold re at hp
 rw [Bool.and_eq_true, List.all_eq_true] at hp
 have hl : ∀ i ∈ D, ga E (cG ops i) = true := fun i hi => by
  have := hp.1 i (hD i hi)
  simp only [Bool.and_eq_true] at this
  exact this.1.1
 have hr := hp.2
 unfold Qv at hr
 refine ⟨?_, fun j k oj ok t hj hk h1 h2 h3 h4 => ?_, fun j k oj ok t hj hk h1 h2 h3 h4 => ?_⟩
 ·rw [List.all_eq_true]
  intro o ho
  exact (Cz hl o (List.mem_of_mem_take ho)).1
 ·obtain ⟨hkD, rfl, _⟩ := Kv hj hk h1 h2 h4
  obtain ⟨hjD, rfl, _⟩ := Kv hj hj h1 h1 h3
  have := List.all_eq_true.1 (List.all_eq_true.1 hr j (hD j hjD)) k (hD k hkD)
  simp only [h4, h3, Bool.and_eq_true, Bool.or_eq_true, beq_iff_eq, bne_iff_ne, ne_eq, not_true_eq_false, or_false] at this
  exact this.1
 ·obtain ⟨hkD, rfl, h5⟩ := Kv hj hk h1 h2 h3
  obtain ⟨hjD, rfl, h6⟩ := h5 h4
  have := List.all_eq_true.1 (List.all_eq_true.1 hr j (hD j hjD)) k (hD k hkD)
  simp only [h3, Bool.and_eq_true, Bool.or_eq_true, decide_eq_true_eq, Bool.not_eq_true'] at this
  have cj : D.contains j = true := by simpa using hjD
  have ck : D.contains k = true := by simpa using hkD
  rcases this.2 with (h | h) | h
  ·rw [List.any_eq_false] at h
   exact absurd (h _ h6) (by simp)
  ·exact .inl ⟨h.1, by rw [cj, h.2]; rfl⟩
  ·exact .inr ⟨h.1, by rw [ck, h.2]; rfl⟩
theorem Part.afL {D : List Nat} {st : St} {Lp : Nat -> Prop} (h : ∀ j, j < ops.size -> Lp j -> j ∉ D) : Part E call ops.toList (lD ops D) st ops.size Lp st := by
 have nop : ∀ {j o p}, j < ops.size -> Lp j -> Val E call ops.toList (lD ops D) st j o p -> o = M5 /\ p.2 = [] := by
  intro j o p hj hl hv
  have hc : D.contains j = false := by
   cases hc : D.contains j with
   | true => exact absurd (by simpa using hc) (h j hj hl)
   | false => rfl
  have h1 := hv.1
  rw [DO hj, hc] at h1
  cases h1
  refine ⟨rfl, ?_⟩
  have h2 := hv.2.2.1
  simp only [cond_false, gop, sop, hop, M5, qop] at h2
  cases h2
  rfl
 refine ⟨rfl, fun j o p t hj hl hv hd => ?_, fun t _ => rfl, fun i b => ⟨fun hb => .inr ⟨?_, .inl hb⟩, ?_⟩⟩
 ·rw [(nop hj hl hv).1] at hd; cases hd
 ·rintro b' ⟨j, o, p, hj, hl, hv, hs, _⟩
  rw [(nop hj hl hv).1] at hs; cases hs
 ·rintro (⟨j, o, p, hj, hl, hv, hs, _⟩ | ⟨_, hb | ⟨j, o, p, hj, hl, hv, hs, hg⟩⟩)
  ·rw [(nop hj hl hv).1] at hs; cases hs
  ·exact hb
  ·rw [(nop hj hl hv).2] at hg; cases hg
theorem B2 {o : Oper} {f : Nat -> Option Bool} (h : o.guard = none) : Region.wanted o f = true := by simp [Region.wanted, h]
theorem HL (hE : Env.Ok P E) (hC : eb P call) (hed : km ops.size ops = true) (hns : Region.noSelect ops = true) {k : St -> Option R} {Q : Exit -> Act -> World -> Prop}
  (hnext : ∀ ρ' st' a' w', k st' = some r -> Sim P B O w0 ρ' st' a' w' -> Q .normal a' w') (hQ : ∀ c a w, ¬ Q (.panic c) a w) :
  ∀ (f : Nat) (L : Array Bool) (st : St) (ρ : aE) (a : Act) (w : World) (fuel : Nat), HeadInv .any ops ops.size L -> cnt L ops.size = fuel -> Sim P B O w0 ρ st a w ->
   (∀ π ∈ eO E ops f L, bJ E call ops.toList (π.map (cG ops)) st k = some r) -> wpAny P .any ops Q fuel L a w := by
 intro f
 induction f with
 | zero =>
  intro L st ρ a w fuel inv hc hS h
  have := h [ops.size] (by simp [eO])
  rw [List.map_cons, yM] at this
  exact (Ch this).elim
 | succ f ih =>
  intro L st ρ a w fuel inv hc hS h
  have hrun : ∀ {i : Nat} {s : St} {a : Act} {w : World} {ρ : aE} {n : Nat} {L : Array Bool}, HeadInv .any ops ops.size L -> cnt L ops.size = n + 1 -> i ∈ Region.ready .any ops L -> cnt (L.setIfInBounds i true) ops.size = n := by
   intro i s a w ρ n L inv hc hi
   obtain ⟨h1, h2⟩ := ig hi inv.size
   have := wm (listed := L) (i := i) (by rw [inv.size]; exact h2) h1 ops.size
   rw [if_pos h2] at this
   omega
  have hpos : ∀ {i : Nat} {L : Array Bool} {n : Nat}, HeadInv .any ops ops.size L -> cnt L ops.size = n -> i ∈ Region.ready .any ops L -> ∃ m, n = m + 1 := by
   intro i L n inv hc hi
   obtain ⟨h1, h2⟩ := ig hi inv.size
   have := wm (listed := L) (i := i) (by rw [inv.size]; exact h2) h1 ops.size
   rw [if_pos h2] at this
   exact ⟨n - 1, by omega⟩
  simp only [eO] at h
  split at h
  ·rename_i i hi
   have hp := List.find?_some hi
   simp only [Bool.and_eq_true] at hp
   obtain ⟨⟨h1, h2⟩, h3⟩ := hp
   have hr : i ∈ Region.ready .any ops L := by simpa using h2
   obtain ⟨hu, hin⟩ := ig hr inv.size
   obtain ⟨m, rfl⟩ := hpos inv hc hr
   have hall : ∀ π ∈ eO E ops f (L.setIfInBounds i true), ∃ s', exec E call (cG ops i) st some = some s' /\ bJ E call ops.toList (π.map (cG ops)) s' k = some r := by
    intro π hπ
    have := h (i :: π) (List.mem_map.2 ⟨π, hπ, rfl⟩)
    rw [List.map_cons, eh] at this
    have hgn : (cG ops i).guard = none := by unfold eP at h1; rw [Bool.and_eq_true] at h1; exact Option.isNone_iff_eq_none.1 h1.1
    unfold vg1 at this
    simp only [hgn] at this
    exact HJ this
   cases hpl : eO E ops f (L.setIfInBounds i true) with
   | nil => exact absurd hpl (mD hed f _ (by simpa using inv.size))
   | cons π0 πs =>
    obtain ⟨s', hs, _⟩ := hall π0 (by rw [hpl]; exact List.mem_cons_self ..)
    obtain ⟨u, ρ', hy, hS'⟩ := Iz hE hS h1 hs
    refine wpAny_take (wA hin) hns h3 h2 (fun c a w hq => (hQ _ _ _ hq).elim) (.inl ⟨B2 (by unfold eP at h1; rw [Bool.and_eq_true] at h1; exact Option.isNone_iff_eq_none.1 h1.1), hy⟩) ?_
    refine ih _ s' ρ' _ w m (inv.set hr hin) (hrun (s := st) (a := a) (w := w) (ρ := ρ) inv hc hr) hS' fun π hπ => ?_
    obtain ⟨s2, h4, h5⟩ := hall π hπ
    rw [hs] at h4
    cases h4
    exact h5
  ·simp only [aP] at h
   split at h
   case isFalse =>
    have := h [ops.size] (by simp)
    rw [List.map_cons, yM] at this
    exact (Ch this).elim
   rename_i hp
   generalize hAe : ep E ops L = A at h hp
   have hAlt : ∀ i ∈ A, i < ops.size := fun i hi => by rw [← hAe] at hi; exact pz hi
   have hpair : A.Pairwise (· < ·) := by rw [← hAe]; exact vH L
   have hnd : A.Nodup := hpair.imp (fun h => Nat.ne_of_lt h)
   have hAr : ∀ q : Nat -> Bool, (List.range ops.size).filter (A.filter q).contains = A.filter q := by
    intro q
    rw [← hAe]
    unfold ep
    rw [List.filter_filter]
    apply List.filter_congr
    intro i hi
    rw [Bool.eq_iff_iff]
    simp only [List.contains_iff_mem, List.mem_filter, Bool.and_eq_true, hi, true_and]
   have hph := hp
   unfold re at hph
   rw [Bool.and_eq_true, List.all_eq_true] at hph
   have hlt : ∀ i ∈ A, ga E (cG ops i) = true /\ L.getD i false = false := fun i hi => by
    have := hph.1 i hi
    simp only [Bool.and_eq_true, Bool.not_eq_true'] at this
    exact ⟨this.1.1, getD_both this.1.2⟩
   have hlq : ∀ q : Nat -> Bool, ∀ i ∈ A.filter q, ga E (cG ops i) = true := fun q i hi => (hlt i (List.mem_filter.1 hi).1).1
   have hHW : ∀ q : Nat -> Bool, HeadW E ops.toList (lD ops (A.filter q)) ops.size (fun a b => (A.filter q).contains a && Region.waitsFor .any ops a b) := fun q => Ks hp fun i hi => (List.mem_filter.1 hi).1
   have hSO : ∀ (q : Nat -> Bool) W, ni E call ops.toList (lD ops (A.filter q)) st ops.size W := fun q W => ni.none fun o ho => (Cz (hlq q) o ho).2
   have final : ∀ (listed : Array Bool) (a : Act) (w : World) (ρ : aE) (s : St), (∀ i ∈ A, listed.getD i false = false -> mi ops L A i = true) -> HeadInv .any ops ops.size listed -> (∀ i, L.getD i false = true -> listed.getD i false = true) -> (∀ i, listed.getD i false = true -> L.getD i false = true ∨ i ∈ A) -> Sim P B O w0 ρ s a w ->
     (∀ q : Nat -> Bool, A.filter q ∈ fT ops (mi ops L A) A L -> (∀ i ∈ A, listed.getD i false = true -> q i = true) -> VD E call ops st (A.filter q) -> Part E call ops.toList (lD ops (A.filter q)) st ops.size (fun i => listed.getD i false = true ∨ ¬ (i ∈ A /\ q i = true)) s) ->
     ∀ m, (∃ m', A.filter (fun i => listed.getD i false) ++ m' ∈ branch ops A (eO E ops f) listed (A.filter (fun i => listed.getD i false)) /\ m' = m) ->
      ∃ s', Sim P B O w0 ρ s' a w /\ s' = txt E call ops.toList (lD ops (A.filter fun i => listed.getD i false)) st ops.size /\ bJ E call ops.toList (m.map (cG ops)) s' k = some r := by
    intro listed a w ρ s hskip inv' hL1 hL2 hS' hpart m hm
    obtain ⟨m', hm, rfl⟩ := hm
    have hsub : A.filter (fun i => listed.getD i false) ∈ fT ops (mi ops L A) A L := by
     refine jH hpair (fun i hi => by rw [inv.size]; exact hAlt i hi) (fun i hi hpi e he hb => ?_) hskip
     obtain ⟨h1, h2⟩ := uK hed inv.size hAlt hp hi he hb
     rcases h1 with h1 | h1
     ·exact .inl h1
     ·exact .inr ⟨h1, inv'.closed i _ (wA (hAlt i hi)) hpi e he hb, h2⟩
    have hset : fp L (A.filter fun i => listed.getD i false) = listed := by
     apply Array.ext
     ·rw [eS, inv.size, inv'.size]
     ·intro i h1 h2
      have h3 : i < L.size := by rw [eS] at h1; exact h1
      have := iM (D := A.filter fun i => listed.getD i false) h3
      have h4 : (fp L (A.filter fun i => listed.getD i false)).getD i false = listed.getD i false := by
       rw [Bool.eq_iff_iff, this]
       constructor
       ·rintro (h | h)
        ·exact hL1 i h
        ·exact (List.mem_filter.1 h).2
       ·intro h
        rcases hL2 i h with h5 | h5
        ·exact .inl h5
        ·exact .inr (List.mem_filter.2 ⟨h5, h⟩)
      have e1 : (fp L (A.filter fun i => listed.getD i false)).getD i false = (fp L (A.filter fun i => listed.getD i false))[i] := by rw [Array.getD, dif_pos h1]; rfl
      have e2 : listed.getD i false = listed[i] := by rw [Array.getD, dif_pos h2]; rfl
      rw [← e1, ← e2]
      exact h4
    have hr := h _ (List.mem_flatMap.2 ⟨_, hsub, by rw [hset]; exact hm⟩)
    obtain ⟨hVD, hrun'⟩ := Rl (hlq _) (hAr _) hr
    have hpt := hpart _ hsub (fun i _ h => h) hVD
    obtain ⟨h1, h2⟩ := Part.same hVD hpt (nn (hHW _) (hSO _ _) hVD ops.size (Nat.le_refl _)) (fun j hj => by
     by_cases hjl : listed.getD j false = true
     ·exact .inl hjl
     ·exact .inr fun h => hjl h.2) (fun j hj => hj)
    exact ⟨_, hS'.same h1 h2, rfl, hrun'⟩
   have main : ∀ (fuel : Nat) (listed : Array Bool) (a : Act) (w : World) (ρ : aE) (s : St), HeadInv .any ops ops.size listed -> cnt listed ops.size = fuel -> (∀ i, L.getD i false = true -> listed.getD i false = true) -> (∀ i, listed.getD i false = true -> L.getD i false = true ∨ i ∈ A) -> Sim P B O w0 ρ s a w ->
     (∀ q : Nat -> Bool, A.filter q ∈ fT ops (mi ops L A) A L -> (∀ i ∈ A, listed.getD i false = true -> q i = true) -> VD E call ops st (A.filter q) -> Part E call ops.toList (lD ops (A.filter q)) st ops.size (fun i => listed.getD i false = true ∨ ¬ (i ∈ A /\ q i = true)) s) ->
     wpAny P .any ops Q fuel listed a w := by
    intro fuel
    have done : ∀ (listed : Array Bool) (a : Act) (w : World) (ρ : aE) (s : St), HeadInv .any ops ops.size listed -> (∀ i, L.getD i false = true -> listed.getD i false = true) -> (∀ i, listed.getD i false = true -> L.getD i false = true ∨ i ∈ A) -> Sim P B O w0 ρ s a w ->
      (∀ q : Nat -> Bool, A.filter q ∈ fT ops (mi ops L A) A L -> (∀ i ∈ A, listed.getD i false = true -> q i = true) -> VD E call ops st (A.filter q) -> Part E call ops.toList (lD ops (A.filter q)) st ops.size (fun i => listed.getD i false = true ∨ ¬ (i ∈ A /\ q i = true)) s) ->
      Region.ready .any ops listed = [] -> Q .normal a w := by
     intro listed a w ρ s inv' hL1 hL2 hS' hpart hre
     obtain ⟨s', h1, h2, h3⟩ := final listed a w ρ s (fun i hi hu => by rw [Jp hed inv'.size hre i (hAlt i hi)] at hu; cases hu) inv' hL1 hL2 hS' hpart [] ⟨[], by unfold branch; rw [hre]; simp, rfl⟩
     exact hnext ρ s' a w h3 h1
    induction fuel with
    | zero =>
     intro listed a w ρ s inv' hc' hL1 hL2 hS' hpart
     have hre : Region.ready .any ops listed = [] := by
      cases hrs : Region.ready .any ops listed with
      | nil => rfl
      | cons i rs =>
       have hi : i ∈ Region.ready .any ops listed := by rw [hrs]; exact List.mem_cons_self ..
       obtain ⟨h1, h2⟩ := ig hi inv'.size
       rw [rm hc' i h2] at h1
       cases h1
     exact ⟨hre, done listed a w ρ s inv' hL1 hL2 hS' hpart hre⟩
    | succ fuel ihf =>
     intro listed a w ρ s inv' hc' hL1 hL2 hS' hpart
     refine ⟨done listed a w ρ s inv' hL1 hL2 hS' hpart, fun i hi => ?_⟩
     obtain ⟨hu, hin⟩ := ig hi inv'.size
     obtain ⟨hu', oi, hoi, haft⟩ := mem_ready.1 hi
     have : oi = cG ops i := (Bb hoi).symm
     subst this
     by_cases hiA : i ∈ A
     ·have step : ∀ q : Nat -> Bool, A.filter q ∈ fT ops (mi ops L A) A L -> (∀ x ∈ A, listed.getD x false = true -> q x = true) -> VD E call ops st (A.filter q) -> q i = true ->
        ∃ p, Val E call ops.toList (lD ops (A.filter q)) st i (cG ops i) p /\ gop E call ops.toList s.sg (aF s.sl) (cG ops i) = some p /\ (∀ x ∈ p.2, s.sg.get x.1 = none) := by
       intro q hq hdn hVD hqi
       have hpq := hpart q hq hdn hVD
       obtain ⟨o, p, hv⟩ := hVD i hin
       have hci : (A.filter q).contains i = true := by
        rw [List.contains_iff_mem]
        exact List.mem_filter.2 ⟨hiA, hqi⟩
       have ho := hv.1
       rw [DO hin, hci] at ho
       cases ho
       simp only [cond_true] at hv
       have hli := hlq q i (List.mem_filter.2 ⟨hiA, hqi⟩)
       unfold ga at hli
       simp only [Bool.and_eq_true, Bool.not_eq_true'] at hli
       obtain ⟨g1, g2, _⟩ := FQ (hHW q) (hSO q _) hVD hpq hin hv (by rw [hu]; simp [hiA, hqi]) (fun x y hx hy hxl hxy => by
        rw [Bool.and_eq_true] at hxy
        obtain ⟨oj, hoj, e, he, hbd, hon⟩ := Region.waitsFor_spec hxy.2
        rcases hxl with hxl | hxl
        ·rw [← hon]
         exact .inl (inv'.closed x oj hoj hxl e he hbd)
        ·exact absurd (List.mem_filter.1 (by simpa using hxy.1)) hxl) (fun y hy hxy => by
        rw [Bool.and_eq_true] at hxy
        obtain ⟨oj, hoj, e, he, hbd, hon⟩ := Region.waitsFor_spec hxy.2
        have : oj = cG ops i := Option.some.inj (hoj.symm.trans hoi)
        subst this
        rw [← hon]
        exact .inl (haft e he hbd)) hS'.dom
       exact ⟨p, hv, g1, g2 hli.2⟩
      have hsubA : A.filter (fun _ => true) ∈ fT ops (mi ops L A) A L := by
       refine jH hpair (fun i hi => by rw [inv.size]; exact hAlt i hi) (fun i hi _ e he hb => ?_) (fun _ _ h => by cases h)
       obtain ⟨h1, h2⟩ := uK hed inv.size hAlt hp hi he hb
       exact h1.imp id fun h => ⟨h, rfl, h2⟩
      have hVDA : VD E call ops st (A.filter fun _ => true) := by
       obtain ⟨m, hm⟩ := Bu (D := A.filter fun _ => true) (A := A) (L := fp L (A.filter fun _ => true)) (mD (E := E) hed f) (by rw [eS]; exact inv.size) (fun i hi => (iM (by rw [inv.size]; exact hAlt i hi)).2 (.inr (List.mem_filter.2 ⟨hi, rfl⟩)))
       exact (Rl (hlq _) (hAr _) (h _ (List.mem_flatMap.2 ⟨_, hsubA, hm⟩))).1
      obtain ⟨p, hv, hgo, hfr⟩ := step _ hsubA (fun _ _ _ => rfl) hVDA rfl
      have hli := (hlt i hiA).1
      unfold ga at hli
      simp only [Bool.and_eq_true, Bool.not_eq_true'] at hli
      have next : ∀ ρ' a' w', Sim P B O w0 ρ' (aft (cG ops i) p s) a' w' -> wpAny P .any ops Q fuel (listed.setIfInBounds i true) a' w' := by
       intro ρ' a' w' h'
       refine ihf _ a' w' ρ' _ (inv'.set hi hin) (hrun (s := st) (a := a) (w := w) (ρ := ρ) inv' hc' hi) (fun x hx => gy.2 (.inl (hL1 x hx))) (fun x hx => ?_) h' fun q hq hdn hVD => ?_
       ·rcases gy.1 hx with hx | ⟨rfl, _⟩
        ·exact hL2 x hx
        ·exact .inr hiA
       ·have hqi : q i = true := hdn i hiA (gy.2 (.inr ⟨rfl, by rw [inv'.size]; exact hin⟩))
        have hdn' : ∀ x ∈ A, listed.getD x false = true -> q x = true := fun x hx hxl => hdn x hx (gy.2 (.inl hxl))
        obtain ⟨p', hv', hgo', _⟩ := step q hq hdn' hVD hqi
        rw [hgo] at hgo'
        cases hgo'
        refine (hpart q hq hdn' hVD).step (hSO q (fun _ _ => true)) hin (by rw [hu]; simp [hiA, hqi]) hv' (fun x => ?_) (fun x o' t hx h1 h2 h3 => (hHW q).uniq x i o' _ t hx hin h1 hv'.1 h2 h3) (fun _ => hfr) (fun _ x o' p' y hx _ hvx hso _ => ?_)
        ·rw [gy]
         constructor
         ·rintro ((h | ⟨h, _⟩) | h)
          ·exact .inl (.inl h)
          ·exact .inr h.symm
          ·exact .inl (.inr h)
         ·rintro ((h | h) | h)
          ·exact .inl (.inl h)
          ·exact .inr h
          ·exact .inl (.inr ⟨h.symm, by rw [inv'.size]; exact hin⟩)
        ·rw [(Cz (hlq q) o' (List.mem_of_getElem? hvx.1)).2] at hso
         cases hso
      unfold wpOp
      simp only [hoi]
      rcases Af hS' hli.1 hgo with ⟨hw, hh⟩ | ⟨hw, hnst, rfl⟩
      ·rw [if_pos hw]
       have hex : exec E call (cG ops i) s some = some (aft (cG ops i) p s) := by
        rw [xV hli.2] at hh
        rw [Hq (R := St) hli.1 hh some, oe hli.2]
       refine .inl (jy hE hC hS' (cG ops i) hex fun ρ' st' a' w' heq h' => ?_)
       cases heq
       exact next ρ' a' w' h'
      ·rw [if_neg (by rw [hw]; simp)]
       refine next ρ _ w ?_
       rw [oe hnst]
       exact hS'.put (cG ops i).dst (v := .tup []) (u := undef) ⟨[], rfl, .nil⟩ (fun d hd => by cases hd)
     ·obtain ⟨π0, πs, hpl⟩ : ∃ π0 πs, eO E ops f (listed.setIfInBounds i true) = π0 :: πs := by
       cases hpl : eO E ops f (listed.setIfInBounds i true) with
       | nil => exact absurd hpl (mD hed f _ (by simpa using inv'.size))
       | cons π0 πs => exact ⟨_, _, rfl⟩
      have hgd : (cG ops i).guard.isNone = true := by
       cases hgd : (cG ops i).guard.isNone with
       | true => rfl
       | false =>
        exfalso
        obtain ⟨s', _, _, h3⟩ := final listed a w ρ s (qM hi hiA inv.size hL1) inv' hL1 hL2 hS' hpart [ops.size] ⟨_, by
         unfold branch
         have hne : (Region.ready .any ops listed).isEmpty = false := by
          cases hrs : Region.ready .any ops listed with
          | nil => rw [hrs] at hi; cases hi
          | cons x xs => rfl
         rw [hne]
         exact List.mem_flatMap.2 ⟨i, List.mem_filter.2 ⟨hi, by simpa using hiA⟩, by rw [hgd]; exact List.mem_singleton.2 rfl⟩, rfl⟩
        rw [List.map_cons, yM] at h3
        exact Ch h3
      have hgn : (cG ops i).guard = none := Option.isNone_iff_eq_none.1 hgd
      have hw : ∀ f, Region.wanted (cG ops i) f = true := fun f => B2 hgn
      have hbr : ∀ π ∈ eO E ops f (listed.setIfInBounds i true), A.filter (fun i => listed.getD i false) ++ (i :: π) ∈ branch ops A (eO E ops f) listed (A.filter (fun i => listed.getD i false)) := by
       intro π hπ
       unfold branch
       have hne : (Region.ready .any ops listed).isEmpty = false := by
        cases hrs : Region.ready .any ops listed with
        | nil => rw [hrs] at hi; cases hi
        | cons x xs => rfl
       rw [hne]
       exact List.mem_flatMap.2 ⟨i, List.mem_filter.2 ⟨hi, by simpa using hiA⟩, by rw [hgd]; exact List.mem_map.2 ⟨π, hπ, rfl⟩⟩
      have hall : ∀ π ∈ eO E ops f (listed.setIfInBounds i true), ∃ s', exec E call (cG ops i) (txt E call ops.toList (lD ops (A.filter fun i => listed.getD i false)) st ops.size) some = some s' /\ bJ E call ops.toList (π.map (cG ops)) s' k = some r := by
       intro π hπ
       obtain ⟨s', h1, h2, h3⟩ := final listed a w ρ s (qM hi hiA inv.size hL1) inv' hL1 hL2 hS' hpart (i :: π) ⟨_, hbr π hπ, rfl⟩
       subst h2
       rw [List.map_cons, eh] at h3
       unfold vg1 at h3
       simp only [hgn] at h3
       exact HJ h3
      obtain ⟨s0, hS0, rfl, _⟩ := final listed a w ρ s (qM hi hiA inv.size hL1) inv' hL1 hL2 hS' hpart (i :: π0) ⟨_, hbr π0 (by rw [hpl]; exact List.mem_cons_self ..), rfl⟩
      obtain ⟨s1, hs1, _⟩ := hall π0 (by rw [hpl]; exact List.mem_cons_self ..)
      unfold wpOp
      simp only [hoi, hw, if_true]
      refine .inl (jy hE hC hS0 (cG ops i) hs1 fun ρ' st' a' w' heq h' => ?_)
      cases heq
      refine ih _ s1 ρ' a' w' fuel (inv'.set hi hin) (hrun (s := st) (a := a) (w := w) (ρ := ρ) inv' hc' hi) h' fun π hπ => ?_
      obtain ⟨s2, h4, h5⟩ := hall π hπ
      rw [hs1] at h4
      cases h4
      exact h5
   refine main fuel L a w ρ st inv hc (fun _ h => h) (fun _ h => .inl h) hS fun q hq _ hVD => ?_
   refine Part.afL fun j hj hl hm => ?_
   obtain ⟨h1, h2⟩ := List.mem_filter.1 hm
   rcases hl with hl | hl
   ·rw [(hlt j h1).2] at hl; cases hl
   ·exact hl ⟨h1, h2⟩
def GB (ops : Array Oper) : Bool := km ops.size ops && Region.noSelect ops
theorem C5 (hE : Env.Ok P E) (hC : eb P call) (hm : P.follows .mixedOrders = true) {id : Nat} {k : St -> Option R} {Q : Exit -> Act -> World -> Prop} (hb : GB ops = true) (hS : Sim P B O w0 ρ st a w)
  (h : ∀ π ∈ eO E ops (ops.size + 1) (Array.replicate ops.size false), bJ E call ops.toList (π.map (cG ops)) st k = some r)
  (hnext : ∀ ρ' st' a' w', k st' = some r -> Sim P B O w0 ρ' st' a' w' -> Q .normal a' w') : (Code.region id ops true).wp P Q a w := by
 unfold GB at hb
 simp only [Bool.and_eq_true] at hb
 refine wp_mono (Q := fun e a w => e = .normal /\ Q .normal a w) (wp_region_any hm ?_) fun e a w hq => by obtain ⟨rfl, hq⟩ := hq; exact hq
 exact HL hE hC hb.1 hb.2 (fun ρ' st' a' w' h1 h2 => ⟨rfl, hnext ρ' st' a' w' h1 h2⟩) (fun c a w hq => by cases hq.1) _ _ st ρ a _ _
  ⟨by simp, fun j oj _ hl => (by rw [getD_replicate_false] at hl; cases hl), fun t _ ht => getD_in (by simpa using ht) (getD_replicate_false _ _)⟩ (Ag _ _)
  (hS.below ⟨rfl, rfl, rfl, Nat.le_refl _, fun _ _ => rfl⟩) h
end
end Go.Proofs.YtahlaccdpmddbaaGreat.Lib
namespace Go.Proofs.YtahlaccdpmddbaaGreat.Lib
open Go Go.RowKit Go.WideShapes
set_option linter.unusedVariables false
set_option linter.unusedSimpArgs false
abbrev here (w : World) : Nat -> Prop := fun g => g < w.heap.size
def Ty.ok : (t : Ty) -> t.T -> Prop
 | .int k, n => (Lit.int k n).wf = true
 | .bool, _ => True
 | .str, s => s.size <= 9223372036854775807
 | .sl _ t, l => (∀ x, x ∈ l -> t.ok x) /\ l.length <= 9223372036854775807
 | .pair a b, p => a.ok p.1 /\ b.ok p.2
 | .nul _, _ => True
def B9 (P : Program) (t : TypeId) (d : Ty) : Prop :=
 ∀ (H : Type) (enc : TypeId × Value -> H) (w : World) (base : Nat) (spare : Nat -> Bool) (held : Bool) (fuel : Nat) (cs : List Value) (x : DataW H × List MemPlace),
  DataW.trod enc P w base spare held fuel t cs = some x -> ∃ y : d.T, Rp (here w) w d y cs /\ d.ok y
theorem MX {P : Program} {t : TypeId} {k : IntKind} (ht : P.underlying t = some (.int k)) : B9 P t (.int k) := by
 intro H enc w base spare held fuel cs x h
 obtain ⟨n, rfl, _, hw⟩ := DataW.trod_int ht h
 exact ⟨n, by simp only [Rp], hw⟩
theorem collect {α : Type} {Q : Nat -> α -> Prop} : ∀ n : Nat, (∀ i, i < n -> ∃ y, Q i y) -> ∃ ys : List α, ys.length = n /\ ∀ (i : Nat) (y : α), ys[i]? = some y -> Q i y
 | 0, _ => ⟨[], rfl, fun i y h => by simp at h⟩
 | n + 1, h => by
  obtain ⟨ys, hl, hys⟩ := collect n (fun i hi => h i (by omega))
  obtain ⟨y, hy⟩ := h n (by omega)
  refine ⟨ys ++ [y], by simp [hl], fun i z hz => ?_⟩
  by_cases hi : i < ys.length
  ·rw [List.getElem?_append_left hi] at hz
   exact hys i z hz
  ·rw [List.getElem?_append_right (by omega)] at hz
   have : i - ys.length = 0 := by
    rcases Nat.eq_zero_or_pos (i - ys.length) with e | e
    ·exact e
    ·rw [List.getElem?_eq_none (by simp; omega)] at hz
     exact absurd hz (by simp)
   rw [this] at hz
   simp at hz
   subst hz
   rw [show i = n by omega]
   exact hy
theorem L8 {w : World} {base : Nat} {a : Addr} {n : Nat} {c : List Value} (h : w.cells? base a n = some c) : c.length = n /\ ∀ (i : Nat) (u : Value), c[i]? = some u -> w.cell? (a.add i) = some u := by
 unfold World.cells? at h
 split at h
 ·have hl := mapM_some_length h
  rw [List.length_range] at hl
  refine ⟨hl, fun i u hi => ?_⟩
  have hlt : i < n := by
   have := (List.getElem?_eq_some_iff.1 hi).1
   omega
  have := mapM_some_get h i i (by rw [List.getElem?_range hlt])
  rw [this, hi]
 ·exact absurd h (by simp)
theorem AR {w : World} {a : Addr} {u : Value} (h : w.cell? a = some u) : a.block < w.heap.size := by
 unfold World.cell? at h
 rcases Nat.lt_or_ge a.block w.heap.size with h' | h'
 ·exact h'
 ·rw [Array.getElem?_eq_none h'] at h
  cases h
theorem Ia {P : Program} {t e : TypeId} {d : Ty} (ht : P.underlying t = some (.slice e)) (hsz : P.cellsOf e = d.sz) (he : B9 P e d) : B9 P t (.sl e d) := by
 intro H enc w base spare held fuel cs x h
 rcases DataW.trod_slice ht h with ⟨rfl, _⟩ | ⟨a, len, cap, elems, rest, n, _, rfl, _, _, hl, hm, hlen, hel, _, _⟩
 ·refine ⟨[], ?_, fun x hx => by simp at hx, by simp⟩
  simp only [Rp]
  exact ⟨none, 0, rfl, Nat.le_refl _, Nat.zero_le _, fun h => absurd h (by simp)⟩
 ·obtain ⟨ys, hyl, hys⟩ := collect (α := d.T) (Q := fun i y => d.ok y /\ ∃ c, c.length = d.sz /\ Rp (here w) w d y c /\ ∀ (q : Nat) (u : Value), c[q]? = some u -> w.cell? (a.add (i * d.sz + q)) = some u) len (fun i hi => by
   have h1 := hel i hi
   rw [List.getElem?_eq_getElem (by omega), Option.bind_eq_some_iff] at h1
   obtain ⟨c, hc, hx⟩ := h1
   obtain ⟨y, hy, hok⟩ := he H enc w base spare held n c _ hx
   obtain ⟨_, hcg⟩ := L8 hc
   refine ⟨y, hok, c, hy.len, hy, fun q u hq => ?_⟩
   have := hcg q u hq
   rwa [cV, hsz] at this)
  have hmax : len <= 9223372036854775807 := Nat.le_trans hl hm
  refine ⟨ys, ?_, fun y hy => ?_, by omega⟩
  ·simp only [Rp]
   refine ⟨some a, cap, by rw [hyl], by omega, hm, fun hpos => ⟨a, rfl, ?_, fun j p hj => (hys j p hj).2⟩⟩
   obtain ⟨_, c, hc, _, hq⟩ := hys 0 ys[0] (List.getElem?_eq_getElem hpos)
   have h0 := hq 0 _ (List.getElem?_eq_getElem (by rw [hc]; exact d.lZ))
   have := AR h0
   rwa [AE] at this
  ·obtain ⟨i, hi⟩ := List.getElem?_of_mem hy
   exact (hys i y hi).1
abbrev start (w : World) : aE := ⟨fun _ => .dead, fun _ => here w⟩
theorem Np {P : Program} {t e : TypeId} {d : Ty} (ho : B9 P t (.sl e d)) (ht : P.underlying t = some (.slice e)) {H : Type} {enc : TypeId × Value -> H} {w : World} {b base : Nat} {r : Reach} {spare : Nat -> Bool} {held : Bool} {v : Value} {x : DataW H} {ps : List MemPlace}
  (hv : Value.okWide P w r b t v) (h : DataW.Trod enc P w base spare held t v x ps) : ∃ l : List d.T, rav (start w) w (.one (.emb e d l true)) v /\ (Ty.sl e d).ok l := by
 obtain ⟨a, len, cap, rfl⟩ := okWide_slice ht hv
 obtain ⟨fuel, hf⟩ := h
 obtain ⟨l, hr, hok⟩ := ho H enc w base spare held fuel _ _ hf
 exact ⟨l, by simpa [rav, rc, Value.cells] using hr, hok⟩
theorem X8 {H : Type} {enc : TypeId × Value -> H} {P : Program} {W : World} {base : Nat} {spare : Nat -> Bool} {held : Bool} {t : TypeId} {v : Value} {d : DataW H} {ps : List MemPlace} (h : DataW.Trod enc P W base spare held t v d ps) : ∀ x ∈ ps, x.block < W.heap.size := by
 obtain ⟨m, hm⟩ := h
 exact DataW.trod_lt m _ _ _ hm
theorem O4 {P : Program} {W : World} (h : W.ShapedOpen P) : GH P (start W) W := fun G ⟨hg, zero, t, h0, hz, hb, hc, hu⟩ => by
 obtain ⟨m, hm⟩ := Go.Proofs.cell_of_shapedOpen_int h hg h0 hz hb hc hu
 exact ⟨AR hm, m, hm⟩
def bt {α R : Type} (o : Option α) (f : α -> Option R) : Option R := match o with | some x => f x | none => none
theorem iN {α β : Type} [BEq α] [LawfulBEq α] {l : List (α × β)} {a : α} {b : β} (h : l.lookup a = some b) : (a, b) ∈ l := by
 induction l with
 | nil => cases h
 | cons q r ih =>
  obtain ⟨a', b'⟩ := q
  rw [List.lookup_cons] at h
  split at h
  ·rename_i heq
   cases h
   rw [eq_of_beq heq]
   exact List.mem_cons_self
  ·exact List.mem_cons_of_mem _ (ih h)
theorem ah.no {P : Program} : ∀ c : Code, ah P c .none
 | .seq a b => ⟨ah.no a, ah.no b⟩
 | .cond _ a b => ⟨ah.no a, ah.no b⟩
 | .block _ b => ah.no b
 | .loop b => ah.no b
 | .skip | .label _ | .region _ _ _ | .exit _ | .ret | .goto _ | .scope _ | .refuse _ | .rangeFunc _ _ _ _ => trivial
def aB : List Bool -> Code -> Code
 | p, .seq a b => (match p with | false :: p => aB p a | true :: p => aB p b | [] => .skip)
 | p, .cond _ a b => (match p with | false :: p => aB p a | true :: p => aB p b | [] => .skip)
 | p, .block _ b => aB p b
 | p, .loop b => (match p with | [] => b | _ :: p => aB p b)
 | _, _ => .skip
def cv : List Bool -> Code -> LT -> LT -> LT
 | p, .seq a b, t, s => (match p with | false :: p => .node (cv p a t.l s) t.r | true :: p => .node t.l (cv p b t.r s) | [] => t)
 | p, .cond _ a b, t, s => (match p with | false :: p => .node (cv p a t.l s) t.r | true :: p => .node t.l (cv p b t.r s) | [] => t)
 | p, .block _ b, t, s => .node (cv p b t.l s) .none
 | p, .loop b, t, s => (match p with | [] => s | _ :: p => .node (cv p b t.l s) .none)
 | _, _, t, _ => t
theorem ah.put {P : Program} {ss : List SP} {gs : List (Nat × GP)} {F : StT ss gs -> aJ (Ex × St)} (hw : vp ss gs) : ∀ {p : List Bool} {c : Code} {t : LT}, ah P c t -> bl P (aB p c) ss gs F -> ah P c (cv p c t (.sum ss gs F))
 | p, .seq a b, t, h, hl => by
  cases p with
  | nil => exact h
  | cons x p => cases x with
   | false => exact ⟨ah.put hw h.1 hl, h.2⟩
   | true => exact ⟨h.1, ah.put hw h.2 hl⟩
 | p, .cond _ a b, t, h, hl => by
  have h1 : p = [] ∨ (ah P a t.l /\ ah P b t.r) := by
   cases t with
   | sum ss gs F => exact .inr ⟨ah.no a, ah.no b⟩
   | none => exact .inr h
   | node x y => exact .inr h
  cases p with
  | nil => exact h
  | cons x p =>
   have h := h1.resolve_left (by simp)
   cases x with
   | false => exact ⟨ah.put hw h.1 hl, h.2⟩
   | true => exact ⟨h.1, ah.put hw h.2 hl⟩
 | p, .block _ b, t, h, hl => ah.put (c := b) hw h hl
 | p, .loop b, t, h, hl => by
  cases p with
  | nil => exact ⟨hw, hl⟩
  | cons x p =>
   have : ah P b t.l := by
    cases t with
    | sum ss gs F => exact ah.no b
    | none => exact h
    | node x y => exact h
   exact ah.put (c := b) hw this hl
 | p, .skip, t, h, hl => h
 | p, .label _, t, h, hl => h
 | p, .region _ _ _, t, h, hl => h
 | p, .exit _, t, h, hl => h
 | p, .ret, t, h, hl => h
 | p, .goto _, t, h, hl => h
 | p, .scope _, t, h, hl => h
 | p, .refuse _, t, h, hl => h
 | p, .rangeFunc _ _ _ _, t, h, hl => h
def av : List Bool -> Code -> Code
 | p, .seq a b => (match p with | false :: p => av p a | true :: p => av p b | [] => .skip)
 | p, .cond c a b => (match p with | false :: p => av p a | true :: p => av p b | [] => .cond c a b)
 | p, .block _ b => av p b
 | p, .loop b => (match p with | [] => .loop b | _ :: p => av p b)
 | p, .region id ops d => (match p with | [] => .region id ops d | _ => .skip)
 | _, _ => .skip
def aD : List Bool -> Code -> LT -> LT -> LT
 | p, .seq a b, t, s => (match p with | false :: p => .node (aD p a t.l s) t.r | true :: p => .node t.l (aD p b t.r s) | [] => t)
 | p, .cond _ a b, t, s => (match p with | false :: p => .node (aD p a t.l s) t.r | true :: p => .node t.l (aD p b t.r s) | [] => s)
 | p, .block _ b, t, s => .node (aD p b t.l s) .none
 | p, .loop b, t, s => (match p with | [] => s | _ :: p => .node (aD p b t.l s) .none)
 | p, .region _ _ _, t, s => (match p with | [] => s | _ => t)
 | _, _, t, _ => t
theorem ah.b7 {P : Program} {ss : List SP} {gs : List (Nat × GP)} {F : StT ss gs -> aJ (Ex × St)} (hw : vp ss gs) : ∀ {p : List Bool} {c : Code} {t : LT}, ah P c t -> aN P (av p c) ss gs F -> ah P c (aD p c t (.sum ss gs F))
 | p, .seq a b, t, h, hl => by
  cases p with
  | nil => exact h
  | cons x p => cases x with
   | false => exact ⟨ah.b7 hw h.1 hl, h.2⟩
   | true => exact ⟨h.1, ah.b7 hw h.2 hl⟩
 | p, .cond _ a b, t, h, hl => by
  have h1 : (ah P a t.l /\ ah P b t.r) := by
   cases t with
   | sum ss gs F => exact ⟨ah.no a, ah.no b⟩
   | none => exact h
   | node x y => exact h
  cases p with
  | nil => exact ⟨hw, hl⟩
  | cons x p =>
   have h := h1
   cases x with
   | false => exact ⟨ah.b7 hw h.1 hl, h.2⟩
   | true => exact ⟨h.1, ah.b7 hw h.2 hl⟩
 | p, .block _ b, t, h, hl => ah.b7 (c := b) hw h hl
 | p, .loop b, t, h, hl => by
  cases p with
  | nil => exact ⟨hw, hl⟩
  | cons x p =>
   have : ah P b t.l := by
    cases t with
    | sum ss gs F => exact ah.no b
    | none => exact h
    | node x y => exact h
   exact ah.b7 (c := b) hw this hl
 | p, .skip, t, h, hl => h
 | p, .label _, t, h, hl => h
 | p, .region _ _ _, t, h, hl => by
  cases p with
  | nil => exact ⟨hw, hl⟩
  | cons x p => exact h
 | p, .exit _, t, h, hl => h
 | p, .ret, t, h, hl => h
 | p, .goto _, t, h, hl => h
 | p, .scope _, t, h, hl => h
 | p, .refuse _, t, h, hl => h
 | p, .rangeFunc _ _ _ _, t, h, hl => h
theorem ah.sJ {P : Program} {p : List Bool} {c : Code} {t : LT} {ss : List SP} {gs : List (Nat × GP)} {F : StT ss gs -> aJ (Ex × St)} (hp : av p c = .loop (aB p c)) (hw : vp ss gs) (h : ah P c t) (hl : bl P (aB p c) ss gs F) : ah P c (aD p c t (.sum ss gs F)) :=
 ah.b7 hw h (by rw [hp]; exact hl)
def ae (f : Func) : Code := f.body.getD .skip
theorem Env.Ok.of {P : Program} {E : Env} (h : ∀ q ∈ E.ti, TI.Ok P q.1 q.2) (hf : ∀ q ∈ E.fn, P.funcs[q.1]? = some q.2 /\ (q.2.name == "runtime.NumGoroutine") = false) (hp : ∀ q ∈ E.prim, kp P q.1 q.2) (hl : ∀ q ∈ E.lt, ∀ fn, P.funcs[q.1]? = some fn -> ah P (ae fn) q.2) (hm : ∀ q ∈ E.mark, DD P q.1 q.2) (he : ∀ t ∈ E.eqt, EqT P t) (hg : ∀ q ∈ E.gen, bu P q.1 q.2) : Env.Ok P E :=
 ⟨fun t i hl => h _ (iN hl), fun f fn hl => hf _ (iN hl), hp, fun f fn c hf1 hb => by
  unfold Env.Oy
  cases hlk : E.lt.lookup f with
  | none => exact ah.no c
  | some t =>
   have := hl _ (iN hlk) fn (hf _ (iN hf1)).1
   unfold ae at this
   rw [hb] at this
   exact this, fun f m hl => hm _ (iN hl), he, hg⟩
theorem EqT.of {P : Program} {t : TypeId} {fa : Array Field} (h1 : P.stoodInHeld t = false) (h2 : P.eqGuardType P.depth t = false) (h3 : P.underlying t = some (.struct fa)) (h4 : fa.toList.all (fun f => f.name != "_") = true) : EqT P t :=
 ⟨h1, h2, fun fa' h5 f hf => by
  rw [h3] at h5
  cases h5
  have := List.all_eq_true.1 h4 f hf
  simpa using this⟩
theorem D2 {α : Type} {p : α -> Prop} : ∀ q ∈ ([] : List α), p q := fun q h => by cases h
theorem mem_cons {α : Type} {p : α -> Prop} {a : α} {l : List α} (h : p a) (h' : ∀ q ∈ l, p q) : ∀ q ∈ a :: l, p q := fun q hq => (List.mem_cons.1 hq).elim (fun e => e ▸ h) (h' q)
def YO : TypeDesc -> Bool
 | .struct _ => false | .array _ _ => false | _ => true
theorem TI.ki {P : Program} {t : TypeId} {ti : TypeInfo} {d : TypeDesc} {by_ : Nat} {z : Value} {fl : Bool} (h1 : P.info? t = some ti) (h2 : P.underlying t = some d) (h3 : ti.size = 1 /\ ti.bytes = by_) (h4 : ti.zero = some z /\ z.cells = #[UO fl]) (h5 : YO d = true) : TI.Ok P t ⟨.other, 1, by_, some (.nul fl)⟩ :=
 ⟨⟨ti, h1, h3.1, h3.2, fun τ h => by cases h; exact ⟨rfl, z, h4.1, h4.2⟩⟩, _, h2, by clear h2; cases d <;> first | rfl | cases h5⟩
theorem TI.ok_int {P : Program} {t : TypeId} {ti : TypeInfo} {k : IntKind} {by_ : Nat} {z : Value} (h1 : P.info? t = some ti) (h2 : P.underlying t = some (.int k)) (h3 : ti.size = 1 /\ ti.bytes = by_) (h4 : ti.zero = some z /\ z.cells = #[.int k 0]) : TI.Ok P t ⟨.scal, 1, by_, some (.int k)⟩ :=
 ⟨⟨ti, h1, h3.1, h3.2, fun τ h => by cases h; exact ⟨rfl, z, h4.1, h4.2⟩⟩, _, h2, rfl⟩
theorem TI.Tu {P : Program} {t : TypeId} {ti : TypeInfo} {by_ : Nat} {z : Value} (h1 : P.info? t = some ti) (h2 : P.underlying t = some .bool) (h3 : ti.size = 1 /\ ti.bytes = by_) (h4 : ti.zero = some z /\ z.cells = #[.bool false]) : TI.Ok P t ⟨.scal, 1, by_, some .bool⟩ :=
 ⟨⟨ti, h1, h3.1, h3.2, fun τ h => by cases h; exact ⟨rfl, z, h4.1, h4.2⟩⟩, _, h2, rfl⟩
theorem TI.ok_slice {P : Program} {t e : TypeId} {ti : TypeInfo} {by_ : Nat} {z : Value} {τ : Ty} (h1 : P.info? t = some ti) (h2 : P.underlying t = some (.slice e)) (h3 : ti.size = 1 /\ ti.bytes = by_) (h4 : ti.zero = some z /\ z.cells = #[.slice none 0 0]) : TI.Ok P t ⟨.slice e, 1, by_, some (.sl e τ)⟩ :=
 ⟨⟨ti, h1, h3.1, h3.2, fun τ h => by cases h; exact ⟨rfl, z, h4.1, h4.2⟩⟩, _, h2, rfl⟩
theorem TI.dq {P : Program} {t : TypeId} {ti : TypeInfo} {fa : Array Field} {fs : List (TypeId × Nat)} {sz by_ : Nat} {z : Value} {τ : Ty} (h1 : P.info? t = some ti) (h2 : P.underlying t = some (.struct fa)) (h3 : ti.size = sz /\ ti.bytes = by_) (h4 : ti.zero = some z /\ z.cells = τ.zv.toArray) (h5 : τ.sz = sz)
  (h6 : fs = fa.toList.map fun f => (f.type, f.offset)) (h7 : fa.toList.all (fun f => ((P.info? f.type).map (·.size)).getD 0 != 0) = true) : TI.Ok P t ⟨.struct fs, sz, by_, some τ⟩ :=
 ⟨⟨ti, h1, h3.1, h3.2, fun τ h => by cases h; exact ⟨h5, z, h4.1, h4.2⟩⟩, _, h2, fa, rfl, h6, fun f hf => by
  have := List.all_eq_true.1 h7 f hf
  cases hi : P.info? f.type with
  | none => rw [hi] at this; simp at this
  | some fi => rw [hi] at this; exact ⟨fi, rfl, by simpa using this⟩⟩
end Go.Proofs.YtahlaccdpmddbaaGreat.Lib
namespace Go.Proofs.YtahlaccdpmddbaaGreat.Lib
open Go Go.RowKit Go.WideShapes
set_option linter.unusedVariables false
section
variable {α V R S : Type}
def rV (o : Option α) (z : V) (v : α -> V) : V := match o with | some x => v x | none => z
def pB (o : Option α) (d : α -> Bool) : Bool := match o with | some x => d x | none => false
theorem tC {c : Bool} {f : V -> R} {A B : Option R} {x y : V} (hA : A = some (f x)) (hB : B = some (f y)) : cond c A B = some (f (cond c x y)) := by cases c <;> assumption
theorem aq {W : Type} {o : Option V} {z : V} {f : V -> W} {A : Option W} (h : A = o.bind fun r => some (f r)) : A = (aJ.br o.isSome (.done (f (o.getD z))) .no).run some := by rw [h]; cases o <;> rfl
theorem pS {f : V -> R} (x : V) : some (f x) = cond true (some (f x)) none := rfl
theorem pN {f : V -> R} (x : V) : none = cond false (some (f x)) none := rfl
theorem pC {c dA dB : Bool} {f : V -> R} {A B : Option R} {x y : V} (hA : A = cond dA (some (f x)) none) (hB : B = cond dB (some (f y)) none) : cond c A B = cond (cond c dA dB) (some (f (cond c x y))) none := by cases c <;> assumption
theorem pI {p : Prop} [Decidable p] {dA : Bool} {f : V -> R} {A : Option R} {x : V} (hA : A = cond dA (some (f x)) none) : (if p then A else none) = cond (decide p && dA) (some (f x)) none := by
 by_cases hp : p
 ·rw [if_pos hp, hA, decide_eq_true hp]; rfl
 ·rw [if_neg hp, decide_eq_false hp]; rfl
theorem pO {o : Option α} {f : V -> R} {A : α -> Option R} {d : α -> Bool} {v : α -> V} {z : V} (hA : ∀ x, A x = cond (d x) (some (f (v x))) none) : bt o A = cond (pB o d) (some (f (rV o z v))) none := by
 cases o with
 | none => rfl
 | some x => exact hA x
theorem bC {c : Bool} {k : S -> Option R} {A B : Option S} {A' B' : Option R} (hA : A' = A.bind k) (hB : B' = B.bind k) : cond c A' B' = (cond c A B).bind k := by cases c <;> assumption
theorem bI {p : Prop} [Decidable p] {k : S -> Option R} {A : Option S} {A' : Option R} (hA : A' = A.bind k) : (if p then A' else none) = (if p then A else none : Option S).bind k := by split <;> first | assumption | rfl
theorem TN {p : Prop} [Decidable p] {k : S -> Option R} {A : Option S} {A' : Option R} (hA : A' = A.bind k) : (if p then none else A') = (if p then none else A : Option S).bind k := by split <;> first | assumption | rfl
theorem bO {o : Option α} {k : S -> Option R} {A : α -> Option S} {A' : α -> Option R} (hA : ∀ x, A' x = (A x).bind k) : bt o A' = (bt o A).bind k := by
 cases o with
 | none => rfl
 | some x => exact hA x
def iter (s : V -> Option (Nat × V)) : Nat -> V -> Option (Nat × V)
 | 0, _ => none
 | n + 1, v => (s v).bind fun q => match q.1 with | 0 => iter s n q.2 | c + 1 => some (c, q.2)
def mU (s : V -> Option (Nat × V)) (n : Nat) (v : V) (c : Nat) : Bool := match iter s n v with | some q => q.1 == c | none => false
def v8 (s : V -> Option (Nat × V)) (n : Nat) (v : V) : V := match iter s n v with | some q => q.2 | none => v
def cW (body : St -> (Ex -> St -> Option R) -> Option R) (z : Nz) (bld : V -> St) (ex : List Ex) (n : Nat) (K : Ex -> St -> Option R) (q : Nat × V) : Option R :=
 match q.1 with | 0 => iy body z n (bld q.2) K | c + 1 => K (ex.getD c .normal) (bld q.2)
theorem AF {body : St -> (Ex -> St -> Option R) -> Option R} {z : Nz} {bld : V -> St} {s : V -> Option (Nat × V)} {ex : List Ex} {K : Ex -> St -> Option R}
  (h : ∀ n v, iy body z (n + 1) (bld v) K = (s v).bind (cW body z bld ex n K)) : ∀ n v, iy body z n (bld v) K = (iter s n v).bind fun q => K (ex.getD q.1 .normal) (bld q.2)
 | 0, v => rfl
 | n + 1, v => by
  rw [h, iter]
  cases s v with
  | none => rfl
  | some q =>
   obtain ⟨c, v'⟩ := q
   cases c with
   | zero => exact AF h n v'
   | succ c => rfl
def bo (s : V -> Option (Nat × V)) (N : Nat) (v : V) (bld : V -> St) : List Ex -> Nat -> aJ (Ex × St)
 | [], _ => .no
 | e :: es, c => .br (mU s N v c) (.done (e, bld (v8 s N v))) (bo s N v bld es (c + 1))
theorem yz {s : V -> Option (Nat × V)} {N : Nat} {v : V} {bld : V -> St} {e : Ex} {st' : St} : ∀ (es : List Ex) (c : Nat), (bo s N v bld es c).run some = some (e, st') -> ∃ i, es[i]? = some e /\ iter s N v = some (c + i, v8 s N v) /\ st' = bld (v8 s N v)
 | [], c, h => by cases h
 | x :: es, c, h => by
  simp only [bo, aJ.run] at h
  cases hc : mU s N v c with
  | true =>
   rw [hc] at h
   simp only [cond_true, Option.some.injEq, Prod.mk.injEq] at h
   obtain ⟨rfl, rfl⟩ := h
   refine ⟨0, rfl, ?_, rfl⟩
   unfold mU at hc
   unfold v8
   cases hi : iter s N v with
   | none => rw [hi] at hc; cases hc
   | some q =>
    rw [hi] at hc
    obtain ⟨c', v'⟩ := q
    have : c' = c := by simpa using hc
    subst this
    rfl
  | false =>
   rw [hc] at h
   obtain ⟨i, h1, h2, h3⟩ := yz es (c + 1) h
   exact ⟨i + 1, by simpa using h1, by rw [h2]; simp only [Nat.add_assoc, Nat.add_comm 1 i], h3⟩
end
section
variable {P : Program} {E : Env}
theorem aw (hE : Env.Ok P E) (hm : P.follows .mixedOrders = true) {b : Code} {lt : LT} (hlt : ah P b lt) {ss : List SP} {gs : List (Nat × GP)} {s : StT ss gs -> Option (Nat × StT ss gs)} {N : StT ss gs -> Nat} {ex : List Ex}
  (h : ∀ (n : Nat) (v : StT ss gs) (K : Ex -> St -> Option (Ex × St)), iy (dy E (jo E fH 0) fH 0 b lt) (.norm ss gs) (n + 1) (ax ss gs v) K = (s v).bind (cW (dy E (jo E fH 0) fH 0 b lt) (.norm ss gs) (ax ss gs) ex n K)) :
  bl P b ss gs fun v => bo s (N v) v (ax ss gs) ex 0 := by
 refine MT (draw := fH) hE (fun call hC => nE hE hm call hC) hlt 0 0 (.norm ss gs) fun v e st' hv => ⟨N v, ?_⟩
 obtain ⟨i, h1, h2, h3⟩ := yz ex 0 hv
 rw [AF (K := fun e st => some (e, st)) (fun n v => h n v _) (N v) v, h2, h3, Nat.zero_add]
 simp [h1]
theorem aI (hE : Env.Ok P E) (hm : P.follows .mixedOrders = true) {c : Code} {lt : LT} (hlt : ah P c lt) {ss : List SP} {gs : List (Nat × GP)} {F : StT ss gs -> aJ (Ex × St)} {sx : List SP} {gx : List (Nat × GP)}
  (h : ∀ (v : StT ss gs), dy E (jo E fH 0) fH 0 c lt (ax ss gs v) (fun e st => bif st.sl.length == sx.length then some (e, st.norm sx gx) else none) = (F v).run some) : aN P c ss gs F := by
 intro B O w0 w ρ a v e st' Q hF hS hn
 have hD := fun call hC => nE hE hm call hC
 have hC := eV hE hD 0
 refine cz (R := Ex × St) (r := (e, st')) hE hC (hD _ hC) 0 c lt _ ρ a w _ Q hlt hS ((h v).trans hF) fun e1 ρ1 st1 a1 w1 hk h1 => ?_
 simp only [aP] at hk
 split at hk
 ·rename_i hl
  cases hk
  obtain ⟨ρ2, h2⟩ := h1.norm sx gx
  exact hn ρ2 a1 w1 h2
 ·cases hk
theorem CS (hE : Env.Ok P E) (hm : P.follows .mixedOrders = true) {id : Nat} {ops : Array Oper} (hb : GB ops = true) (n : Nat) {ss : List SP} {gs : List (Nat × GP)} {F : StT ss gs -> aJ (Ex × St)} {sx : List SP} {gx : List (Nat × GP)}
  (h : ∀ (v : StT ss gs), ((eO E ops (ops.size + 1) (Array.replicate ops.size false)).map fun π => bJ E (jo E fH 0) ops.toList (π.map (cG ops)) (ax ss gs v) (fun st => bif st.sl.length == sx.length then some (Ex.normal, st.norm sx gx) else none)) = List.replicate n ((F v).run some)) : aN P (.region id ops true) ss gs F := by
 intro B O w0 w ρ a v e st' Q hF hS hn
 have hC := eV hE (fun call hC => nE hE hm call hC) 0
 refine C5 (R := Ex × St) (r := (e, st')) hE hC hm hb hS (k := fun st => bif st.sl.length == sx.length then some (Ex.normal, st.norm sx gx) else none) (fun π hπ => ?_) fun ρ1 st1 a1 w1 hk h1 => ?_
 ·have h1 := List.mem_map_of_mem (f := fun π => bJ E (jo E fH 0) ops.toList (π.map (cG ops)) (ax ss gs v) (fun st => bif st.sl.length == sx.length then some (Ex.normal, st.norm sx gx) else none)) hπ
  rw [h v] at h1
  rw [List.eq_of_mem_replicate h1]
  exact hF
 ·simp only [aP] at hk
  split at hk
  ·rename_i hl
   cases hk
   obtain ⟨ρ2, h2⟩ := h1.norm sx gx
   exact hn ρ2 a1 w1 h2
  ·cases hk
@[reducible] def U2 (l : List SP) : List SP := .und :: .und :: l
@[reducible] def U4 (l : List SP) : List SP := .und :: .und :: .und :: .und :: l
@[reducible] def U8 (l : List SP) : List SP := U4 (U4 l)
@[reducible] def U16 (l : List SP) : List SP := U8 (U8 l)
@[reducible] def U32 (l : List SP) : List SP := U16 (U16 l)
@[reducible] def U64 (l : List SP) : List SP := U32 (U32 l)
def gJ : Code -> Array Oper | .region _ ops _ => ops | _ => #[]
def Pb : Code -> Bool | .region _ _ d => d | _ => false
theorem bq {c : Code} (hc : Pb c = true) (hE : Env.Ok P E) (hm : P.follows .mixedOrders = true) (hb : GB (gJ c) = true) (n : Nat) {ss : List SP} {gs : List (Nat × GP)} {F : StT ss gs -> aJ (Ex × St)} {sx : List SP} {gx : List (Nat × GP)}
  (h : ∀ (v : StT ss gs), ((eO E (gJ c) ((gJ c).size + 1) (Array.replicate (gJ c).size false)).map fun π => bJ E (jo E fH 0) (gJ c).toList (π.map (cG (gJ c))) (ax ss gs v) (fun st => bif st.sl.length == sx.length then some (Ex.normal, st.norm sx gx) else none)) = List.replicate n ((F v).run some)) : aN P c ss gs F := by
 cases c with
 | region id ops d =>
  have : d = true := hc
  subst this
  exact CS hE hm hb n h
 | _ => cases hc
def l8 (E : Env) (c : Code) (sx : List SP) (gx : List (Nat × GP)) (st : St) (π : List Nat) : Option (Ex × St) := bJ E (jo E fH 0) (gJ c).toList (π.map (cG (gJ c))) st (fun st => bif st.sl.length == sx.length then some (Ex.normal, st.norm sx gx) else none)
theorem nq {c : Code} (hc : Pb c = true) (hE : Env.Ok P E) (hm : P.follows .mixedOrders = true) (hb : GB (gJ c) = true) {πs : List (List Nat)} (hp : eO E (gJ c) ((gJ c).size + 1) (Array.replicate (gJ c).size false) = πs) {ss : List SP} {gs : List (Nat × GP)} {F : StT ss gs -> aJ (Ex × St)} {sx : List SP} {gx : List (Nat × GP)}
  (h : ∀ (v : StT ss gs), ∀ π ∈ πs, l8 E c sx gx (ax ss gs v) π = (F v).run some) : aN P c ss gs F :=
 bq hc hE hm hb πs.length (sx := sx) (gx := gx) fun v => by rw [hp]; exact (List.map_congr_left (h v)).trans List.map_const'
theorem ar {Q : List Nat -> Prop} {x : List Nat} {l : List (List Nat)} (h : Q x) (hl : ∀ π ∈ l, Q π) : ∀ π ∈ x :: l, Q π := fun q hq => (List.mem_cons.1 hq).elim (fun e => e ▸ h) (hl q)
theorem Ei {Q : List Nat -> Prop} : ∀ π ∈ ([] : List (List Nat)), Q π := fun _ h => nomatch h
theorem MA (hE : Env.Ok P E) (hm : P.follows .mixedOrders = true) {f : FuncId} {p : Prim} (h : ∀ v, jo E fH 1 f (SPs.bld (R := Unit) p.ss v).1 [] = (p.F v).run some) : kp P f p :=
 Nh (draw := fH) hE (fun call hC => nE hE hm call hC) fun v res out hv => ⟨1, by rw [h v]; exact hv⟩
theorem bH (hE : Env.Ok P E) (hm : P.follows .mixedOrders = true) {f : FuncId} {m : Gen} (hwf : vp m.ss m.gs) (hfn : ∃ fn c, E.fn.lookup f = some fn /\ fn.body = some c) (h : ∀ v, Kq E fH 0 f (ax m.ss m.gs v) = (m.F v).run some) : bu P f m :=
 Ob (draw := fH) hE (fun call hC => nE hE hm call hC) hwf hfn fun v res fin hv => ⟨0, by rw [h v]; exact hv⟩
theorem aQ {g : FuncId} {f : Func} {t : LT} (hf : P.funcs[g]? = some f) (h : ah P (ae f) t) : ∀ fn, P.funcs[g]? = some fn -> ah P (ae fn) t := fun fn hfn => by
 rw [hf] at hfn
 cases hfn
 exact h
theorem JM {f : FuncId} {p : Prim} (hp : kp P f p) {v : SPs.T p.ss Unit} {b : Bool} (h : (p.F v).run some = some (.one (.bool b), [])) {W : World} (hsh : W.ShapedOpen P) {vs : List Value} (hr : aO (rav (start W) W) (SPs.bld (R := Unit) p.ss v).1 vs) (hu : ∀ x ∈ (SPs.bld (R := Unit) p.ss v).1, ∀ d, x.ak d = false) :
  Calls P f vs.toArray W fun e w' => e = .returned (.bool b) /\ Below W.heap.size W w' := by
 refine (hp v _ _ h (start W) W vs (fun _ _ h => h) (fun _ h => h) (O4 hsh) hr hu).2.mono fun e w' hh => ?_
 obtain ⟨v, ρ', he, hv, _, _, hb⟩ := hh
 have hv : v = .bool b := hv
 subst hv
 exact ⟨he, hb⟩
def Dq (ss : List SP) : Bool := ss.all fun s => match s with | .one (.dat _ _) => true | .agg ps => ps.all (fun p => match p with | .dat _ _ => true | _ => false) | _ => false
theorem TY {ss : List SP} (h : Dq ss = true) (v : SPs.T ss Unit) : ∀ x ∈ (SPs.bld (R := Unit) ss v).1, ∀ d, x.ak d = false := by
 have hc : ∀ {R : Type} (ps : List CP) (y : CPs.T ps R) (d : Nat), ps.all (fun p => match p with | .dat _ _ => true | _ => false) = true -> (CPs.bld ps y).1.any (·.ak d) = false := by
  intro R ps
  induction ps with
  | nil => intro y d h; rfl
  | cons p r ih =>
   intro y d h
   simp only [List.all_cons, Bool.and_eq_true] at h
   cases p with
   | dat t b => simp only [CPs.bld, List.any_append, ua, Bool.false_or]; exact ih _ d h.2
   | own j => cases h.1
   | ptr j c => cases h.1
   | und => cases h.1
   | fnc f ts => cases h.1
   | ept t => cases h.1
   | fnp f js => cases h.1
 have main : ∀ {R : Type} (ss : List SP) (y : SPs.T ss R), Dq ss = true -> ∀ x ∈ (SPs.bld ss y).1, ∀ d, x.ak d = false := by
  intro R ss
  induction ss with
  | nil => intro y h x hx; simp [SPs.bld] at hx
  | cons s r ih =>
   intro y h x hx d
   simp only [Dq, List.all_cons, Bool.and_eq_true] at h
   cases s with
   | und => cases h.1
   | one p =>
    cases p with
    | dat t b =>
     rcases List.mem_cons.1 hx with rfl | hx
     ·have := hc [.dat t b] y d rfl
      generalize (CPs.bld [.dat t b] y).1 = l at this
      unfold oneOf
      split
      ·simpa [AV.ak] using this
      ·rfl
     ·exact ih _ h.2 x hx d
    | own j => cases h.1
    | ptr j c => cases h.1
    | und => cases h.1
    | fnc f ts => cases h.1
    | ept t => cases h.1
    | fnp f js => cases h.1
   | agg ps =>
    rcases List.mem_cons.1 hx with rfl | hx
    ·exact hc ps y d h.1
    ·exact ih _ h.2 x hx d
 exact main ss v h
end
structure eE (P : Program) where
 E : Env
 ok : Env.Ok P E
def eE.base (P : Program) (ti : List (TypeId × TI)) (fn : List (FuncId × Func)) (eqt : List TypeId) (h : ∀ q ∈ ti, TI.Ok P q.1 q.2) (hf : ∀ q ∈ fn, P.funcs[q.1]? = some q.2 /\ (q.2.name == "runtime.NumGoroutine") = false) (he : ∀ t ∈ eqt, EqT P t) : eE P :=
 ⟨{ ti := ti, fn := fn, eqt := eqt }, Env.Ok.of h hf (fun _ h => nomatch h) (fun _ h => nomatch h) (fun _ h => nomatch h) he (fun _ h => nomatch h)⟩
theorem Lq {α : Type} {Q : α -> Prop} {x : α} {l : List α} (h : Q x) (hl : ∀ q ∈ l, Q q) : ∀ q ∈ x :: l, Q q := fun q hq => (List.mem_cons.1 hq).elim (fun e => e ▸ h) (hl q)
def eE.p {P : Program} {f : FuncId} {p : Prim} (e : eE P) (h : kp P f p) : eE P := ⟨{ e.E with prim := (f, p) :: e.E.prim }, ⟨e.ok.ti, e.ok.fn, Lq (Q := fun q : FuncId × Prim => kp P q.1 q.2) h e.ok.prim, e.ok.lt, e.ok.mark, e.ok.eqt, e.ok.gen⟩⟩
def eE.g {P : Program} {f : FuncId} {p : Gen} (e : eE P) (h : bu P f p) : eE P := ⟨{ e.E with gen := (f, p) :: e.E.gen }, ⟨e.ok.ti, e.ok.fn, e.ok.prim, e.ok.lt, e.ok.mark, e.ok.eqt, Lq (Q := fun q : FuncId × Gen => bu P q.1 q.2) h e.ok.gen⟩⟩
def eE.m {P : Program} {f : FuncId} {p : Mrk} (e : eE P) (h : DD P f p) : eE P := ⟨{ e.E with mark := (f, p) :: e.E.mark }, ⟨e.ok.ti, e.ok.fn, e.ok.prim, e.ok.lt, fun f' m hm => by
 simp only [List.lookup] at hm
 split at hm
 ·rename_i hb
  have := eq_of_beq hb
  subst this
  cases hm
  exact h
 ·exact e.ok.mark f' m hm, e.ok.eqt, e.ok.gen⟩⟩
def eE.l {P : Program} {g : FuncId} {t : LT} (e : eE P) (h : ∀ fn, P.funcs[g]? = some fn -> ah P (ae fn) t) : eE P := ⟨{ e.E with lt := (g, t) :: e.E.lt }, ⟨e.ok.ti, e.ok.fn, e.ok.prim, fun f fn c hf hb => by
 unfold Env.Oy
 simp only [List.lookup]
 split
 ·rename_i hg
  have := eq_of_beq hg
  subst this
  have h1 := h fn (e.ok.fn _ _ hf).1
  unfold ae at h1
  rw [hb] at h1
  exact h1
 ·exact e.ok.lt f fn c hf hb, e.ok.mark, e.ok.eqt, e.ok.gen⟩⟩
end Go.Proofs.YtahlaccdpmddbaaGreat.Lib
namespace Go.Proofs.YtahlaccdpmddbaaGreat.Lib
open Go Go.RowKit Go.Lib
set_option linter.unusedVariables false
set_option linter.unusedSimpArgs false
def Dy (t tb : TypeId) (y z : String) : Oper := { dst := some 4, op := Op.binOp BinOp.eql t (Operand.tmp 3) (Operand.const (Value.slice none 0 0)) t, type := tb, pos := y, after := #[{ on := 0, ground := Ground.data }], guard := none }
def RH (t : TypeId) : Code := Code.region 0 #[{ dst := some 2, op := Op.assign (Operand.const (Value.slice none 0 0)), type := t, pos := "slices.go:355", after := #[], guard := none }] false
def PI (t : TypeId) : Oper := { dst := some 3, op := Op.move (Operand.tmp 0), type := t, pos := "slices.go:357", after := #[], guard := none }
def Sy (t : TypeId) : Code := (Code.region 2 #[{ dst := some 2, op := Op.assign (Operand.const (Value.slice none 0 0)), type := t, pos := "slices.go:358", after := #[], guard := none }] false).seq Code.ret
def Co (t : TypeId) : Code :=
  (Code.region 3
    #[{ dst := some 5, op := Op.buildSlice t 0 #[], type := t, pos := "slices.go:362", after := #[], guard := none },
      { dst := some 6, op := Op.move (Operand.tmp 0), type := t, pos := "slices.go:362", after := #[], guard := none },
      { dst := some 7, op := Op.call { callee := Callee.builtin Builtin.append, args := #[Operand.tmp 5, Operand.tmp 6], argTypes := #[t, t] }, type := t, pos := "slices.go:362",
        after := #[{ on := 0, ground := Ground.data }, { on := 1, ground := Ground.data }], guard := none },
      { dst := some 2, op := Op.assign (Operand.tmp 7), type := t, pos := "slices.go:362",
        after := #[{ on := 2, ground := Ground.data }, { on := 2, ground := Ground.chain }, { on := 0, ground := Ground.phase }, { on := 1, ground := Ground.phase }, { on := 2, ground := Ground.phase }], guard := none }]
    false).seq Code.ret
def L6 (t tb : TypeId) : Code := (RH t).seq (((Code.region 1 #[PI t, Dy t tb "slices.go:357" ""] false).seq (Code.cond (Operand.tmp 4) (Sy t) Code.skip)).seq (Co t))
def J1 (e : TypeId) (τ : Ty) (by_ : Nat) : Prim := ⟨[.one (.dat (.sl e τ) true)], fun v => .br (decide (List.length (α := τ.T) v.1 * by_ <= 140737488351232)) (.done (.one (.sl 4096), [(4096, .arr e τ v.1 false)])) .no⟩
theorem Mem.agE {n0 : Nat} {ok : Bool -> Nat -> Prop} {l0 : Nat -> Loc} {ρ : aE} {w : World} {e : TypeId} {τ : Ty} {l : List τ.T} {b b' : Bool} {j : Nat} (hfl : τ.flat = true) (h : Mem n0 ⟨fun _ => False, ok, l0⟩ ρ [(j, .arr e τ l b)] w) : Mem n0 ⟨fun _ => False, ok, l0⟩ ρ [(j, .arr e τ l b')] w := by
  have ho : ∀ i g, bE ρ [(j, Blk.arr e τ l b')] i g -> bE ρ [(j, Blk.arr e τ l b)] i g := by
    intro i g h
    unfold bE at h ⊢
    simp only [Sig.get, aP] at h ⊢
    split at h
    · rename_i he
      split at he
      · cases he
      · cases he
    · rename_i he
      split at he
      · rename_i hc
        rw [if_pos hc]
        exact h
      · cases he
    · exact h.elim
  refine ⟨fun i x hi => ?_, fun i k g h1 h2 => h.inj i k g (ho i g h1) (ho k g h2), fun i g h1 => h.old i g (ho i g h1), h.okb, fun q g hq i h1 => h.oko q g hq i (ho i g h1), h.okm, h.okx, h.oky, fun i x d hi hd => ?_⟩
  · simp only [Sig.get, aP] at hi
    split at hi
    · rename_i hc
      cases hi
      obtain ⟨v, g, xs, h1, h2, h3⟩ := h.blk i _ (by simp only [Sig.get, aP]; rw [if_pos hc])
      exact ⟨v, g, xs, h1, ⟨h2.1, fun q p hp => wB hfl (h2.2 q p hp)⟩, h3⟩
    · cases hi
  · simp only [Sig.get, aP] at hi
    split at hi
    · cases hi; cases hd
    · cases hi
section
variable {P : Program} {E : Env}
theorem K6 (hE : Env.Ok P E) {f : FuncId} {fn : Func} {t tb e : TypeId} {sz sz' bs by_ : Nat} {yt : Option Ty} {td : TD} {τ : Ty} (hf : P.funcs[f]? = some fn) (hn : (fn.name == "runtime.NumGoroutine") = false) (hb : fn.body = some (L6 t tb)) (hnt : fn.ntmps = 8) (hrs : fn.results = #[.tmp 2])
    (ht : E.ti.lookup t = some ⟨.slice e, sz, bs, yt⟩) (he : E.ti.lookup e = some ⟨td, sz', by_, some τ⟩) (hby : by_ ≠ 0) (hfl : τ.flat = true) : kp P f (J1 e τ by_) := by
  intro v res out hv ρ0 w vs hokb hokm hgl hr hu
  refine ⟨⟨fn, hf, by rw [hb]; rfl, hn⟩, ?_⟩
  obtain ⟨l, x⟩ := v
  simp only [J1, aJ.run] at hv
  by_cases hc : List.length (α := τ.T) l * by_ <= 140737488351232
  · rw [decide_eq_true hc] at hv
    simp only [cond_true, Option.some.injEq, Prod.mk.injEq] at hv
    obtain ⟨rfl, rfl⟩ := hv
    have hst : (SPs.bld (R := Unit) (J1 e τ by_).ss (l, x)).1 = [.one (.emb e τ l true)] := rfl
    rw [hst] at hr
    obtain ⟨u, rfl, hr9⟩ := hr.single
    clear hr
    have hr0 : Rp (ρ0.ok true) w (.sl e τ) l [u] := hr9
    simp only [Rp] at hr0
    obtain ⟨A, c, e1, hle, hm, hd⟩ := hr0
    have e1 : u = .slice A l.length c := by simpa using e1
    subst e1
    refine calls_of_wp hf hb ?_
    let st0 : St := ⟨[.one (.emb e τ l true), .one .und, .one .und, .one .und, .one .und, .one .und, .one .und, .one .und], []⟩
    have h0 : Sim P w.heap.size ⟨fun _ => False, ρ0.ok, ρ0.loc⟩ w ρ0 st0 { tmps := #[.slice A l.length c] ++ Array.replicate (fn.ntmps - 1) undef, defers := [] } w := by
      refine ⟨⟨(fun j b hj => by cases hj), (fun i j g hi => by cases hi), (fun j g hj => by cases hj), hokb, (fun b g hg j hj => by cases hj), hokm, fun b g hg => .inl hg, fun b g hg => hg, (fun j b d hj => by cases hj)⟩, by rw [hnt]; rfl, fun i v hi => ?_, fun i v d hi hd => ?_, rfl, gr.refl _ _ _, Nat.le_refl _, fun _ _ => rfl, fun G hG => ⟨(hgl G hG).1, hokb _ _ (hgl G hG).1, fun h => h, (hgl G hG).2⟩⟩
      · rw [hnt]
        match i, hi with
        | 0, hi => cases hi; exact ⟨_, rfl, hr9⟩
        | 1, hi => cases hi; exact ⟨_, rfl, trivial⟩
        | 2, hi => cases hi; exact ⟨_, rfl, trivial⟩
        | 3, hi => cases hi; exact ⟨_, rfl, trivial⟩
        | 4, hi => cases hi; exact ⟨_, rfl, trivial⟩
        | 5, hi => cases hi; exact ⟨_, rfl, trivial⟩
        | 6, hi => cases hi; exact ⟨_, rfl, trivial⟩
        | 7, hi => cases hi; exact ⟨_, rfl, trivial⟩
        | n + 8, hi => simp [st0] at hi
      · match i, hi with
        | 0, hi => cases hi; cases hd
        | 1, hi => cases hi; cases hd
        | 2, hi => cases hi; cases hd
        | 3, hi => cases hi; cases hd
        | 4, hi => cases hi; cases hd
        | 5, hi => cases hi; cases hd
        | 6, hi => cases hi; cases hd
        | 7, hi => cases hi; cases hd
        | n + 8, hi => simp [st0] at hi
    have hC : eb P (fun _ _ _ => none) := fun f args res out h => by cases h
    have hD : kq P E (fun _ _ _ => none) (fun _ _ _ _ => false) := fun R r B O w0 w ρ st a id ops k Q h => by cases h
    have go := @cz P E w.heap.size ⟨fun _ => False, ρ0.ok, ρ0.loc⟩ w St
    refine wp_seq (cz (R := Ex × St) (r := (Ex.normal, ⟨[.one (.emb e τ l true), .one .und, .one .nil, .one .und, .one .und, .one .und, .one .und, .one .und], []⟩)) hE hC hD 0 (RH t) .none st0 ρ0 _ w (fun e st => some (e, st)) _ trivial h0 rfl fun ex ρ1 st1 a1 w1 hk h1 => ?_)
    cases hk
    show ((Code.seq _ _).wp P _ a1 w1)
    refine wp_seq (wp_seq (wp_region_list ?_))
    unfold wpList
    rw [if_pos (by rfl)]
    refine .inl (jy (R := St) (r := ⟨[.one (.emb e τ l true), .one .und, .one .nil, .one (.emb e τ l true), .one .und, .one .und, .one .und, .one .und], []⟩) hE hC h1 (PI t) (k := some) rfl fun ρ2 st2 a2 w2 hk h2 => ?_)
    cases hk
    unfold wpList
    rw [if_pos (by rfl)]
    left
    obtain ⟨u3, hu3, hr3⟩ := h2.sl 3 _ rfl
    have hr3' : Rp (ρ2.ok true) w2 (.sl e τ) l [u3] := hr3
    simp only [Rp] at hr3'
    obtain ⟨A', c', e3, _, _, hd3⟩ := hr3'
    have e3 : u3 = .slice A' l.length c' := by simpa using e3
    subst e3
    have hev : a2.eval (.tmp 3) = .slice A' l.length c' := by
      simp only [Act.eval, Array.getD_eq_getD_getElem?, hu3, Option.getD_some]
    have hrun : (execOp a2.eval (Dy t tb "slices.go:357" "")).run P w2 = .ok (.value (.bool A'.isNone)) w2 := by
      unfold execOp Dy
      have hbin : (binOp .eql t (.slice A' l.length c') (.slice none 0 0)).run P w2 = .ok (.bool A'.isNone) w2 := by
        simp only [binOp]
        simp [Op.equal, Op.maxDepth, Lib.run_equalIn_slice_nil w2 9999 t e A' l.length c' 0 0 (dz (hE.ti _ _ ht))]
      have hev0 : a2.eval (.const (.slice none 0 0)) = .slice none 0 0 := rfl
      have hg : (eqGuard BinOp.eql t (Operand.tmp 3) (Operand.const (Value.slice none 0 0)) (Value.slice A' l.length c') (Value.slice none 0 0)).run P w2 = .ok () w2 := by
        unfold eqGuard
        simp
      simp [hev, hev0, Sem.run_bind, hbin, hg]
    unfold Oper.wp
    rw [hrun, Oper.upon_value]
    have h3 := h2.put (some 4) (v := .one (.bool A'.isNone)) (u := .bool A'.isNone) rfl (fun d hd => by cases hd)
    show Exit.then _ _ .normal _ w2
    have hcv : (a2.put (some 4) (.bool A'.isNone)).eval (.tmp 4) = .bool A'.isNone := by
      obtain ⟨u4, hu4, hr4⟩ := h3.sl 4 (.one (.bool A'.isNone)) rfl
      have hr4 : u4 = .bool A'.isNone := hr4
      subst hr4
      simp only [Act.eval, Array.getD_eq_getD_getElem?, hu4, Option.getD_some]
    have hres : fn.results.toList = [.tmp 2] := by rw [hrs]
    have fin : ∀ (ρ' : aE) (st' : St) (a' : Act) (w' : World) (l' : List τ.T) (b : Bool) (j : Nat), Sim P w.heap.size ⟨fun _ => False, ρ0.ok, ρ0.loc⟩ w ρ' st' a' w' -> z8 st'.sg [st'.sl.getD 2 (.one .und)] = some (.one (.sl 4096), [(4096, .arr e τ l' b)]) -> l' = l ->
        a'.defers = [] /\ ∃ v, (results fn a'.tmps).run P w' = .ok v w' /\ ∃ v_1 ρ', Ending.returned v = .returned v_1 /\ rav ρ' w' (.one (.sl 4096)) v_1 /\ Mem w.heap.size ⟨fun _ => False, ρ0.ok, ρ0.loc⟩ ρ' [(4096, .arr e τ l false)] w' /\ (∀ d, (AV.one (.sl 4096)).ak d = true -> (Sig.get d [(4096, Blk.arr e τ l false)]).isSome = true) /\ Below w.heap.size w w' := by
      intro ρ' st' a' w' l' b j h' hl hll
      subst hll
      have hres' : lG E st' fn.results.toList = some [st'.sl.getD 2 (.one .und)] := by rw [hres]; rfl
      obtain ⟨us, g1, g2, _⟩ := eD hE h' hres'
      obtain ⟨ρ9, g3, g4, g5⟩ := rX h'.mem g1 hl
      exact ⟨h'.defers, _, kb g2, _, ρ9, rfl, g3, g4.agE hfl, fun d hd => (by have := eq_of_beq hd; subst this; rfl), ⟨h'.fr.os, h'.fr.tape, h'.fr.output, h'.fr.size, fun k hk => h'.fr.block k hk (fun h => h)⟩⟩
    cases hA : A'.isNone with
    | true =>
      rw [hA] at hcv h3
      have hA' : A' = none := by cases A' with | none => rfl | some x => cases hA
      have hl : l = [] := by
        rcases Nat.eq_zero_or_pos l.length with hl | hl
        · exact List.eq_nil_of_length_eq_zero hl
        · obtain ⟨ad, hx, _⟩ := hd3 hl
          rw [hA'] at hx; cases hx
      refine wp_cond_true hcv ?_
      refine cz (R := Ex × St) (r := (Ex.ret, ⟨[.one (.emb e τ l true), .one .und, .one .nil, .one (.emb e τ l true), .one (.bool true), .one .und, .one .und, .one .und], []⟩)) hE hC hD 0 (Sy t) .none _ ρ2 _ w2 (fun e st => some (e, st)) _ ⟨trivial, trivial⟩ h3 rfl fun ex ρ5 st5 a5 w5 hk h5 => ?_
      cases hk
      subst hl
      obtain ⟨u2, hu2, hr2⟩ := h5.sl 2 _ rfl
      have hr2 : u2 = .slice none 0 0 := hr2
      subst hr2
      obtain ⟨us, g1, g2, _⟩ := eD hE h5 (rs := fn.results.toList) (vs := [.one .nil]) (by rw [hres]; rfl)
      obtain ⟨ux, hux, hrx⟩ := g1.single
      subst hux
      have hrx : ux = .slice none 0 0 := hrx
      subst hrx
      refine ⟨h5.defers, _, kb g2, _, ρ5.upd 4096 (.arr (.slice none 0 0) none τ.sz), rfl, ⟨none, τ.sz, aE.cR _ _ _⟩, ?_, fun d hd => ?_, ⟨h5.fr.os, h5.fr.tape, h5.fr.output, h5.fr.size, fun k hk => h5.fr.block k hk (fun h => h)⟩⟩
      · have hno : ∀ i g, ¬ bE (ρ5.upd 4096 (.arr (.slice none 0 0) none τ.sz)) [(4096, Blk.arr e τ [] false)] i g := by
          intro i g ho
          obtain ⟨b, a1, a2, a3⟩ := aC.1 ho
          simp only [Sig.get, aP] at a1
          split at a1
          · rename_i hi
            have hi := eq_of_beq hi
            subst hi
            cases a1
            rcases a3 with ⟨_, _, a3, _⟩ | ⟨_, _, _, _, _, v, sz, a3⟩
            · cases a3
            · rw [aE.cR] at a3; cases a3
          · cases a1
        refine ⟨fun i b hi => ?_, fun i k g h1 => (hno i g h1).elim, fun i g h1 => (hno i g h1).elim, h5.mem.okb, fun q g hq i h1 => (hno i g h1).elim, h5.mem.okm, h5.mem.okx, h5.mem.oky, fun i b d hi hd => ?_⟩
        · simp only [Sig.get, aP] at hi
          split at hi
          · rename_i hc
            have hc := eq_of_beq hc
            subst hc
            cases hi
            exact ⟨.slice none 0 0, none, [], aE.cR _ _ _, ⟨by simp, fun j p hp => by simp at hp⟩, rfl, none, rfl⟩
          · cases hi
        · simp only [Sig.get, aP] at hi
          split at hi
          · cases hi; cases hd
          · cases hi
      · have := eq_of_beq hd
        subst this
        rfl
    | false =>
      rw [hA] at hcv h3
      refine wp_cond_false hcv (wp_skip ?_)
      have hcode : dy E (fun _ _ _ => none) (fun _ _ _ _ => false) 0 (Co t) .none ⟨[.one (.emb e τ l true), .one .und, .one .nil, .one (.emb e τ l true), .one (.bool false), .one .und, .one .und, .one .und], []⟩ (fun e st => some (e, st)) =
          some (Ex.ret, ⟨[.one (.emb e τ l true), .one .und, .one (.sl 5), .one (.emb e τ l true), .one (.bool false), .one .und, .one (.emb e τ l true), .one (.sl 5)], [(5, .arr e τ ([] ++ l) (false || (true && !τ.flat)))]⟩) := by
        have hin : (l.length * by_ <= 140737488351232) := hc
        have e1 : Nat.blt 5 4294967296 = true := rfl
        have e2 : Nat.ble 0 16777216 = true := rfl
        have e3 : (by_ != 0) = true := by simpa using hby
        simp [Co, LT.l, LT.r, e1, e2, e3, dy, bJ, exec, cN, ht, he, Sig.free, Sig.get, cB, aF, lN, rowOf, target, St.bK, Sig.put, Sig.bF, St.put, qop, AV.bF, Cell.bF, Blk.bF, hc, hby, PIN]
      refine cz (R := Ex × St) (r := _) hE hC hD 0 (Co t) .none _ ρ2 _ w2 (fun e st => some (e, st)) _ ⟨trivial, trivial⟩ h3 hcode fun ex ρ5 st5 a5 w5 hk h5 => ?_
      cases hk
      exact fin ρ5 _ a5 w5 ([] ++ l) (false || (true && !τ.flat)) 5 h5 rfl (List.nil_append l)
  · rw [decide_eq_false hc] at hv
    cases hv
end
end Go.Proofs.YtahlaccdpmddbaaGreat.Lib
namespace Go.Proofs.YtahlaccdpmddbaaGreat.Lib
open Go Go.RowKit
set_option linter.unusedVariables false
theorem bR {n : Int} (h0 : -9223372036854775808 <= n) (h1 : n <= 9223372036854775807) : IntKind.wrap .i64 n = n := by
 simp only [IntKind.wrap, IntKind.bits, IntKind.signed, Bool.true_and]
 split
 ·rename_i h
  simp only [decide_eq_true_eq, ge_iff_le] at h
  omega
 ·rename_i h
  simp only [decide_eq_true_eq, ge_iff_le] at h
  omega
theorem aX {n : Nat} (h1 : (n : Int) + 1 <= 9223372036854775807) : IntKind.wrap .i64 ((n : Int) + 1) = ((n + 1 : Nat) : Int) := by
 rw [bR (by omega) h1]; rfl
theorem aA {α R : Type} (x : α) (f : α -> Option R) : bt (some x) f = f x := rfl
section
variable {V X Y : Type}
theorem gp {s : V -> Option (Nat × V)} {mk : Int -> V} {c : Nat} {N : Nat}
  (h1 : ∀ i : Nat, i < N -> s (mk (i : Int)) = some (0, mk ((i + 1 : Nat) : Int)))
  (h2 : s (mk (N : Int)) = some (c + 1, mk (N : Int))) :
  ∀ (k i : Nat) (n : Nat), i + k = N -> k < n -> iter s n (mk (i : Int)) = some (c, mk (N : Int))
 | 0, i, n, hk, hn => by
  obtain ⟨m, rfl⟩ : ∃ m, n = m + 1 := ⟨n - 1, by omega⟩
  have hi : i = N := by omega
  subst hi
  rw [iter, h2]
  rfl
 | k + 1, i, n, hk, hn => by
  obtain ⟨m, rfl⟩ : ∃ m, n = m + 1 := ⟨n - 1, by omega⟩
  rw [iter, h1 i (by omega)]
  exact gp h1 h2 k (i + 1) m (by omega) (by omega)
theorem fold_iter {A : Type} {s : V -> Option (Nat × V)} {mk : A -> Int -> V} {xs : List X} {f : A -> X -> A} {Inv : Nat -> A -> Prop}
  (h1 : ∀ (i : Nat) (x : X) (a : A), xs[i]? = some x -> Inv i a -> s (mk a (i : Int)) = some (0, mk (f a x) ((i + 1 : Nat) : Int)) /\ Inv (i + 1) (f a x))
  (h2 : ∀ a, s (mk a (xs.length : Int)) = some (1, mk a (xs.length : Int))) :
  ∀ (k i : Nat) (a : A) (n : Nat), i + k = xs.length -> k < n -> Inv i a -> iter s n (mk a (i : Int)) = some (0, mk ((xs.drop i).foldl f a) (xs.length : Int))
 | 0, i, a, n, hk, hn, hI => by
  obtain ⟨m, rfl⟩ : ∃ m, n = m + 1 := ⟨n - 1, by omega⟩
  have hi : i = xs.length := by omega
  subst hi
  rw [iter, h2 a, List.drop_eq_nil_of_le (Nat.le_refl _)]
  rfl
 | k + 1, i, a, n, hk, hn, hI => by
  obtain ⟨m, rfl⟩ : ∃ m, n = m + 1 := ⟨n - 1, by omega⟩
  have hi : i < xs.length := by omega
  obtain ⟨h3, h4⟩ := h1 i xs[i] a (List.getElem?_eq_getElem hi) hI
  rw [iter, h3, List.drop_eq_getElem_cons hi]
  exact fold_iter h1 h2 k (i + 1) (f a xs[i]) m (by omega) (by omega) h4
theorem aS {s : V -> Option (Nat × V)} {n : Nat} {v v' : V} {c : Nat} (h : iter s n v = some (c, v')) (d : Nat) : mU s n v d = (c == d) := by unfold mU; rw [h]
theorem bp {s : V -> Option (Nat × V)} {n : Nat} {v v' : V} {c : Nat} (h : iter s n v = some (c, v')) : v8 s n v = v' := by unfold v8; rw [h]
def first (p : Nat -> Bool) : Nat -> Nat -> Option Nat
 | _, 0 => none
 | i, k + 1 => bif p i then some i else first p (i + 1) k
theorem lF {p : Nat -> Bool} : ∀ {k i : Nat}, first p i k = none -> ∀ j, i <= j -> j < i + k -> p j = false
 | 0, i, _, j, h1, h2 => by omega
 | k + 1, i, h, j, h1, h2 => by
  simp only [first] at h
  cases hp : p i with
  | true => rw [hp] at h; cases h
  | false =>
   rw [hp] at h
   by_cases hj : j = i
   ·subst hj; exact hp
   ·exact lF (k := k) (i := i + 1) h j (by omega) (by omega)
theorem iY {p : Nat -> Bool} : ∀ {k i j : Nat}, first p i k = some j -> i <= j /\ j < i + k /\ p j = true
 | 0, i, j, h => by cases h
 | k + 1, i, j, h => by
  simp only [first] at h
  cases hp : p i with
  | true => rw [hp] at h; cases h; exact ⟨by omega, by omega, hp⟩
  | false =>
   rw [hp] at h
   obtain ⟨h1, h2, h3⟩ := iY (k := k) (i := i + 1) h
   exact ⟨by omega, by omega, h3⟩
theorem dp {s : V -> Option (Nat × V)} {mk : Int -> V} {fin : Nat -> V} {p : Nat -> Bool} {N : Nat}
  (h1 : ∀ i : Nat, i < N -> s (mk (i : Int)) = bif p i then some (1, fin i) else some (0, mk ((i + 1 : Nat) : Int)))
  (h2 : s (mk (N : Int)) = some (2, mk (N : Int))) :
  ∀ (k i : Nat) (n : Nat), i + k = N -> k < n -> iter s n (mk (i : Int)) = some (match first p i k with | some j => (0, fin j) | none => (1, mk (N : Int)))
 | 0, i, n, hk, hn => by
  obtain ⟨m, rfl⟩ : ∃ m, n = m + 1 := ⟨n - 1, by omega⟩
  have hi : i = N := by omega
  subst hi
  rw [iter, h2]
  rfl
 | k + 1, i, n, hk, hn => by
  obtain ⟨m, rfl⟩ : ∃ m, n = m + 1 := ⟨n - 1, by omega⟩
  rw [iter, h1 i (by omega)]
  simp only [first]
  cases hp : p i with
  | true => rfl
  | false => exact dp h1 h2 k (i + 1) m (by omega) (by omega)
theorem fS {p : X -> Bool} {xs : List X} {q : Nat -> Bool} (hq : ∀ (i : Nat) (x : X), xs[i]? = some x -> q i = p x) : (first q 0 xs.length).isSome = xs.any p := by
 cases h : first q 0 xs.length with
 | none =>
  have h0 := lF h
  symm
  rw [Option.isSome_none, List.any_eq_false]
  intro x hx
  obtain ⟨i, hi⟩ := List.getElem?_of_mem hx
  have hlt := (List.getElem?_eq_some_iff.1 hi).1
  rw [← hq i x hi, h0 i (Nat.zero_le _) (by omega)]
  simp
 | some j =>
  obtain ⟨h1, h2, h3⟩ := iY h
  have hj : j < xs.length := by omega
  symm
  rw [Option.isSome_some, List.any_eq_true]
  exact ⟨xs[j], List.getElem_mem hj, by rw [← hq j _ (List.getElem?_eq_getElem hj)]; exact h3⟩
end
end Go.Proofs.YtahlaccdpmddbaaGreat.Lib
namespace Go.Proofs.YtahlaccdpmddbaaGreat.Lib
open Go Go.RowKit
set_option linter.unusedVariables false
section
variable {α β : Type}
theorem M6 {b : Bool} {x y : Option α} {z : α} : (cond b x y).getD z = cond b (x.getD z) (y.getD z) := by cases b <;> rfl
theorem HP {b : Bool} {x y : Option α} : (cond b x y).isSome = cond b x.isSome y.isSome := by cases b <;> rfl
theorem Tm {x z : α} : (some x).getD z = x := rfl
theorem Tw {z : α} : (none : Option α).getD z = z := rfl
theorem MS {x : α} : (some x).isSome = true := rfl
theorem Nc : (none : Option α).isSome = false := rfl
theorem PY {o : Option β} {f : β -> Option α} {z : α} : (bt o f).getD z = rV o z fun x => (f x).getD z := by cases o <;> rfl
theorem Ke {o : Option β} {f : β -> Option α} : (bt o f).isSome = pB o fun x => (f x).isSome := by cases o <;> rfl
theorem isSome_ite {p : Prop} [Decidable p] {x : Option α} : (if p then x else none).isSome = (decide p && x.isSome) := by by_cases h : p <;> simp [h]
theorem Ix {p : Prop} [Decidable p] {x : Option α} : (if p then none else x).isSome = (!decide p && x.isSome) := by by_cases h : p <;> simp [h]
end
def Sat {α : Type} (o : Option α) (P : α -> Prop) : Prop := ∃ r, o = some r /\ P r
section
variable {α β V : Type} {P Q : α -> Prop}
theorem aZ {a : α} : Sat (some a) P = P a := propext ⟨fun ⟨r, h1, h2⟩ => by cases h1; exact h2, fun h => ⟨a, rfl, h⟩⟩
theorem wG : Sat (none : Option α) P = False := propext ⟨fun ⟨r, h1, h2⟩ => (by cases h1), False.elim⟩
theorem m8 {b : Bool} {x y : Option α} : Sat (cond b x y) P = ((b = true -> Sat x P) /\ (b = false -> Sat y P)) := by
 cases b <;> simp
theorem UP {p : Prop} [Decidable p] {x : Option α} : Sat (if p then x else none) P = (p /\ Sat x P) := by
 by_cases h : p <;> simp [h, wG]
theorem Vc {p : Prop} [Decidable p] {x : Option α} : Sat (if p then none else x) P = (¬p /\ Sat x P) := by
 by_cases h : p <;> simp [h, wG]
theorem TC {o : Option β} {f : β -> Option α} : Sat (bt o f) P = ∃ b, o = some b /\ Sat (f b) P := by
 cases o with
 | none => exact propext ⟨fun ⟨r, h1, h2⟩ => (by cases h1), fun ⟨b, h1, h2⟩ => (by cases h1)⟩
 | some x => exact propext ⟨fun h => ⟨x, rfl, h⟩, fun ⟨b, h1, h2⟩ => by cases h1; exact h2⟩
theorem zzb : (∀ {α : Type} {P : α -> Prop} {a : α}, Sat (some a) P = P a) /\ (∀ {α : Type} {P : α -> Prop}, Sat (none : Option α) P = False) /\ (∀ {α : Type} {P : α -> Prop} {b : Bool} {x y : Option α}, Sat (cond b x y) P = ((b = true -> Sat x P) /\ (b = false -> Sat y P))) /\
  (∀ {α : Type} {P : α -> Prop} {p : Prop} [Decidable p] {x : Option α}, Sat (if p then x else none) P = (p /\ Sat x P)) /\ (∀ {α : Type} {P : α -> Prop} {p : Prop} [Decidable p] {x : Option α}, Sat (if p then none else x) P = (¬p /\ Sat x P)) /\
  (∀ {α β : Type} {P : α -> Prop} {o : Option β} {f : β -> Option α}, Sat (bt o f) P = ∃ b, o = some b /\ Sat (f b) P) /\
  (∀ p : Prop, (False /\ p) = False) /\ (∀ p : Prop, (p /\ False) = False) /\ (∀ p : Prop, (True /\ p) = p) /\ (∀ p : Prop, (p /\ True) = p) /\ (∀ p : Prop, (p /\ p) = p) /\ (∀ p : Prop, (p -> True) = True) /\ (∀ α : Type, (α -> True) = True) /\
  (∀ p : Prop, (True ∨ p) = True) /\ (∀ p : Prop, (p ∨ True) = True) /\ (∀ p : Prop, (False ∨ p) = p) /\ (∀ p : Prop, (p ∨ False) = p) /\ ((¬False) = True) /\ (∀ {α : Type} (a b : α), (a ≠ b) = ¬a = b) /\
  (∀ {α : Type} (a b : α), cond true a b = a) /\ (∀ {α : Type} (a b : α), cond false a b = b) /\ (((0 : Nat) = 1) = False) /\ (((1 : Nat) = 0) = False) /\ (∀ {α : Type} {a : α} {l : List α}, (a :: l).length = l.length + 1) /\ (∀ {α : Type}, ([] : List α).length = 0) :=
 ⟨aZ, wG, m8, UP, Vc, TC, false_and, and_false, true_and, and_true, and_self, fun p => implies_true p, fun α => implies_true α, true_or, or_true, false_or, or_false, not_false_eq_true, fun _ _ => rfl, fun _ _ => rfl, fun _ _ => rfl, propext ⟨fun h => (by cases h), False.elim⟩, propext ⟨fun h => (by cases h), False.elim⟩, rfl, rfl⟩
theorem Sat.d {o : Option α} (h : Sat o P) : o.isSome = true := by obtain ⟨r, rfl, _⟩ := h; rfl
theorem Sat.v {o : Option α} {z : α} (h : Sat o P) : P (o.getD z) := by obtain ⟨r, rfl, h⟩ := h; exact h
theorem Sat.mono {o : Option α} (h : Sat o P) (hq : ∀ r, P r -> Q r) : Sat o Q := by obtain ⟨r, rfl, h⟩ := h; exact ⟨r, rfl, hq r h⟩
theorem Is {l : List β} {i : Int} (h0 : 0 <= i) (h1 : i < (l.length : Int)) : ∃ b, l[i.toNat]? = some b /\ b ∈ l := ⟨l[i.toNat]'(by omega), List.getElem?_eq_getElem _, List.getElem_mem _⟩
theorem sA {s : V -> Option (Nat × V)} {Q : V -> Prop} (Inv : Nat -> V -> Prop) (h : ∀ k v, Inv k v -> (∃ v', s v = some (1, v') /\ Q v') ∨ (∃ k' v', k = k' + 1 /\ s v = some (0, v') /\ Inv k' v')) : ∀ (k : Nat) (v : V) (n : Nat), Inv k v -> k < n -> ∃ v', iter s n v = some (0, v') /\ Q v'
 | k, v, 0, _, hn => by omega
 | k, v, n + 1, hI, hn => by
  rcases h k v hI with ⟨v', h1, h2⟩ | ⟨k', v', rfl, h1, h2⟩
  ·exact ⟨v', by simp [iter, h1], h2⟩
  ·obtain ⟨v2, h3, h4⟩ := sA Inv h k' v' n h2 (by omega)
   exact ⟨v2, by simp [iter, h1, h3], h4⟩
theorem jO {s : V -> Option (Nat × V)} {Q : V -> Prop} (Inv : Nat -> V -> Prop) (h : ∀ k v, Inv k v -> Sat (s v) fun r => (r.1 = 1 /\ Q r.2) ∨ (r.1 = 0 /\ ∃ k', k = k' + 1 /\ Inv k' r.2)) (k : Nat) (v : V) (n : Nat) (hI : Inv k v) (hn : k < n) : (mU s n v 0 = true /\ ∀ c, mU s n v (c + 1) = false) /\ Q (v8 s n v) := by
 obtain ⟨v', h1, h2⟩ := sA (s := s) (Q := Q) Inv (fun k v hI => by
  obtain ⟨⟨c, v'⟩, h1, h2⟩ := h k v hI
  rcases h2 with ⟨rfl, h2⟩ | ⟨rfl, k', h3, h4⟩
  ·exact .inl ⟨v', h1, h2⟩
  ·exact .inr ⟨k', v', h3, h1, h4⟩) k v n hI hn
 exact ⟨⟨aS h1 0, fun c => aS h1 _⟩, by rw [bp h1]; exact h2⟩
end
def Ty.few (B : Nat) : (t : Ty) -> t.T -> Prop
 | .sl _ t, l => l.length <= B /\ ∀ x, x ∈ l -> t.few B x
 | .pair a b, p => a.few B p.1 /\ b.few B p.2
 | _, _ => True
theorem eA {B C : Nat} (hB : B <= C) : ∀ (t : Ty) (x : t.T), t.few B x -> t.few C x
 | .sl _ t, l, h => ⟨Nat.le_trans h.1 hB, fun x hx => eA hB t x (h.2 x hx)⟩
 | .pair a b, p, h => ⟨eA hB a p.1 h.1, eA hB b p.2 h.2⟩
 | .int _, _, _ => trivial
 | .bool, _, _ => trivial
 | .str, _, _ => trivial
 | .nul _, _, _ => trivial
def Ty.F9 : Ty -> Bool
 | .sl _ _ => false | .pair a b => a.F9 && b.F9 | _ => true
theorem sS {B : Nat} : ∀ (t : Ty), t.F9 = true -> ∀ x : t.T, t.few B x
 | .sl _ _, h, _ => by cases h
 | .pair a b, h, p => ⟨sS a (Bool.and_eq_true _ _ ▸ h : a.F9 = true /\ b.F9 = true).1 p.1, sS b (Bool.and_eq_true _ _ ▸ h : a.F9 = true /\ b.F9 = true).2 p.2⟩
 | .int _, _, _ => trivial
 | .bool, _, _ => trivial
 | .str, _, _ => trivial
 | .nul _, _, _ => trivial
theorem TX {B e : Nat} {t : Ty} (ht : t.F9 = true) {l : List t.T} (h : l.length <= B) : Ty.few B (.sl e t) l := ⟨h, fun x _ => sS t ht x⟩
theorem ba {B e : Nat} {t : Ty} {l : List t.T} (h : l = []) : Ty.few B (.sl e t) l = True := propext ⟨fun _ => trivial, fun _ => by subst h; exact ⟨Nat.zero_le _, fun _ h => absurd h List.not_mem_nil⟩⟩
theorem CV {B C D e : Nat} {t : Ty} {l m : List t.T} (h : Ty.few B (.sl e t) l) (hB : B <= D) (hm : ∀ x, x ∈ m -> t.few D x) (hl : m.length <= C) (hD : B + C <= D) : Ty.few D (.sl e t) (l ++ m) := ⟨by rw [List.length_append]; have := h.1; omega, fun x hx => (List.mem_append.1 hx).elim (fun hx => eA hB t x (h.2 x hx)) (hm x)⟩
theorem UM {B D e i : Nat} {t : Ty} {l : List t.T} {x : t.T} (h : Ty.few B (.sl e t) l) (hB : B <= D) (hx : t.few D x) : Ty.few D (.sl e t) (l.set i x) := ⟨by rw [List.length_set]; exact Nat.le_trans h.1 hB, fun y hy => (List.mem_or_eq_of_mem_set hy).elim (fun hy => eA hB t y (h.2 y hy)) (fun hy => hy ▸ hx)⟩
theorem LL {B C e k N : Nat} {t : Ty} {l m : List t.T} (h : Ty.few B (.sl e t) l) (hl : m.length <= C) (hN : (B + C) * k <= N) : (l ++ m).length * k <= N := Nat.le_trans (Nat.mul_le_mul_right k (by rw [List.length_append]; have := h.1; omega)) hN
theorem aL {B : Nat} {a b : Ty} {p : (Ty.pair a b).T} : Ty.few B (.pair a b) p = (a.few B p.1 /\ b.few B p.2) := propext ⟨fun h => h, fun h => h⟩
theorem a9 {B : Nat} {k : IntKind} {x : (Ty.int k).T} : Ty.few B (.int k) x = True := propext ⟨fun _ => trivial, fun _ => trivial⟩
theorem aM {B : Nat} {x : Ty.bool.T} : Ty.few B .bool x = True := propext ⟨fun _ => trivial, fun _ => trivial⟩
theorem bc {B : Nat} {x : Ty.str.T} : Ty.few B .str x = True := propext ⟨fun _ => trivial, fun _ => trivial⟩
theorem bf {B : Nat} {b : Bool} {x : (Ty.nul b).T} : Ty.few B (.nul b) x = True := propext ⟨fun _ => trivial, fun _ => trivial⟩
theorem ee {V : Type} {s : V -> Option (Nat × V)} {f : Nat -> V} {c N : Nat} {v' : V} (h1 : ∀ i, i < N -> s (f i) = some (0, f (i + 1))) (h2 : s (f N) = some (c + 1, v')) : ∀ (k i n : Nat), i + k = N -> k < n -> iter s n (f i) = some (c, v')
 | 0, i, n, hk, hn => by
  obtain ⟨n, rfl⟩ : ∃ m, n = m + 1 := ⟨n - 1, by omega⟩
  have : i = N := by omega
  subst this
  rw [iter, h2]
  rfl
 | k + 1, i, n, hk, hn => by
  obtain ⟨n, rfl⟩ : ∃ m, n = m + 1 := ⟨n - 1, by omega⟩
  rw [iter, h1 i (by omega)]
  exact ee h1 h2 k (i + 1) n (by omega) (by omega)
theorem dU {α : Type} {xs : List α} {i : Nat} {x : α} (h : xs[i]? = some x) : xs.take (i + 1) = xs.take i ++ [x] := by rw [List.take_add_one, h]; rfl
theorem qe {α β : Type} {f : β -> α -> β} {b : β} {xs : List α} {i : Nat} {x : α} (h : xs[i]? = some x) : (xs.take (i + 1)).foldl f b = f ((xs.take i).foldl f b) x := by rw [dU h, List.foldl_append]; rfl
theorem e9 {α : Type} {p : α -> Bool} {xs : List α} {i : Nat} {x : α} (h : xs[i]? = some x) : (xs.take (i + 1)).filter p = (xs.take i).filter p ++ cond (p x) [x] [] := by rw [dU h, List.filter_append]; cases hp : p x <;> simp [hp]
theorem xB {V K : Type} {s : V -> Option (Nat × V)} {mk : K -> V} {Inv : Nat -> K -> Prop} {Q : V -> Prop} {c N : Nat}
  (h1 : ∀ i k, i < N -> Inv i k -> ∃ k', s (mk k) = some (0, mk k') /\ Inv (i + 1) k') (h2 : ∀ k, Inv N k -> ∃ v', s (mk k) = some (c + 1, v') /\ Q v') :
  ∀ (m i n : Nat) (k : K), i + m = N -> m < n -> Inv i k -> ∃ v', iter s n (mk k) = some (c, v') /\ Q v'
 | 0, i, n, k, hm, hn, hI => by
  obtain ⟨n, rfl⟩ : ∃ n', n = n' + 1 := ⟨n - 1, by omega⟩
  have : i = N := by omega
  subst this
  obtain ⟨v', h3, h4⟩ := h2 k hI
  refine ⟨v', ?_, h4⟩
  rw [iter, h3]
  rfl
 | m + 1, i, n, k, hm, hn, hI => by
  obtain ⟨n, rfl⟩ : ∃ n', n = n' + 1 := ⟨n - 1, by omega⟩
  obtain ⟨k', h3, h4⟩ := h1 i k (by omega) hI
  obtain ⟨v', h5, h6⟩ := xB h1 h2 m (i + 1) n k' (by omega) (by omega) h4
  refine ⟨v', ?_, h6⟩
  rw [iter, h3]
  exact h5
theorem MO {α : Type} {q : α -> Bool} {xs m : List α} {i j : Nat} {x : α} (hx : xs[j]? = some x) (hij : i < j) (hl : m.length = xs.length) (ht : m.take i = (xs.take j).filter q) (hd : ∀ t, j <= t -> m[t]? = xs[t]?) (hq : q x = true) :
  i + 1 < j + 1 /\ (m.set i x).length = xs.length /\ (m.set i x).take (i + 1) = (xs.take (j + 1)).filter q /\ ∀ t, j + 1 <= t -> (m.set i x)[t]? = xs[t]? := by
 have hj := (List.getElem?_eq_some_iff.1 hx).1
 refine ⟨by omega, by simpa using hl, ?_, fun t h => ?_⟩
 ·rw [e9 hx, ← ht, hq, dU (x := x) (by rw [List.getElem?_set_self (by omega)]), List.take_set_of_le (Nat.le_refl _)]
  rfl
 ·rw [List.getElem?_set_ne (by omega)]
  exact hd t (by omega)
theorem Ni {α : Type} {q : α -> Bool} {xs m : List α} {i j : Nat} {x : α} (hx : xs[j]? = some x) (hij : i < j) (ht : m.take i = (xs.take j).filter q) (hd : ∀ t, j <= t -> m[t]? = xs[t]?) (hq : q x = false) :
  i < j + 1 /\ m.take i = (xs.take (j + 1)).filter q /\ ∀ t, j + 1 <= t -> m[t]? = xs[t]? := by
 refine ⟨by omega, ?_, fun t h => hd t (by omega)⟩
 rw [e9 hx, ← ht, hq]
 simp
theorem BY {p : Nat -> Bool} : ∀ {k i j : Nat}, first p i k = some j -> ∀ t, i <= t -> t < j -> p t = false
 | 0, i, j, h, _, _, _ => by cases h
 | k + 1, i, j, h, t, h1, h2 => by
  simp only [first] at h
  cases hp : p i with
  | true =>
   rw [hp] at h
   simp at h
   omega
  | false =>
   rw [hp] at h
   simp at h
   rcases Nat.lt_or_ge i t with h3 | h3
   ·exact BY h t (by omega) h2
   ·have : t = i := by omega
    subst this
    exact hp
theorem Bx {α : Type} {p : α -> Bool} {xs : List α} {j : Nat} (h : ∀ t x, t < j -> xs[t]? = some x -> p x = false) (hj : j <= xs.length) : xs.take j = (xs.take j).filter fun x => !p x := by
 symm
 rw [List.filter_eq_self]
 intro x hx
 obtain ⟨t, ht, rfl⟩ := List.mem_iff_getElem.1 hx
 rw [List.length_take] at ht
 rw [List.getElem_take, h t _ (by omega) (List.getElem?_eq_getElem (by omega))]
 rfl
end Go.Proofs.YtahlaccdpmddbaaGreat.Lib
