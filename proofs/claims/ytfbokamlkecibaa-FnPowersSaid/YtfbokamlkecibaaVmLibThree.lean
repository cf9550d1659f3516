/- An interpreter over plain values for translated functions, and that it says what the model does (calls, statements, loops, arguments). No condition. -/
import Derived.Test.YtfbokamlkecibaaVmLibTwo
import Derived.StillTail
import Derived.WalkKit
import Derived.ProofKit
import Derived.OpenShut
import Derived.ShutString
import Derived.ChangeOld
import Derived.Below
import Derived.SizedLaws
import Derived.Lib.Join
import Derived.WalkSpells
import Derived.KernelRfl
/- Statements whose order is open: all orders come out alike. No condition. -/
namespace Go.Proofs.Ytfbokamlkecibaa.Lib
open Go Go.RowKit
set_option linter.unusedVariables false
set_option linter.unusedSimpArgs false
section
variable {P : Program} {E : Env} {call : CallFn} {R : Type} {r : R} {W : Nat → Nat → Bool} {G : List Oper}
/-- In the order of the text: the state before the j-th operation. -/
def txt (E : Env) (call : CallFn) (G l : List Oper) (st : St) : Nat → St
  | 0 => st
  | j + 1 => match l[j]? with
    | some o => (match gop E call G (txt E call G l st j).sg (evalO (txt E call G l st j).sl) o with
      | some p => aft o p (txt E call G l st j)
      | none => txt E call G l st j)
    | none => txt E call G l st j
/-- The j-th operation and what it does in the order of the text. -/
def Val (E : Env) (call : CallFn) (G l : List Oper) (st : St) (j : Nat) (o : Oper) (p : AV × Sig) : Prop :=
  l[j]? = some o ∧ headOk E o = true ∧ gop E call G (txt E call G l st j).sg (evalO (txt E call G l st j).sl) o = some p ∧ (isSt o = false → ∀ q ∈ p.2, (txt E call G l st j).sg.get q.1 = none)
theorem Val.uniq {l : List Oper} {st : St} {j : Nat} {o o' : Oper} {p p' : AV × Sig} (h : Val E call G l st j o p) (h' : Val E call G l st j o' p') : o = o' ∧ p = p' := by
  have h1 : o = o' := Option.some.inj (h.1.symm.trans h'.1)
  subst h1
  exact ⟨rfl, Option.some.inj (h.2.2.1.symm.trans h'.2.2.1)⟩
theorem Val.succ {l : List Oper} {st : St} {j : Nat} {o : Oper} {p : AV × Sig} (h : Val E call G l st j o p) : txt E call G l st (j + 1) = aft o p (txt E call G l st j) := by
  simp only [txt, h.1, h.2.2.1]
/-- The head in line. -/
theorem head_run {l : List Oper} {st : St} {k : St → Option R} : ∀ n, n ≤ l.length → (l.take n).all (headOk E) = true → (∀ j o, j < n → l[j]? = some o → isSt o = true → (gop E call G (txt E call G l st j).sg (evalO (txt E call G l st j).sl) o).isSome = true) → vguard E call G l st k = some r →
    vguard E call G (l.drop n) (txt E call G l st n) k = some r ∧ ∀ j, j < n → ∃ o p, Val E call G l st j o p
  | 0, _, _, _, h => ⟨h, fun j hj => by omega⟩
  | n + 1, hn, hh, hst, h => by
    have hlt : n < l.length := by omega
    have hh' : (l.take n).all (headOk E) = true := by
      rw [List.all_eq_true] at hh ⊢
      intro o ho
      exact hh o (by rw [List.take_add_one]; exact List.mem_append_left _ ho)
    have ho : headOk E l[n] = true := by
      rw [List.all_eq_true] at hh
      refine hh _ ?_
      rw [List.mem_take_iff_getElem]
      exact ⟨n, by omega, rfl⟩
    obtain ⟨h1, h2⟩ := head_run n (by omega) hh' (fun j o hj => hst j o (by omega)) h
    rw [List.drop_eq_getElem_cons hlt] at h1
    obtain ⟨p, h3, h4, h5⟩ := vg_gop ho (fun hs => hst n _ (by omega) (List.getElem?_eq_getElem hlt) hs) h1
    have hv : Val E call G l st n l[n] p := ⟨List.getElem?_eq_getElem hlt, ho, h3, h4⟩
    refine ⟨by rw [hv.succ]; exact h5, fun j hj => ?_⟩
    by_cases hjn : j = n
    · subst hjn; exact ⟨_, _, hv⟩
    · exact h2 j (by omega)
theorem get_append_mem {a b : Sig} {i : Nat} {x : Blk} (h : (a ++ b).get i = some x) (hf : ∀ q ∈ a, b.get q.1 = none) : Sig.get i a = some x ∨ (Sig.get i a = none ∧ Sig.get i b = some x) := by
  rw [Sig.get_append] at h
  cases ha : Sig.get i a with
  | none => rw [ha] at h; exact .inr ⟨rfl, by simpa using h⟩
  | some y => rw [ha] at h; exact .inl (by simpa using h)
theorem aft_sg (o : Oper) (p : AV × Sig) (s : St) : (aft o p s).sg = joinS (isSt o) p.2 s.sg := by
  unfold aft; cases o.dst <;> rfl
theorem aft_sl (o : Oper) (p : AV × Sig) (s : St) (t : Nat) : (aft o p s).sl[t]? = if o.dst = some t then (if t < s.sl.length then some p.1 else none) else s.sl[t]? := by
  unfold aft
  cases hd : o.dst with
  | none => simp [St.put]
  | some d =>
    simp only [St.put, List.getElem?_set, Option.some.injEq]
    split
    · rename_i hdt; subst hdt; split <;> rfl
    · rfl
theorem aft_len (o : Oper) (p : AV × Sig) (s : St) : (aft o p s).sl.length = s.sl.length := by
  unfold aft; cases o.dst <;> simp [St.put]
/-- The blocks that stores of the head write: each by one store alone, that waits for who made the block, and that nobody else in the head leans on. -/
structure Stores (E : Env) (call : CallFn) (G l : List Oper) (st : St) (n : Nat) (W : Nat → Nat → Bool) : Prop where
  one : ∀ j k o o' p p' i, j < n → k < n → Val E call G l st j o p → Val E call G l st k o' p' → isSt o = true → isSt o' = true → (Sig.get i p.2).isSome = true → (Sig.get i p'.2).isSome = true → j = k
  made : ∀ j k o o' p p' i, j < n → k < n → Val E call G l st j o p → Val E call G l st k o' p' → isSt o = true → isSt o' = false → (Sig.get i p.2).isSome = true → (Sig.get i p'.2).isSome = true → k < j ∧ W j k = true
  free : ∀ j m o o' p i t v, j < n → m < n → j ≠ m → Val E call G l st j o p → l[m]? = some o' → isSt o = true → (Sig.get i p.2).isSome = true → .tmp t ∈ opn G o' → (txt E call G l st m).sl[t]? = some v → v.uses i = false
  shape : ∀ j o p, j < n → Val E call G l st j o p → isSt o = true → ∃ i b, p.2 = [(i, b)] ∧ ((txt E call G l st j).sg.get i).isSome = true
/-- Made in the head, by who is done. -/
def Made (E : Env) (call : CallFn) (G l : List Oper) (st : St) (n : Nat) (L : Nat → Prop) (i : Nat) (b : Blk) : Prop :=
  st.sg.get i = some b ∨ ∃ j o p, j < n ∧ L j ∧ Val E call G l st j o p ∧ isSt o = false ∧ Sig.get i p.2 = some b
def Stored (E : Env) (call : CallFn) (G l : List Oper) (st : St) (n : Nat) (L : Nat → Prop) (i : Nat) (b : Blk) : Prop :=
  ∃ j o p, j < n ∧ L j ∧ Val E call G l st j o p ∧ isSt o = true ∧ Sig.get i p.2 = some b
/-- A part of the head is done. -/
structure Part (E : Env) (call : CallFn) (G l : List Oper) (st : St) (n : Nat) (L : Nat → Prop) (s : St) : Prop where
  len : s.sl.length = st.sl.length
  wr : ∀ j o p t, j < n → L j → Val E call G l st j o p → o.dst = some t → t < st.sl.length → s.sl[t]? = some p.1
  un : ∀ t, (∀ j o, j < n → L j → l[j]? = some o → o.dst ≠ some t) → s.sl[t]? = st.sl[t]?
  sg : ∀ i b, s.sg.get i = some b ↔ Stored E call G l st n L i b ∨ ((∀ b', ¬ Stored E call G l st n L i b') ∧ Made E call G l st n L i b)
theorem Part.start {l : List Oper} {st : St} {n : Nat} {L : Nat → Prop} (hL : ∀ j, j < n → ¬ L j) : Part E call G l st n L st :=
  ⟨rfl, fun j o p t hj hl => absurd hl (hL j hj), fun t _ => rfl, fun i b => ⟨fun h => .inr ⟨fun b' ⟨j, o, p, hj, hl, _⟩ => hL j hj hl, .inl h⟩, fun h => by
    rcases h with ⟨j, o, p, hj, hl, _⟩ | ⟨_, h | ⟨j, o, p, hj, hl, _⟩⟩
    · exact absurd hl (hL j hj)
    · exact h
    · exact absurd hl (hL j hj)⟩⟩
theorem Part.step {l : List Oper} {st s : St} {n j : Nat} {L L' : Nat → Prop} {o : Oper} {p : AV × Sig} (SO : Stores E call G l st n W) (h : Part E call G l st n L s) (hj : j < n) (hn : ¬ L j) (hv : Val E call G l st j o p) (hL : ∀ i, L' i ↔ L i ∨ i = j)
    (hu : ∀ i o' t, i < n → l[i]? = some o' → o'.dst = some t → o.dst = some t → i = j) (hf : isSt o = false → ∀ q ∈ p.2, s.sg.get q.1 = none)
    (hbe : isSt o = false → ∀ k o' p' i, k < n → L k → Val E call G l st k o' p' → isSt o' = true → (Sig.get i p.2).isSome = true → Sig.get i p'.2 = none) : Part E call G l st n L' (aft o p s) := by
  refine ⟨by rw [aft_len, h.len], fun i o' p' t hi hl' hv' ht hlt => ?_, fun t ht => ?_, fun i b => ?_⟩
  · rw [aft_sl]
    split
    · rename_i hd
      have hij := hu i o' t hi hv'.1 ht hd
      subst hij
      obtain ⟨_, rfl⟩ := hv.uniq hv'
      rw [if_pos (by rw [h.len]; exact hlt)]
    · rename_i hd
      rcases (hL i).1 hl' with hl | rfl
      · exact h.wr i o' p' t hi hl hv' ht hlt
      · obtain ⟨rfl, _⟩ := hv.uniq hv'
        exact absurd ht hd
  · rw [aft_sl, if_neg (ht j o hj ((hL j).2 (.inr rfl)) hv.1)]
    exact h.un t fun i o' hi hl ho => ht i o' hi ((hL i).2 (.inl hl)) ho
  · rw [aft_sg]
    have stored_old : ∀ i b, Stored E call G l st n L i b → Stored E call G l st n L' i b := fun i b ⟨k, o', p', h1, h2, h3⟩ => ⟨k, o', p', h1, (hL k).2 (.inl h2), h3⟩
    have made_old : ∀ i b, Made E call G l st n L i b → Made E call G l st n L' i b := fun i b h => h.imp id fun ⟨k, o', p', h1, h2, h3⟩ => ⟨k, o', p', h1, (hL k).2 (.inl h2), h3⟩
    cases hs : isSt o with
    | true =>
      obtain ⟨i0, b0, hp, _⟩ := SO.shape j o p hj hv hs
      rw [hp]
      show (s.sg.put i0 b0).get i = some b ↔ _
      rw [Sig.get_put]
      have new : Stored E call G l st n L' i0 b0 := ⟨j, o, p, hj, (hL j).2 (.inr rfl), hv, hs, by rw [hp]; simp [Sig.get]⟩
      have only : ∀ b', Stored E call G l st n L' i0 b' → b' = b0 := by
        rintro b' ⟨k, o', p', h1, h2, h3, h4, h5⟩
        have hjk := SO.one j k o o' p p' i0 hj h1 hv h3 hs h4 (by rw [hp]; simp [Sig.get]) (by rw [h5]; rfl)
        subst hjk
        obtain ⟨rfl, rfl⟩ := hv.uniq h3
        rw [hp] at h5
        simp [Sig.get] at h5
        exact h5.symm
      by_cases hi : i0 = i
      · subst hi
        rw [if_pos rfl]
        constructor
        · intro hb; cases hb; exact .inl new
        · rintro (hb | ⟨hb, _⟩)
          · rw [only b hb]
          · exact absurd new (hb b0)
      · rw [if_neg hi, h.sg]
        have back : ∀ b', Stored E call G l st n L' i b' → Stored E call G l st n L i b' := by
          rintro b' ⟨k, o', p', h1, h2, h3, h4, h5⟩
          rcases (hL k).1 h2 with h2 | rfl
          · exact ⟨k, o', p', h1, h2, h3, h4, h5⟩
          · obtain ⟨rfl, rfl⟩ := hv.uniq h3
            rw [hp] at h5
            simp only [Sig.get, beq_eq_false_iff_ne.2 hi, cond_false] at h5
            cases h5
        have backM : ∀ b', Made E call G l st n L' i b' → Made E call G l st n L i b' := by
          rintro b' (h1 | ⟨k, o', p', h1, h2, h3, h4, h5⟩)
          · exact .inl h1
          · rcases (hL k).1 h2 with h2 | rfl
            · exact .inr ⟨k, o', p', h1, h2, h3, h4, h5⟩
            · obtain ⟨rfl, rfl⟩ := hv.uniq h3
              rw [hs] at h4; cases h4
        constructor
        · rintro (h1 | ⟨h1, h2⟩)
          · exact .inl (stored_old i b h1)
          · exact .inr ⟨fun b' hb' => h1 b' (back b' hb'), made_old i b h2⟩
        · rintro (h1 | ⟨h1, h2⟩)
          · exact .inl (back b h1)
          · exact .inr ⟨fun b' hb' => h1 b' (stored_old i b' hb'), backM b h2⟩
    | false =>
      have hf := hf hs
      have backS : ∀ b', Stored E call G l st n L' i b' → Stored E call G l st n L i b' := by
        rintro b' ⟨k, o', p', h1, h2, h3, h4, h5⟩
        rcases (hL k).1 h2 with h2 | rfl
        · exact ⟨k, o', p', h1, h2, h3, h4, h5⟩
        · obtain ⟨rfl, rfl⟩ := hv.uniq h3
          rw [hs] at h4; cases h4
      show (p.2 ++ s.sg).get i = some b ↔ _
      constructor
      · intro hb
        rcases get_append_mem hb hf with hb | ⟨_, hb⟩
        · refine .inr ⟨fun b' hb' => ?_, .inr ⟨j, o, p, hj, (hL j).2 (.inr rfl), hv, hs, hb⟩⟩
          obtain ⟨k, o', p', h1, h2, h3, h4, h5⟩ := backS b' hb'
          rw [hbe hs k o' p' i h1 h2 h3 h4 (by rw [hb]; rfl)] at h5
          cases h5
        · rcases (h.sg i b).1 hb with h1 | ⟨h1, h2⟩
          · exact .inl (stored_old i b h1)
          · exact .inr ⟨fun b' hb' => h1 b' (backS b' hb'), made_old i b h2⟩
      · intro hb
        have old : s.sg.get i = some b → (p.2 ++ s.sg).get i = some b := by
          intro hs
          rw [Sig.get_append]
          cases ha : Sig.get i p.2 with
          | none => simpa using hs
          | some y =>
            have := hf _ (Sig.get_mem ha)
            rw [hs] at this
            cases this
        rcases hb with hb | ⟨h1, hb | ⟨k, o', p', h2, h3, h4, h5, h6⟩⟩
        · exact old ((h.sg i b).2 (.inl (backS b hb)))
        · exact old ((h.sg i b).2 (.inr ⟨fun b' hb' => h1 b' (stored_old i b' hb'), .inl hb⟩))
        · rcases (hL k).1 h3 with h3 | rfl
          · exact old ((h.sg i b).2 (.inr ⟨fun b' hb' => h1 b' (stored_old i b' hb'), .inr ⟨k, o', p', h2, h3, h4, h5, h6⟩⟩))
          · obtain ⟨rfl, rfl⟩ := hv.uniq h4
            rw [Sig.get_append, h6]
            rfl
/-- What is there stays there, in the order of the text. -/
theorem txt_some {l : List Oper} {st : St} {n : Nat} (hv : ∀ j, j < n → ∃ o p, Val E call G l st j o p) (hsh : ∀ j o p, j < n → Val E call G l st j o p → isSt o = true → ∃ i b, p.2 = [(i, b)] ∧ ((txt E call G l st j).sg.get i).isSome = true) {i : Nat} : ∀ {a b : Nat}, a ≤ b → b ≤ n → ((txt E call G l st a).sg.get i).isSome = true → ((txt E call G l st b).sg.get i).isSome = true := by
  intro a b hab
  induction b with
  | zero => intro _ h; have : a = 0 := by omega
            subst this; exact h
  | succ b ih =>
    intro hb h
    by_cases hab' : a = b + 1
    · subst hab'; exact h
    · have h0 := ih (by omega) (by omega) h
      obtain ⟨o, p, hp⟩ := hv b (by omega)
      rw [hp.succ, aft_sg]
      cases hs : isSt o with
      | true =>
        obtain ⟨i0, b0, hp0, _⟩ := hsh b o p (by omega) hp hs
        rw [hp0]
        show ((Sig.put i0 b0 _).get i).isSome = true
        rw [Sig.get_put]
        split
        · rfl
        · exact h0
      | false =>
        show (Sig.get i (p.2 ++ _)).isSome = true
        rw [Sig.get_append]
        cases ha : Sig.get i p.2 with
        | none => simpa using h0
        | some y => rfl
theorem txt_made {l : List Oper} {st : St} {j i : Nat} {o : Oper} {p : AV × Sig} (hp : Val E call G l st j o p) (hs : isSt o = false) (hi : (Sig.get i p.2).isSome = true) : ((txt E call G l st (j + 1)).sg.get i).isSome = true := by
  rw [hp.succ, aft_sg, hs]
  show (Sig.get i (p.2 ++ _)).isSome = true
  rw [Sig.get_append]
  obtain ⟨b, hb⟩ := Option.isSome_iff_exists.1 hi
  rw [hb]; rfl
/-- Writers and readers of the head keep their order. -/
def readsB (n : Nat) (ops : Array Oper) : Bool :=
  (List.range n).all fun j => (List.range n).all fun k => match ops[j]?, ops[k]? with
    | some oj, some ok => (match ok.dst with
      | some t => (j == k || oj.dst != some t) && (!((opn ops.toList oj).any fun x => match x with | .tmp u => u == t | _ => false) || (decide (k < j) && Region.waitsFor .any ops j k) || (decide (j < k) && Region.waitsFor .any ops k j))
      | none => true)
    | _, _ => true
/-- Nothing waits for what stands behind it. -/
def edgesB (n : Nat) (ops : Array Oper) : Bool :=
  (List.range n).all fun j => match ops[j]? with
    | some o => o.after.toList.all fun e => !Region.binds .any e || Nat.blt e.on j
    | none => true
def listedN (n m : Nat) : Array Bool := (List.replicate n true ++ List.replicate m false).toArray
/-- The variables that stores of the head write: made in the head before, waited for, leant on by nobody else. -/
def storeB (l : List Oper) (n j : Nat) (o : Oper) : Bool :=
  match o.op with
  | .store _ (.tmp t) _ => (List.range n).any (fun k => decide (k < j) && Region.waitsFor .any l.toArray j k && (match l[k]? with | some ok => (match ok.op with | .alloc _ => ok.guard.isNone && ok.dst == some t | _ => false) | none => false)) &&
      (List.range n).all (fun m => m == j || (match l[m]? with | some om => !((opn l om).any fun x => match x with | .tmp u => u == t | _ => false) | none => true))
  | _ => true
def storesB (l : List Oper) (n : Nat) : Bool := (List.range n).all fun j => match l[j]? with | some o => storeB l n j o | none => true
def runN (E : Env) (call : CallFn) (l : List Oper) (st : St) : Nat → Option St
  | 0 => some st
  | j + 1 => (match runN E call l st j with
    | some s => (match l[j]? with
      | some o => (match gop E call l s.sg (evalO s.sl) o with | some p => some (aft o p s) | none => none)
      | none => none)
    | none => none)
def noUse (t : Nat) (sl : List AV) (skip : Nat) : Bool := (List.range sl.length).all fun u => u == skip || !((sl.getD u (.one .und)).uses t)
/-- Nobody else knows the variables that are written. -/
def aloneB (l : List Oper) (n : Nat) (st s : St) : Bool :=
  (l.take n).all fun o => match o.op with
  | .store _ (.tmp t) _ => noUse t st.sl st.sl.length && noUse t s.sl t
  | _ => true
def dynB (E : Env) (call : CallFn) (l : List Oper) (st : St) (n : Nat) : Bool :=
  (l.take n).all (fun o => !isSt o) || (match runN E call l st n with | some s => aloneB l n st s | none => false)
def headB (E : Env) (l : List Oper) (n : Nat) : Bool :=
  Nat.blt n l.length && (l.take n).all (headOk E) && Region.sinkB .any l.toArray n && Region.chainB .any l.toArray n && readsB n l.toArray && edgesB n l.toArray && Region.seqB .any l.toArray (l.length - n) n (listedN n (l.length - n)) && storesB l n
def drawB (E : Env) (call : CallFn) (l : List Oper) (st : St) : Bool := (List.range l.length).any fun i => headB E l (l.length - 1 - i) && dynB E call l st (l.length - 1 - i)

/-- What is asked of operations whose order is open; W: who waits for whom. -/
structure HeadW (E : Env) (G l : List Oper) (n : Nat) (W : Nat → Nat → Bool) : Prop where
  ok : (l.take n).all (headOk E) = true
  uniq : ∀ j k oj ok t, j < n → k < n → l[j]? = some oj → l[k]? = some ok → oj.dst = some t → ok.dst = some t → j = k
  reads : ∀ j k oj ok t, j < n → k < n → l[j]? = some oj → l[k]? = some ok → ok.dst = some t → .tmp t ∈ opn G oj → (k < j ∧ W j k = true) ∨ (j < k ∧ W k j = true)
structure HeadOk (E : Env) (l : List Oper) (n : Nat) : Prop where
  lt : n < l.length
  ok : (l.take n).all (headOk E) = true
  sink : Region.sinkB .any l.toArray n = true
  chain : Region.chainB .any l.toArray n = true
  uniq : ∀ j k oj ok t, j < n → k < n → l[j]? = some oj → l[k]? = some ok → oj.dst = some t → ok.dst = some t → j = k
  reads : ∀ j k oj ok t, j < n → k < n → l[j]? = some oj → l[k]? = some ok → ok.dst = some t → .tmp t ∈ opn l oj → (k < j ∧ Region.waitsFor .any l.toArray j k = true) ∨ (j < k ∧ Region.waitsFor .any l.toArray k j = true)
  edges : ∀ j o, j < n → l[j]? = some o → ∀ e ∈ o.after, Region.binds .any e = true → e.on < j
  seq : Region.seqB .any l.toArray (l.length - n) n (listedN n (l.length - n)) = true
  sto : storesB l n = true
theorem HeadOk.w {E : Env} {l : List Oper} {n : Nat} (H : HeadOk E l n) : HeadW E l l n (Region.waitsFor .any l.toArray) := ⟨H.ok, H.uniq, H.reads⟩
theorem headB_ok {l : List Oper} {n : Nat} (h : headB E l n = true) : HeadOk E l n := by
  simp only [headB, Bool.and_eq_true, Nat.blt_eq] at h
  obtain ⟨⟨⟨⟨⟨⟨⟨h1, h2⟩, h3⟩, h4⟩, h5⟩, h6⟩, h7⟩, h8⟩ := h
  simp only [readsB, List.all_eq_true, List.mem_range] at h5
  refine ⟨h1, h2, h3, h4, fun j k oj ok t hj hk h8 h9 h10 h11 => ?_, fun j k oj ok t hj hk h8 h9 h10 h11 => ?_, fun j o hj h8 e he hb => ?_, h7, h8⟩
  · have := h5 j hj k hk
    simp only [List.getElem?_toArray, h8, h9, h11, h10, Bool.and_eq_true, Bool.or_eq_true, beq_iff_eq, bne_iff_ne, ne_eq, not_true_eq_false, or_false] at this
    exact this.1
  · have := h5 j hj k hk
    simp only [List.getElem?_toArray, h8, h9, h10, Bool.and_eq_true, Bool.or_eq_true, decide_eq_true_eq, Bool.not_eq_true'] at this
    rcases this.2 with (h | h) | h
    · rw [List.any_eq_false] at h
      exact absurd (h _ h11) (by simp)
    · exact .inl h
    · exact .inr h
  · simp only [edgesB, List.all_eq_true, List.mem_range] at h6
    have := h6 j hj
    simp only [List.getElem?_toArray, h8, List.all_eq_true] at this
    have := this e (by simpa using he)
    simpa [hb] using this
theorem txt_len {l : List Oper} {st : St} : ∀ m, (txt E call G l st m).sl.length = st.sl.length
  | 0 => rfl
  | m + 1 => by
    simp only [txt]
    split
    · split
      · rw [aft_len, txt_len m]
      · exact txt_len m
    · exact txt_len m
/-- A slot that is written in the head. -/
theorem txt_wr {l : List Oper} {st : St} {n : Nat} (H : HeadW E G l n W) (hv : ∀ j, j < n → ∃ o p, Val E call G l st j o p) {w : Nat} {o : Oper} {p : AV × Sig} {t : Nat} (hp : Val E call G l st w o p) (hw : w < n) (hd : o.dst = some t) (ht : t < st.sl.length) : ∀ m, w < m → m ≤ n → (txt E call G l st m).sl[t]? = some p.1
  | 0, h, _ => by omega
  | m + 1, h, hm => by
    obtain ⟨o', p', hp'⟩ := hv m (by omega)
    rw [hp'.succ, aft_sl]
    by_cases hwm : w = m
    · subst hwm
      obtain ⟨rfl, rfl⟩ := hp.uniq hp'
      rw [if_pos hd, if_pos (by rw [txt_len]; exact ht)]
    · rw [if_neg (fun hd' => hwm (H.uniq w m o o' t hw (by omega) hp.1 hp'.1 hd hd'))]
      exact txt_wr H hv hp hw hd ht m (by omega) (by omega)
theorem txt_un {l : List Oper} {st : St} {n : Nat} (hv : ∀ j, j < n → ∃ o p, Val E call G l st j o p) {t : Nat} : ∀ m, m ≤ n → (∀ w o, w < m → l[w]? = some o → o.dst ≠ some t) → (txt E call G l st m).sl[t]? = st.sl[t]?
  | 0, _, _ => rfl
  | m + 1, hm, h => by
    obtain ⟨o', p', hp'⟩ := hv m (by omega)
    rw [hp'.succ, aft_sl, if_neg (h m o' (by omega) hp'.1)]
    exact txt_un hv m (by omega) fun w o hw => h w o (by omega)
theorem txt_part {l : List Oper} {st : St} {n : Nat} (H : HeadW E G l n W) (SO : Stores E call G l st n W) (hv : ∀ j, j < n → ∃ o p, Val E call G l st j o p) : ∀ j, j ≤ n → Part E call G l st n (· < j) (txt E call G l st j)
  | 0, _ => Part.start (fun j _ h => by omega)
  | j + 1, hj => by
    obtain ⟨o, p, hp⟩ := hv j (by omega)
    rw [hp.succ]
    refine (txt_part H SO hv j (by omega)).step (L' := (· < j + 1)) SO (by omega) (by omega) hp (fun i => by omega) (fun i o' t hi h1 h2 h3 => H.uniq i j o' o t hi (by omega) h1 hp.1 h2 h3) hp.2.2.2 (fun hs k o' p' i hk hkj hp' hs' hi => ?_)
    cases hg : Sig.get i p'.2 with
    | none => rfl
    | some b =>
      have := (SO.made k j o' o p' p i hk (by omega) hp' hp hs' hs (by rw [hg]; rfl) hi).1
      omega
theorem eval_of_slot {sl sl' : List AV} {x : Operand} (h : ∀ t, x = .tmp t → sl'[t]? = sl[t]?) : evalO sl' x = evalO sl x := by
  cases x with
  | tmp t => simp only [evalO, List.getD_eq_getElem?_getD, h t rfl]
  | _ => rfl
/-- An operation whose turn has come does what it does in the order of the text. -/
theorem part_hop {l : List Oper} {st s : St} {n j : Nat} {L : Nat → Prop} {o : Oper} {p : AV × Sig} (H : HeadW E G l n W) (SO : Stores E call G l st n W) (hv : ∀ j, j < n → ∃ o p, Val E call G l st j o p) (h : Part E call G l st n L s)
    (hj : j < n) (hp : Val E call G l st j o p) (hn : ¬ L j) (hcl : ∀ a b, a < n → b < n → L a → W a b = true → L b) (hrd : ∀ k, k < n → W j k = true → L k)
    (hdom : ∀ (i : Nat) (v : AV) (d : Nat), s.sl[i]? = some v → v.uses d = true → (s.sg.get d).isSome = true) : gop E call G s.sg (evalO s.sl) o = some p ∧ (isSt o = false → ∀ q ∈ p.2, s.sg.get q.1 = none) ∧
    (isSt o = false → ∀ k o' p' i, k < n → L k → Val E call G l st k o' p' → isSt o' = true → (Sig.get i p.2).isSome = true → Sig.get i p'.2 = none) := by
  have hT := txt_part H SO hv j (by omega)
  have hN := txt_part H SO hv n (Nat.le_refl _)
  have slot : ∀ t, .tmp t ∈ opn G o → s.sl[t]? = (txt E call G l st j).sl[t]? := by
    intro t ht
    by_cases hw : ∃ k o', k < n ∧ l[k]? = some o' ∧ o'.dst = some t
    · obtain ⟨k, o', hk, ho', hd⟩ := hw
      obtain ⟨o2, p2, hp2⟩ := hv k hk
      have : o2 = o' := Option.some.inj (hp2.1.symm.trans ho')
      subst this
      rcases H.reads j k o o2 t hj hk hp.1 hp2.1 hd ht with ⟨hlt, hwt⟩ | ⟨hlt, hwt⟩
      · by_cases htl : t < st.sl.length
        · rw [h.wr k o2 p2 t hk (hrd k hk hwt) hp2 hd htl, hT.wr k o2 p2 t hk hlt hp2 hd htl]
        · rw [List.getElem?_eq_none (by rw [h.len]; exact Nat.le_of_not_lt htl), List.getElem?_eq_none (by rw [hT.len]; exact Nat.le_of_not_lt htl)]
      · have hnk : ¬ L k := fun hl => hn (hcl k j hk hj hl hwt)
        rw [h.un t fun i oi hi hl ho hdi => hnk (by rw [H.uniq k i o2 oi t hk hi hp2.1 ho hd hdi]; exact hl), hT.un t fun i oi hi hl ho hdi => by
          have := H.uniq k i o2 oi t hk hi hp2.1 ho hd hdi
          omega]
    · rw [h.un t fun i oi hi hl ho hdi => hw ⟨i, oi, hi, ho, hdi⟩, hT.un t fun i oi hi hl ho hdi => hw ⟨i, oi, hi, ho, hdi⟩]
  have hev : ∀ x ∈ opn G o, evalO s.sl x = evalO (txt E call G l st j).sl x := fun x hx => eval_of_slot fun t ht => slot t (ht ▸ hx)
  have made : isSt o = false → ∀ k o' p' i, k < n → L k → Val E call G l st k o' p' → isSt o' = true → (Sig.get i p.2).isSome = true → Sig.get i p'.2 = none := by
    intro hs k o' p' i hk hl hp' hs' hi
    cases hg : Sig.get i p'.2 with
    | none => rfl
    | some b => exact absurd (hcl k j hk hj hl (SO.made k j o' o p' p i hk hj hp' hp hs' hs (by rw [hg]; rfl) hi).2) hn
  cases hs : isSt o with
  | true =>
    refine ⟨?_, (fun h => by cases h), (fun h => by cases h)⟩
    obtain ⟨ty, u, v, hop', hgd⟩ := st_head hs hp.2.1
    have hg := hp.2.2.1
    unfold gop sop at hg ⊢
    simp only [hgd, hop'] at hg ⊢
    have hua : .tmp u ∈ opn G o := List.mem_append_right _ (by rw [hop']; simp [Op.operands])
    have huv : v ∈ opn G o := List.mem_append_right _ (by rw [hop']; simp [Op.operands])
    rw [hev _ hua, hev _ huv]
    obtain ⟨i, c, b, b', hx, hb, rfl, hgo⟩ := hst_spec hg
    refine hgo s.sg ?_
    have no : ∀ M : Nat → Prop, ¬ M j → ∀ b', ¬ Stored E call G l st n M i b' := by
      rintro M hM b2 ⟨k, o', p', h1, h2, h3, h4, h5⟩
      have := SO.one j k o o' _ p' i hj h1 hp h3 hs h4 (by simp [Sig.get]) (by rw [h5]; rfl)
      subst this
      exact hM h2
    rcases (hT.sg i b).1 hb with h1 | ⟨_, h1⟩
    · exact absurd h1 (no _ (by omega) b)
    · refine (h.sg i b).2 (.inr ⟨no L hn, ?_⟩)
      rcases h1 with h1 | ⟨k, o', p', h1, h2, h3, h4, h5⟩
      · exact .inl h1
      · exact .inr ⟨k, o', p', h1, hrd k h1 (SO.made j k o o' _ p' i hj h1 hp h3 hs h4 (by simp [Sig.get]) (by rw [h5]; rfl)).2, h3, h4, h5⟩
  | false =>
  have fresh : ∀ q ∈ p.2, s.sg.get q.1 = none := by
    intro q hq
    have hsome : (Sig.get q.1 p.2).isSome = true := by
      have : ∀ (sg : Sig) (q : Nat × Blk), q ∈ sg → (sg.get q.1).isSome = true := by
        intro sg
        induction sg with
        | nil => intro q hq; cases hq
        | cons a r ih =>
          intro q hq
          obtain ⟨i, c⟩ := a
          simp only [Sig.get]
          cases hb : (i == q.1) with
          | true => rfl
          | false =>
            rcases List.mem_cons.1 hq with rfl | hq
            · simp at hb
            · exact ih q hq
      exact this p.2 q hq
    cases hsg : s.sg.get q.1 with
    | none => rfl
    | some b =>
      have h0 := hp.2.2.2 hs q hq
      rcases (h.sg q.1 b).1 hsg with ⟨k, o', p', h1, h2, h3, h4, h5⟩ | ⟨_, h1 | ⟨k, o', p', h1, h2, h3, h4, h5⟩⟩
      · rw [made hs k o' p' q.1 h1 h2 h3 h4 hsome] at h5
        cases h5
      · have := txt_some hv SO.shape (i := q.1) (Nat.zero_le j) (by omega) (by show (st.sg.get q.1).isSome = true; rw [h1]; rfl)
        rw [h0] at this; cases this
      · rcases Nat.lt_trichotomy k j with hlt | heq | hgt
        · have := txt_some hv SO.shape (i := q.1) (show k + 1 ≤ j by omega) (by omega) (txt_made h3 h4 (by rw [h5]; rfl))
          rw [h0] at this; cases this
        · subst heq; exact absurd h2 hn
        · have h6 := h3.2.2.2 h4 _ (Sig.get_mem h5)
          have := txt_some hv SO.shape (i := q.1) (show j + 1 ≤ k by omega) (by omega) (txt_made hp hs hsome)
          simp only at h6
          rw [h6] at this; cases this
  refine ⟨gop_agree hs hp.2.2.1 hev (fun x hx i b hu hb => ?_) fresh, fun _ => fresh, fun _ => made hs⟩
  cases x with
  | tmp t =>
    simp only [evalO, List.getD_eq_getElem?_getD] at hu
    cases ht : (txt E call G l st j).sl[t]? with
    | none => rw [ht] at hu; cases hu
    | some v =>
      rw [ht] at hu
      have no : ∀ M : Nat → Prop, ∀ b', ¬ Stored E call G l st n M i b' := by
        rintro M b2 ⟨k, o', p', h1, h2, h3, h4, h5⟩
        have hkj : k ≠ j := by
          rintro rfl
          obtain ⟨rfl, _⟩ := hp.uniq h3
          rw [hs] at h4; cases h4
        have := SO.free k j o' o p' i t v h1 hj hkj h3 hp.1 h4 (by rw [h5]; rfl) hx ht
        have hu : v.uses i = true := hu
        rw [this] at hu; cases hu
      obtain ⟨b', hb'⟩ := Option.isSome_iff_exists.1 (hdom t v i (by rw [slot t hx]; exact ht) hu)
      have up : ∀ (M : Nat → Prop) b, Made E call G l st n M i b → (txt E call G l st n).sg.get i = some b := fun M b hm => (hN.sg i b).2 (.inr ⟨no _, hm.imp id fun ⟨k, o', p', h1, _, h3⟩ => ⟨k, o', p', h1, h1, h3⟩⟩)
      have m1 : (txt E call G l st n).sg.get i = some b := by
        rcases (hT.sg i b).1 hb with h1 | ⟨_, h1⟩
        · exact absurd h1 (no _ b)
        · exact up _ b h1
      have m2 : (txt E call G l st n).sg.get i = some b' := by
        rcases (h.sg i b').1 hb' with h1 | ⟨_, h1⟩
        · exact absurd h1 (no _ b')
        · exact up _ b' h1
      rw [m1] at m2
      cases m2
      exact hb'
  | const v =>
    exfalso
    have : ∀ v : Value, (ofVal v).uses i = false := by
      intro v
      have hc1 : ∀ v c, ofCell v = some c → c.uses i = false := by
        intro v c h
        unfold ofCell at h
        split at h <;> first | (cases h; done) | (cases h; rfl) | skip
        · split at h
          · cases h; rfl
          · cases h
      have hcs : ∀ vs cs, ofCells vs = some cs → ∀ c ∈ cs, c.uses i = false := by
        intro vs
        induction vs with
        | nil => intro cs h c hc; cases h; cases hc
        | cons a vs ih =>
          intro cs h c hc
          simp only [ofCells, Option.bind_eq_some_iff, Option.some.injEq] at h
          obtain ⟨c1, h1, cs1, h2, rfl⟩ := h
          rcases List.mem_cons.1 hc with rfl | hc
          · exact hc1 _ _ h1
          · exact ih _ h2 _ hc
      unfold ofVal
      split
      · split
        · rename_i l hl
          simp only [AV.uses]
          rw [List.any_eq_false]
          intro c hc
          simp [hcs _ _ hl c hc]
        · rfl
      · split <;> rfl
      · split
        · rename_i c hc; exact hc1 _ _ hc
        · rfl
    have h2 := this v
    simp only [evalO] at hu
    rw [h2] at hu
    cases hu
  | func f => simp [evalO, AV.uses, Cell.uses] at hu
  | global g => simp [evalO, AV.uses, Cell.uses] at hu
theorem runN_spec {l : List Oper} {st : St} : ∀ {n : Nat} {s : St}, runN E call l st n = some s → s = txt E call l l st n ∧ ∀ j o, j < n → l[j]? = some o → (gop E call l (txt E call l l st j).sg (evalO (txt E call l l st j).sl) o).isSome = true
  | 0, s, h => by cases h; exact ⟨rfl, fun j o hj => by omega⟩
  | n + 1, s, h => by
    simp only [runN] at h
    split at h
    · rename_i s0 h0
      obtain ⟨rfl, ih⟩ := runN_spec h0
      split at h
      · rename_i o ho
        split at h
        · rename_i p hp
          cases h
          refine ⟨by simp only [txt, ho, hp], fun j o' hj ho' => ?_⟩
          by_cases hjn : j = n
          · subst hjn
            rw [ho] at ho'; cases ho'
            rw [hp]; rfl
          · exact ih j o' (by omega) ho'
        · cases h
      · cases h
    · cases h
theorem noUse_spec {t k : Nat} {sl : List AV} (h : noUse t sl k = true) {u : Nat} {v : AV} (hu : sl[u]? = some v) (hk : u ≠ k) : v.uses t = false := by
  have hlt := (List.getElem?_eq_some_iff.1 hu).1
  have := List.all_eq_true.1 h u (List.mem_range.2 hlt)
  simp only [Bool.or_eq_true, beq_iff_eq, Bool.not_eq_true', List.getD_eq_getElem?_getD, hu, Option.getD_some] at this
  exact this.resolve_left hk
theorem alloc_val {l : List Oper} {st : St} {j : Nat} {o : Oper} {p : AV × Sig} {T : TypeId} (hp : Val E call l l st j o p) (ho : o.op = .alloc T) (hg : o.guard = none) : ∃ d b, o.dst = some d ∧ p = (.one (.ptr d 0 0), [(d, b)]) := by
  have h := hp.2.2.1
  unfold gop sop hop at h
  simp only [hg, ho, qop] at h
  split at h
  · simp only [bifs] at h
    split at h
    · rename_i d _ _ _ _ hd _ _
      cases h
      exact ⟨d, _, hd, rfl⟩
    · cases h
  · cases h
theorem stores_of {l : List Oper} {st : St} {n : Nat} (H : HeadOk E l n) (hv : ∀ j, j < n → ∃ o p, Val E call l l st j o p) (hd : dynB E call l st n = true) : Stores E call l l st n (Region.waitsFor .any l.toArray) := by
  -- a store and the variable that it writes
  have sto : ∀ j o p, j < n → Val E call l l st j o p → isSt o = true → ∃ t, (∃ b, p.2 = [(t, b)]) ∧ ((txt E call l l st j).sg.get t).isSome = true ∧ (∃ k ok pk b, k < j ∧ Region.waitsFor .any l.toArray j k = true ∧ Val E call l l st k ok pk ∧ isSt ok = false ∧ pk.2 = [(t, b)]) ∧
      (∀ m om, m < n → m ≠ j → l[m]? = some om → .tmp t ∉ opn l om) ∧ .tmp t ∈ opn l o ∧ (∀ (u : Nat) (v : AV), st.sl[u]? = some v → v.uses t = false) ∧ (∀ (u : Nat) (v : AV), (txt E call l l st n).sl[u]? = some v → u ≠ t → v.uses t = false) := by
    intro j o p hj hp hs
    obtain ⟨T, t, x, hop', hgd⟩ := st_head hs hp.2.1
    have h1 := List.all_eq_true.1 H.sto j (List.mem_range.2 hj)
    rw [hp.1] at h1
    simp only [storeB, hop', Bool.and_eq_true, List.any_eq_true, List.mem_range, List.all_eq_true] at h1
    obtain ⟨⟨k, hkn, ⟨hkj, hw⟩, hal⟩, hoth⟩ := h1
    simp only [decide_eq_true_eq] at hkj
    obtain ⟨ok, pk, hpk⟩ := hv k hkn
    rw [hpk.1] at hal
    simp only at hal
    split at hal
    · rename_i Ta hka
      simp only [Bool.and_eq_true, Option.isNone_iff_eq_none, beq_iff_eq] at hal
      obtain ⟨d, bk, hdk, hpk'⟩ := alloc_val hpk hka hal.1
      have : d = t := Option.some.inj (hdk.symm.trans hal.2)
      subst this
      have hg := hp.2.2.1
      unfold gop sop at hg
      simp only [hgd, hop'] at hg
      obtain ⟨i, c, b, b', hx, hb, rfl, _⟩ := hst_spec hg
      have hdl : d < st.sl.length := by
        rcases Nat.lt_or_ge d st.sl.length with h | h
        · exact h
        · exfalso
          simp only [evalO, List.getD_eq_getElem?_getD] at hx
          rw [List.getElem?_eq_none (by rw [txt_len]; exact h)] at hx
          cases hx
      have hsl := txt_wr H.w hv hpk hkn hdk hdl j hkj (by omega)
      rw [evalO_tmp hsl, hpk'] at hx
      cases hx
      have hda : aloneB l n st (txt E call l l st n) = true := by
        unfold dynB at hd
        rw [Bool.or_eq_true] at hd
        rcases hd with hd | hd
        · exfalso
          have := List.all_eq_true.1 hd o (List.mem_take_iff_getElem.2 ⟨j, by have := H.lt; omega, by
            have := hp.1
            rw [List.getElem?_eq_some_iff] at this
            exact this.2⟩)
          rw [hs] at this; cases this
        · split at hd
          · rename_i s hrun
            rw [(runN_spec hrun).1] at hd
            exact hd
          · cases hd
      have hdo := List.all_eq_true.1 hda o (List.mem_take_iff_getElem.2 ⟨j, by have := H.lt; omega, by
            have := hp.1
            rw [List.getElem?_eq_some_iff] at this
            exact this.2⟩)
      simp only [hop', Bool.and_eq_true] at hdo
      refine ⟨d, ⟨_, rfl⟩, by rw [hb]; rfl, ⟨k, ok, pk, bk, hkj, hw, hpk, by unfold isSt; rw [hka], by rw [hpk']⟩, fun m om hm hmj hom hmem => ?_, List.mem_append_right _ (by rw [hop']; simp [Op.operands]), fun u v hu => noUse_spec hdo.1 hu (by have := (List.getElem?_eq_some_iff.1 hu).1; omega), fun u v hu hne => noUse_spec hdo.2 hu hne⟩
      have h2 := hoth m hm
      rw [hom] at h2
      simp only [Bool.or_eq_true, beq_iff_eq, Bool.not_eq_true'] at h2
      rcases h2 with h2 | h2
      · exact hmj h2
      · rw [List.any_eq_false] at h2
        exact absurd (h2 _ hmem) (by simp)
    · cases hal
  have hsh : ∀ j o p, j < n → Val E call l l st j o p → isSt o = true → ∃ i b, p.2 = [(i, b)] ∧ ((txt E call l l st j).sg.get i).isSome = true := by
    intro j o p hj hp hs
    obtain ⟨t, ⟨b, h1⟩, h2, _⟩ := sto j o p hj hp hs
    exact ⟨t, b, h1, h2⟩
  have key : ∀ {i t : Nat} {b : Blk}, (Sig.get i [(t, b)]).isSome = true → i = t := by
    intro i t b h
    simp only [Sig.get] at h
    cases hb : (t == i) with
    | true => exact (eq_of_beq hb).symm
    | false => rw [hb] at h; cases h
  refine ⟨fun j k o o' p p' i hj hk hp hp' hs hs' hi hi' => ?_, fun j k o o' p p' i hj hk hp hp' hs hs' hi hi' => ?_, fun j m o o' p i u v hj hm hjm hp ho' hs hi hu hv' => ?_, hsh⟩
  · obtain ⟨t, ⟨b, h1⟩, _, _, h4, _⟩ := sto j o p hj hp hs
    obtain ⟨t', ⟨b', h1'⟩, _, _, _, h5', _⟩ := sto k o' p' hk hp' hs'
    rw [h1] at hi
    rw [h1'] at hi'
    have e1 := key hi
    have e2 := key hi'
    subst e1; subst e2
    by_cases hjk : j = k
    · exact hjk
    · exact absurd h5' (h4 k o' hk (Ne.symm hjk) hp'.1)
  · obtain ⟨t, ⟨b, h1⟩, _, ⟨k0, ok, pk, bk, g1, g2, g3, g4, g5⟩, _⟩ := sto j o p hj hp hs
    rw [h1] at hi
    have e1 := key hi
    subst e1
    have hk0 : (Sig.get i pk.2).isSome = true := by rw [g5]; simp [Sig.get]
    have fresh : ∀ a ao ap, Val E call l l st a ao ap → isSt ao = false → (Sig.get i ap.2).isSome = true → (txt E call l l st a).sg.get i = none := by
      intro a ao ap ha hs0 hi0
      obtain ⟨b0, hb0⟩ := Option.isSome_iff_exists.1 hi0
      exact ha.2.2.2 hs0 _ (Sig.get_mem hb0)
    rcases Nat.lt_trichotomy k k0 with hlt | heq | hgt
    · have := txt_some hv hsh (i := i) (show k + 1 ≤ k0 by omega) (by omega) (txt_made hp' hs' hi')
      rw [fresh k0 ok pk g3 g4 hk0] at this; cases this
    · subst heq; exact ⟨g1, g2⟩
    · have := txt_some hv hsh (i := i) (show k0 + 1 ≤ k by omega) (by omega) (txt_made g3 g4 hk0)
      rw [fresh k o' p' hp' hs' hi'] at this; cases this
  · obtain ⟨t, ⟨b, h1⟩, _, _, h4, _, h6, h7⟩ := sto j o p hj hp hs
    rw [h1] at hi
    have e1 := key hi
    subst e1
    have hut : u ≠ i := by
      rintro rfl
      exact h4 m o' hm (Ne.symm hjm) ho' hu
    have hul : u < st.sl.length := by
      have := (List.getElem?_eq_some_iff.1 hv').1
      rw [txt_len] at this
      exact this
    by_cases hw : ∃ w ow, w < m ∧ l[w]? = some ow ∧ ow.dst = some u
    · obtain ⟨w, ow, hwm, how, hdw⟩ := hw
      obtain ⟨o2, p2, hp2⟩ := hv w (by omega)
      have : o2 = ow := Option.some.inj (hp2.1.symm.trans how)
      subst this
      rw [txt_wr H.w hv hp2 (by omega) hdw hul m hwm (by omega)] at hv'
      cases hv'
      exact h7 u _ (txt_wr H.w hv hp2 (by omega) hdw hul n (by omega) (Nat.le_refl _)) hut
    · rw [txt_un hv m (by omega) fun w ow hwm how hdw => hw ⟨w, ow, hwm, how, hdw⟩] at hv'
      exact h6 u v hv'
end
end Go.Proofs.Ytfbokamlkecibaa.Lib

/- Statements whose order is open, joined. No condition. -/
namespace Go.Proofs.Ytfbokamlkecibaa.Lib
open Go Go.RowKit
set_option linter.unusedVariables false
set_option linter.unusedSimpArgs false
def cnt (listed : Array Bool) : Nat → Nat
  | 0 => 0
  | n + 1 => cnt listed n + if listed.getD n false = true then 0 else 1
theorem cnt_zero {listed : Array Bool} : ∀ {n : Nat}, cnt listed n = 0 → ∀ i, i < n → listed.getD i false = true
  | 0, _, i, hi => by omega
  | n + 1, h, i, hi => by
    simp only [cnt] at h
    by_cases hl : listed.getD n false = true
    · by_cases hin : i = n
      · subst hin; exact hl
      · exact cnt_zero (n := n) (by omega) i (by omega)
    · rw [if_neg hl] at h; omega
theorem cnt_pos {listed : Array Bool} : ∀ {n : Nat}, cnt listed n ≠ 0 → ∃ i, i < n ∧ listed.getD i false = false ∧ ∀ k, k < i → listed.getD k false = true
  | 0, h => absurd rfl h
  | n + 1, h => by
    by_cases h0 : cnt listed n = 0
    · refine ⟨n, by omega, ?_, fun k hk => cnt_zero h0 k hk⟩
      simp only [cnt, h0, Nat.zero_add] at h
      cases hl : listed.getD n false with
      | false => rfl
      | true => rw [hl] at h; simp at h
    · obtain ⟨i, h1, h2, h3⟩ := cnt_pos h0
      exact ⟨i, by omega, h2, h3⟩
theorem cnt_set {listed : Array Bool} {i : Nat} (hi : i < listed.size) (hu : listed.getD i false = false) : ∀ n, cnt (listed.setIfInBounds i true) n + (if i < n then 1 else 0) = cnt listed n
  | 0 => by simp [cnt]
  | n + 1 => by
    have ih := cnt_set hi hu n
    simp only [cnt]
    by_cases hin : i = n
    · subst hin
      have h1 : (listed.setIfInBounds i true).getD i false = true := by simp [hi]
      rw [h1, hu]
      simp only [Nat.lt_irrefl, if_false, Nat.add_zero] at ih
      simp [ih]
    · rw [getD_set_ne false hin]
      by_cases hlt : i < n
      · rw [if_pos hlt] at ih
        rw [if_pos (show i < n + 1 by omega)]
        omega
      · rw [if_neg hlt] at ih
        rw [if_neg (show ¬ i < n + 1 by omega)]
        omega
theorem cnt_none (m : Nat) : ∀ n, cnt (Array.replicate m false) n = n
  | 0 => rfl
  | n + 1 => by simp only [cnt, cnt_none m n, getD_replicate_false]; rfl
section
variable {P : Program} {E : Env} {B : Nat} {O : Ow} {w0 w w' : World} {ρ ρ' : CEnv} {a : Act} {R : Type} {r : R} {call : CallFn} {G : List Oper}
/-- The same slots, the same blocks. -/
theorem Sim.same {s s' : St} (h : Sim B O w0 ρ s a w) (hsl : s'.sl = s.sl) (hsg : ∀ i, s'.sg.get i = s.sg.get i) : Sim B O w0 ρ s' a w := by
  have ho : ∀ j g, Owns ρ s'.sg j g ↔ Owns ρ s.sg j g := fun j g => by unfold Owns; rw [hsg]
  refine ⟨⟨fun j b hj => h.mem.blk j b (by rw [← hsg]; exact hj), fun i j g h1 h2 => h.mem.inj i j g ((ho _ _).1 h1) ((ho _ _).1 h2), fun j g h1 => h.mem.old j g ((ho _ _).1 h1), h.mem.okb, fun b g hb j h1 => h.mem.oko b g hb j ((ho _ _).1 h1), h.mem.okm, h.mem.okx, h.mem.oky, fun j b d hj hd => ?_⟩, by rw [hsl]; exact h.len, fun i v hi => h.sl i v (by rw [← hsl]; exact hi), fun i v d hi hd => ?_, h.defers, h.fr, h.base, h.pin⟩
  · rw [hsg]; exact h.mem.dom j b d (by rw [← hsg]; exact hj) hd
  · rw [hsg]; exact h.dom i v d (by rw [← hsl]; exact hi) hd
theorem Part.same {l : List Oper} {st s s' : St} {n : Nat} {L L' : Nat → Prop} (hv : ∀ j, j < n → ∃ o p, Val E call G l st j o p) (h : Part E call G l st n L s) (h' : Part E call G l st n L' s') (hL : ∀ j, j < n → L j) (hL' : ∀ j, j < n → L' j) : s'.sl = s.sl ∧ ∀ i, s'.sg.get i = s.sg.get i := by
  constructor
  · apply List.ext_getElem?
    intro t
    by_cases hw : ∃ k o', k < n ∧ l[k]? = some o' ∧ o'.dst = some t
    · obtain ⟨k, o', hk, ho', hd⟩ := hw
      obtain ⟨o2, p2, hp2⟩ := hv k hk
      have : o2 = o' := Option.some.inj (hp2.1.symm.trans ho')
      subst this
      by_cases htl : t < st.sl.length
      · rw [h.wr k o2 p2 t hk (hL k hk) hp2 hd htl, h'.wr k o2 p2 t hk (hL' k hk) hp2 hd htl]
      · rw [List.getElem?_eq_none (by rw [h'.len]; exact Nat.le_of_not_lt htl), List.getElem?_eq_none (by rw [h.len]; exact Nat.le_of_not_lt htl)]
    · rw [h.un t fun i oi hi hl ho hdi => hw ⟨i, oi, hi, ho, hdi⟩, h'.un t fun i oi hi hl ho hdi => hw ⟨i, oi, hi, ho, hdi⟩]
  · intro i
    apply Option.ext
    intro b
    rw [h'.sg, h.sg]
    have sw : ∀ (M M' : Nat → Prop), (∀ j, j < n → M' j) → ∀ b, Stored E call G l st n M i b → Stored E call G l st n M' i b := fun M M' hM b ⟨j, o, p, hj, _, x⟩ => ⟨j, o, p, hj, hM j hj, x⟩
    have mw : ∀ (M M' : Nat → Prop), (∀ j, j < n → M' j) → ∀ b, Made E call G l st n M i b → Made E call G l st n M' i b := fun M M' hM b h => h.imp id fun ⟨j, o, p, hj, _, x⟩ => ⟨j, o, p, hj, hM j hj, x⟩
    constructor
    · rintro (h | ⟨h, h2⟩)
      · exact .inl (sw _ _ hL b h)
      · exact .inr ⟨fun b' hb' => h b' (sw _ _ hL' b' hb'), mw _ _ hL b h2⟩
    · rintro (h | ⟨h, h2⟩)
      · exact .inl (sw _ _ hL' b h)
      · exact .inr ⟨fun b' hb' => h b' (sw _ _ hL b' hb'), mw _ _ hL' b h2⟩
theorem wanted_gop {ops : Array Oper} {s : St} {o : Oper} {p : AV × Sig} (hS : Sim B O w0 ρ s a w) (ho : headOk E o = true) (h : gop E call ops.toList s.sg (evalO s.sl) o = some p) :
    (Region.wanted o (yielded ops a.tmps) = true ∧ sop E call s.sg (evalO s.sl) o = some p) ∨ (Region.wanted o (yielded ops a.tmps) = false ∧ isSt o = false ∧ p = (.tup [], [])) := by
  have gs : ∀ q, o.guard = some q → isSt o = false := by
    intro q hq
    cases hs : isSt o with
    | false => rfl
    | true =>
      obtain ⟨_, _, _, _, hg⟩ := st_head hs ho
      rw [hg] at hq; cases hq
  unfold gop at h
  split at h
  · rename_i hg
    exact .inl ⟨by simp [Region.wanted, hg], h⟩
  · rename_i j want hg
    split at h
    · rename_i t ht
      have ht' : (ops[j]?).bind (·.dst) = some t := by rw [← Array.getElem?_toList]; exact ht
      have he := (hS.eval (.tmp t)).1
      split at h
      · rename_i v hv
        rw [hv] at he
        have he : a.tmps.getD t undef = .bool v := he
        have hy : yielded ops a.tmps j = some v := by
          unfold yielded
          rw [ht']
          rw [Array.getD_eq_getD_getElem?] at he
          simp only [Option.bind_some]
          cases hx : a.tmps[t]? with
          | none => rw [hx] at he; cases he
          | some x => rw [hx] at he; simp only [Option.getD_some] at he; subst he; rfl
        have hw : Region.wanted o (yielded ops a.tmps) = (v == want) := by
          unfold Region.wanted
          rw [hg]
          simp only [hy]
          cases v <;> cases want <;> rfl
        simp only [bifs] at h
        split at h
        · rename_i hvw; exact .inl ⟨hw.trans hvw, by rw [sop_ns (gs _ hg)]; exact h⟩
        · rename_i hvw; cases h; exact .inr ⟨by rw [hw]; simpa using hvw, gs _ hg, rfl⟩
      · rename_i hv
        rw [hv] at he
        obtain ⟨us, he, hus⟩ := he
        cases hus
        have he : a.tmps.getD t undef = .tuple #[] := he
        have hy : yielded ops a.tmps j = none := by
          unfold yielded
          rw [ht']
          rw [Array.getD_eq_getD_getElem?] at he
          simp only [Option.bind_some]
          cases hx : a.tmps[t]? with
          | none => rfl
          | some x => rw [hx] at he; simp only [Option.getD_some] at he; subst he; rfl
        cases h
        refine .inr ⟨?_, gs _ hg, rfl⟩
        unfold Region.wanted
        rw [hg]
        simp only [hy]
        rfl
      · cases h
    · cases h
theorem drawB_ok (hE : Env.Ok P E) (hm : P.follows .mixedOrders = true) (call : CallFn) (hC : CallOk P call) : DrawOk P E call drawB := by
  intro R r B O w0 w ρ st a id ops k Q hdraw hS hk hnext
  simp only [drawB, List.any_eq_true] at hdraw
  obtain ⟨n0, _, hB⟩ := hdraw
  generalize hn : ops.toList.length - 1 - n0 = n at hB
  rw [Bool.and_eq_true] at hB
  have H := headB_ok hB.1
  obtain ⟨hk', hv⟩ := head_run n (Nat.le_of_lt H.lt) H.ok (fun j o hj ho hs => by
    have hd := hB.2
    unfold dynB at hd
    rw [Bool.or_eq_true] at hd
    rcases hd with hd | hd
    · have := List.all_eq_true.1 hd o (List.mem_take_iff_getElem.2 ⟨j, by have := H.lt; omega, (List.getElem?_eq_some_iff.1 ho).2⟩)
      rw [hs] at this; cases this
    · split at hd
      · rename_i s hrun
        exact (runN_spec hrun).2 j o hj ho
      · cases hd) hk
  have SO := stores_of H hv hB.2
  have hsz : ops.size = ops.toList.length := by simp
  have harr : ops.toList.toArray = ops := by simp
  have hnlt : n < ops.size := by rw [hsz]; exact H.lt
  have hget : ∀ j : Nat, ops[j]? = ops.toList[j]? := fun j => by simp
  have hsink := H.sink
  have hchain := H.chain
  have hseq := H.seq
  rw [harr] at hsink hchain hseq
  refine wp_region_any hm ?_
  have main : ∀ (f : Nat) (listed : Array Bool) (a : Act) (w : World) (ρ : CEnv) (s : St), HeadInv .any ops n listed → cnt listed n = f → Part E call ops.toList ops.toList st n (fun i => listed.getD i false = true) s → Sim B O w0 ρ s a w → wpAny P .any ops Q (f + (ops.size - n)) listed a w := by
    intro f
    induction f with
    | zero =>
      intro listed a w ρ s inv hc hp hS
      have hall := cnt_zero hc
      obtain ⟨h1, h2⟩ := Part.same hv hp (txt_part H.w SO hv n (Nat.le_refl _)) hall (fun j hj => hj)
      have hS' := hS.same h1 h2
      have htail := vguard_sound hE hC hnext (ops.toList.drop n) _ ρ a w hS' hk'
      have hl : listed = listedN n (ops.toList.length - n) := by
        apply Array.ext
        · rw [inv.size]; simp [listedN]; omega
        · intro i h1 h2
          have hi : i < ops.size := by rw [← inv.size]; exact h1
          rcases Nat.lt_or_ge i n with hin | hin
          · have := hall i hin
            simp only [Array.getD_eq_getD_getElem?, Array.getElem?_eq_getElem h1, Option.getD_some] at this
            rw [this]
            simp [listedN, List.getElem_append, hin]
          · have := inv.tail i hin hi
            simp only [Array.getD_eq_getD_getElem?, Array.getElem?_eq_getElem h1, Option.getD_some] at this
            rw [this]
            simp [listedN, List.getElem_append, Nat.not_lt.2 hin]
      have hdl : (ops.toList.drop n).length = ops.size - n := by simp
      rw [Nat.zero_add, ← hdl]
      refine wpAny_of_seq (ops.toList.drop n) n listed a w (fun j => by simp [List.getElem?_drop]) ?_ htail
      rw [hl, List.length_drop]
      exact hseq
    | succ f ih =>
      intro listed a w ρ s inv hc hp hS
      obtain ⟨i0, hi0, hu0, hlow⟩ := cnt_pos (listed := listed) (n := n) (by omega)
      have hu0' : listed.getD i0 true = false := getD_in (by rw [inv.size]; omega) hu0
      rw [show f + 1 + (ops.size - n) = (f + (ops.size - n)) + 1 by omega]
      refine ⟨fun h0 => ?_, fun i hi => ?_⟩
      · exfalso
        have hi0s : i0 < ops.size := by omega
        have : i0 ∈ Region.ready .any ops listed := by
          refine mem_ready.2 ⟨hu0', ops[i0], Array.getElem?_eq_getElem hi0s, fun e he hb => hlow _ ?_⟩
          exact H.edges i0 ops[i0] hi0 (by rw [← hget]; exact Array.getElem?_eq_getElem hi0s) e he hb
        rw [h0] at this
        cases this
      · have hin : i < n := by
          rcases Nat.lt_or_ge i n with h | h
          · exact h
          · exact absurd hi (tail_waits hsink hchain hnlt inv _ i0 rfl hi0 hu0' i h)
        obtain ⟨hu, oi, hoi, haft⟩ := mem_ready.1 hi
        obtain ⟨o, p, hval⟩ := hv i hin
        have : oi = o := Option.some.inj ((hoi.symm.trans (hget i)).trans hval.1)
        subst this
        have hu' := getD_both hu
        obtain ⟨hh, hf, hbe⟩ := part_hop H.w SO hv hp hin hval (by rw [hu']; simp) (fun a b ha hb hla hw => by
          rw [harr] at hw
          obtain ⟨oj, hoj, e, he, hbd, hon⟩ := Region.waitsFor_spec hw
          rw [← hon]
          exact inv.closed a oj hoj hla e he hbd) (fun b hb hw => by
          rw [harr] at hw
          obtain ⟨oj, hoj, e, he, hbd, hon⟩ := Region.waitsFor_spec hw
          have : oj = oi := Option.some.inj (hoj.symm.trans hoi)
          subst this
          rw [← hon]
          exact haft e he hbd) hS.dom
        have hho := hval.2.1
        unfold wpOp
        simp only [hoi]
        have next : ∀ ρ' a' w', Sim B O w0 ρ' (aft oi p s) a' w' → wpAny P .any ops Q (f + (ops.size - n)) (listed.setIfInBounds i true) a' w' := by
          intro ρ' a' w' hS'
          refine ih _ a' w' ρ' _ (inv.set hi hin) ?_ ?_ hS'
          · have := cnt_set (listed := listed) (i := i) (by rw [inv.size]; omega) hu' n
            rw [if_pos hin] at this
            omega
          · refine hp.step SO hin (by rw [hu']; simp) hval (fun j => ?_) (fun j o' t hj h1 h2 h3 => H.uniq j i o' oi t hj hin h1 hval.1 h2 h3) hf hbe
            by_cases hji : i = j
            · subst hji
              simp [show i < listed.size by rw [inv.size]; omega]
            · rw [getD_set_ne false hji]
              exact ⟨.inl, fun h => h.elim (fun h => h) fun h => absurd h.symm hji⟩
        rcases wanted_gop hS hho hh with ⟨hw, hh⟩ | ⟨hw, hns, rfl⟩
        · rw [if_pos hw]
          have hex : exec E call oi s some = some (aft oi p s) := by
            cases hs : isSt oi with
            | true =>
              obtain ⟨t, u, v, h1, _⟩ := st_head hs hho
              unfold sop at hh
              simp only [h1] at hh
              exact st_exec h1 hh some
            | false =>
              rw [sop_ns hs] at hh
              rw [hop_exec (R := St) hho hh some, aft_ns hs]
          refine .inl (exec_sound hE hC hS oi hex fun ρ' st' a' w' heq hS' => ?_)
          cases heq
          exact next ρ' a' w' hS'
        · rw [if_neg (by rw [hw]; simp)]
          refine next ρ _ w ?_
          rw [aft_ns hns]
          exact hS.put oi.dst (v := .tup []) (u := undef) ⟨[], rfl, .nil⟩ (fun d hd => by cases hd)
  have h0 := main n (Array.replicate ops.size false) a { w with drawn := w.drawn + 1 } ρ st
    ⟨by simp, fun j oj _ hl => (by rw [getD_replicate_false] at hl; cases hl), fun t _ ht => getD_in (by simpa using ht) (getD_replicate_false _ _)⟩
    (cnt_none _ _) (Part.start fun j _ h => by rw [getD_replicate_false] at h; cases h)
    (hS.below ⟨rfl, rfl, rfl, Nat.le_refl _, fun _ _ => rfl⟩)
  rwa [show n + (ops.size - n) = ops.size by omega] at h0
end
end Go.Proofs.Ytfbokamlkecibaa.Lib

/- Statements whose order is open, by all their orders: pure operations first, operations that only read or make in any order between the others. No condition. -/
namespace Go.Proofs.Ytfbokamlkecibaa.Lib
open Go Go.RowKit
set_option linter.unusedVariables false
set_option linter.unusedSimpArgs false
section
variable {P : Program} {E : Env} {B : Nat} {O : Ow} {w0 w w' : World} {ρ ρ' : CEnv} {st : St} {a : Act} {R : Type} {r : R} {call : CallFn}
/-! ### one operation -/
theorem genOut_bind {sl : List AV} {sg1 : Sig} {js : List (Nat × Nat)} {dst : Option Nat} {res : AV} {fin : Sig} (k : St → Option R) : genOut sl sg1 js dst res fin k = (genOut sl sg1 js dst res fin some).bind k := by
  unfold genOut
  simp only [bifs]
  repeat' (first | rfl | split)
theorem run_bind2 {α : Type} (o : Ways α) (f : α → Option St) (g : α → Option R) (k : St → Option R) (h : ∀ x, g x = (f x).bind k) : o.run g = (o.run f).bind k := by
  rw [Ways.run_bind o g, Ways.run_bind o f, Option.bind_assoc]
  congr 1
  funext x
  exact h x
theorem vgenOp_bind {dst : Option Nat} {f : AV} {args : List AV} {k : St → Option R} {oth : Option R} {oth' : Option St} (ho : oth = oth'.bind k) : vgenOp E st dst f args k oth = (vgenOp E st dst f args some oth').bind k := by
  unfold vgenOp
  repeat' (first | exact ho | exact run_bind2 _ _ _ _ fun x => genOut_bind k | split)
theorem vcallOp_bind {dst : Option Nat} {f : AV} {args : List AV} (k : St → Option R) : vcallOp E call st dst f args k = (vcallOp E call st dst f args some).bind k := by
  unfold vcallOp
  simp only [callK_eq]
  split
  · split
    · rw [Option.bind_assoc]
      congr 1
      funext x
      simp only [bifs]
      repeat' (first | rfl | split)
    · rfl
  · rfl
theorem vmarkOp_bind {dst : Option Nat} {m : Mrk} {args : List AV} (k : St → Option R) : vmarkOp st dst m args k = (vmarkOp st dst m args some).bind k := by
  unfold vmarkOp
  simp only [bifs]
  repeat' (first | rfl | (refine run_bind2 _ _ _ _ fun x => ?_; split <;> rfl) | split)
theorem vstore_bind {t : TypeId} {p v : AV} (k : St → Option R) : vstore E st t p v k = (vstore E st t p v some).bind k := by
  unfold vstore
  simp only [bifs]
  repeat' (first | rfl | split)
theorem vappend_bind {dst : Option Nat} {t : TypeId} {s x : AV} (k : St → Option R) : vappend E st dst t s x k = (vappend E st dst t s x some).bind k := by
  unfold vappend
  simp only [bifs]
  repeat' (first | rfl | split)
theorem vclear_bind {t : TypeId} {x : AV} (k : St → Option R) : vclear E st t x k = (vclear E st t x some).bind k := by
  unfold vclear
  repeat' (first | rfl | split)
/-- What follows an operation says nothing on what it does. -/
theorem exec_par {o : Oper} {k : St → Option R} (h : exec E call o st k = some r) : ∃ s', exec E call o st some = some s' ∧ k s' = some r := by
  have quiet : ∀ {op : Op}, (qop E st.sg (evalO st.sl) o.dst op fun v add => k (St.put o.dst v ⟨st.sl, add ++ st.sg⟩)) = some r → ∃ s', (qop E st.sg (evalO st.sl) o.dst op fun v add => some (St.put o.dst v ⟨st.sl, add ++ st.sg⟩)) = some s' ∧ k s' = some r := by
    intro op h
    obtain ⟨p, h1, h2⟩ := qop_par h
    exact ⟨_, h1.1 _ st.sg _ (fun _ _ => rfl) (fun _ _ j b _ hj => hj) h1.2, h2⟩
  have eqn : ∀ {x : Option R} {y : Option St}, x = y.bind k → x = some r → ∃ s', y = some s' ∧ k s' = some r := by
    intro x y h1 h2
    rw [h1, Option.bind_eq_some_iff] at h2
    exact h2
  cases hop : o.op with
  | store t x v =>
    unfold exec at h ⊢
    rw [hop] at h ⊢
    simp only at h ⊢
    refine eqn ?_ h
    rw [vstore_bind, vstore_bind (fun st => some (st.put o.dst (.one .und))), Option.bind_assoc]
    rfl
  | call c =>
    unfold exec at h ⊢
    rw [hop] at h ⊢
    simp only at h ⊢
    split at h
    · rename_i s x t t' hc ha ht
      simp only [bifs] at h ⊢
      split at h
      · rename_i hh; rw [if_pos hh]; exact eqn (vappend_bind k) h
      · cases h
    · rename_i x t hc ha ht
      refine eqn ?_ h
      rw [vclear_bind, vclear_bind (fun st => some (St.put o.dst (.tup []) st)), Option.bind_assoc]
      rfl
    · refine eqn ?_ h
      split
      · exact vmarkOp_bind k
      · split
        · exact vcallOp_bind k
        · exact vgenOp_bind (vcallOp_bind k)
    · exact quiet h
  | buildSlice t n ps =>
    unfold exec at h ⊢
    rw [hop] at h ⊢
    refine eqn ?_ h
    simp only [bifs]
    repeat' (first | rfl | split)
  | _ => (unfold exec at h ⊢; rw [hop] at h ⊢; exact quiet h)

/-! ### operations that are done first -/
/-- They look at no memory. -/
def hoistable (o : Oper) : Bool := o.guard.isNone && (match o.op with | .move _ | .nilCheck _ | .fieldAddr _ _ _ | .indexAddr _ _ _ | .slice _ _ _ _ _ => true | _ => false)
theorem hoist_free (hE : Env.Ok P E) (h : Sim B O w0 ρ st a w) {o : Oper} (ho : hoistable o = true) {k : AV → Sig → Option R} (hk : qop E st.sg (evalO st.sl) o.dst o.op k = some r) : ∃ u, ∀ w2, (execOp a.eval o).run P w2 = .ok (.value u) w2 := by
  unfold hoistable at ho
  rw [Bool.and_eq_true] at ho
  have ho := ho.2
  split at ho
  · rename_i x hop
    exact ⟨a.eval x, fun w2 => by unfold execOp; simp [hop]⟩
  · rename_i x hop
    rw [hop] at hk
    simp only [qop] at hk
    have hx := (h.eval x).1
    refine ⟨a.eval x, fun w2 => ?_⟩
    split at hk <;> rename_i hp <;> try (cases hk; done)
    · rw [hp] at hx
      unfold execOp
      rcases hx with ⟨_, g, _, h2⟩ | ⟨_, _, _, _, _, _, h2⟩ <;> simp [hop, h2]
    · rw [hp] at hx
      unfold execOp
      obtain ⟨_, _, h2⟩ := hx
      simp [hop, h2]
    · rw [hp] at hx
      unfold execOp
      obtain ⟨_, h2, _⟩ := hx
      simp [hop, h2]
    · rw [hp] at hx
      unfold execOp
      obtain ⟨_, h2, _⟩ := hx
      simp [hop, h2]
  · rename_i t x f hop
    obtain ⟨_, u, _, h1, _⟩ := f_faddr hE h hop hk
    exact ⟨u, h1⟩
  · rename_i t x i hop
    obtain ⟨_, u, _, h1, _⟩ := f_iaddr hE h hop hk
    exact ⟨u, h1⟩
  · rename_i t x lo hi mx hop
    obtain ⟨_, u, _, h1, _⟩ := f_slice hE h hop hk
    exact ⟨u, h1⟩
  · cases ho
theorem hoist_qop {o : Oper} (ho : hoistable o = true) (k : St → Option R) : exec E call o st k = qop E st.sg (evalO st.sl) o.dst o.op fun v add => k (St.put o.dst v ⟨st.sl, add ++ st.sg⟩) := by
  unfold hoistable at ho
  rw [Bool.and_eq_true] at ho
  have ho := ho.2
  unfold exec
  split at ho <;> rename_i hop <;> first | rw [hop] | cases ho
theorem hoist_step (hE : Env.Ok P E) (h : Sim B O w0 ρ st a w) {o : Oper} (ho : hoistable o = true) {s' : St} (hk : exec E call o st some = some s') :
    ∃ u ρ', (∀ w2, (execOp a.eval o).run P w2 = .ok (.value u) w2) ∧ Sim B O w0 ρ' s' (a.put o.dst u) w := by
  rw [hoist_qop ho] at hk
  obtain ⟨u, hu⟩ := hoist_free hE h ho hk
  obtain ⟨v, add, u', w', h1, h2, h3⟩ := qop_sound hE h o hk
  obtain ⟨ρ2, hS⟩ := h.adds h3
  rw [hu w] at h2
  cases h2
  cases h1
  exact ⟨u, ρ2, hu, hS⟩
end
end Go.Proofs.Ytfbokamlkecibaa.Lib

/- Statements whose order is open, by all their orders: the plans. No condition. -/
namespace Go.Proofs.Ytfbokamlkecibaa.Lib
open Go Go.RowKit
set_option linter.unusedVariables false
set_option linter.unusedSimpArgs false
def nopO : Oper := { dst := none, op := .move (.const (.bool true)), type := 0, pos := "", after := #[], guard := none }
def badO : Oper := { dst := none, op := .ready 0, type := 0, pos := "", after := #[], guard := none }
def opAt (ops : Array Oper) (i : Nat) : Oper := (ops[i]?).getD badO
def depsIn (ops : Array Oper) (L : Array Bool) (i : Nat) : Bool := (opAt ops i).after.toList.all fun e => !Region.binds .any e || L.getD e.on false
/-- The sets of l that are closed. -/
def clSubs (ops : Array Oper) : List Nat → Array Bool → List (List Nat)
  | [], _ => [[]]
  | i :: r, L => (bif depsIn ops L i then (clSubs ops r (L.setIfInBounds i true)).map (i :: ·) else []) ++ clSubs ops r L
def isLight (E : Env) (o : Oper) : Bool := headOk E o && !isSt o
/-- All operations that only read or make and may come before any other. -/
def grow (E : Env) (ops : Array Oper) : List Nat → Array Bool → List Nat
  | [], _ => []
  | i :: r, L => bif !L.getD i true && isLight E (opAt ops i) && depsIn ops L i then i :: grow E ops r (L.setIfInBounds i true) else grow E ops r L
def lights (E : Env) (ops : Array Oper) (L : Array Bool) : List Nat := (List.range ops.size).filter fun i => (grow E ops (List.range ops.size) L).contains i
def setAll (L : Array Bool) : List Nat → Array Bool
  | [] => L
  | i :: r => setAll (L.setIfInBounds i true) r
def readsA (ops : Array Oper) (A : List Nat) : Bool :=
  A.all fun j => A.all fun k => match (opAt ops k).dst with
    | some t => (j == k || (opAt ops j).dst != some t) && (!((opn ops.toList (opAt ops j)).any fun x => match x with | .tmp u => u == t | _ => false) || (decide (k < j) && Region.waitsFor .any ops j k) || (decide (j < k) && Region.waitsFor .any ops k j))
    | none => true
def phaseB (E : Env) (ops : Array Oper) (L : Array Bool) (A : List Nat) : Bool :=
  A.all (fun i => isLight E (opAt ops i) && !L.getD i true && depsIn ops (setAll L A) i) && readsA ops A
def branch (ops : Array Oper) (A : List Nat) (next : Array Bool → List (List Nat)) (L : Array Bool) (D : List Nat) : List (List Nat) :=
  bif (Region.ready .any ops L).isEmpty then [D] else ((Region.ready .any ops L).filter fun h => !A.contains h).flatMap fun h => bif (opAt ops h).guard.isNone then (next (L.setIfInBounds h true)).map fun π => D ++ h :: π else [D ++ [ops.size]]
def hoistAt (ops : Array Oper) (L : Array Bool) : Option Nat := (List.range ops.size).find? fun i => hoistable (opAt ops i) && (Region.ready .any ops L).contains i && Region.free .any ops L i
/-- Orders that stand for all. -/
def plans (E : Env) (ops : Array Oper) : Nat → Array Bool → List (List Nat)
  | 0, _ => [[ops.size]]
  | f + 1, L => match hoistAt ops L with
    | some i => (plans E ops f (L.setIfInBounds i true)).map (i :: ·)
    | none => bif phaseB E ops L (lights E ops L) then (clSubs ops (lights E ops L) L).flatMap fun D => branch ops (lights E ops L) (plans E ops f) (setAll L D) D else [[ops.size]]
section
variable {P : Program} {E : Env} {B : Nat} {O : Ow} {w0 w w' : World} {ρ ρ' : CEnv} {st : St} {a : Act} {R : Type} {r : R} {call : CallFn} {ops : Array Oper}
/-- One operation, with its guard. -/
def vg1 (E : Env) (call : CallFn) (G : List Oper) (o : Oper) (st : St) (k : St → Option R) : Option R :=
  match o.guard with
  | none => exec E call o st k
  | some (j, want) => (match (G[j]?).bind (·.dst) with
      | some t => (match st.sl[t]? with
        | some (.one (.bool v)) => (match v with
          | true => bif want then exec E call o (st.put (some t) (.one (.bool true))) k else k ((st.put (some t) (.one (.bool true))).put o.dst (.tup []))
          | false => bif want then k ((st.put (some t) (.one (.bool false))).put o.dst (.tup [])) else exec E call o (st.put (some t) (.one (.bool false))) k)
        | some (.tup []) => k (st.put o.dst (.tup []))
        | _ => none)
      | none => none)
theorem vguard_cons {G : List Oper} {o : Oper} {l : List Oper} {st : St} {k : St → Option R} : vguard E call G (o :: l) st k = vg1 E call G o st fun s => vguard E call G l s k := rfl
theorem vguard_append {G : List Oper} : ∀ {l m : List Oper} {st : St} {k : St → Option R}, vguard E call G (l ++ m) st k = vguard E call G l st fun s => vguard E call G m s k
  | [], _, _, _ => rfl
  | o :: l, m, st, k => by
    rw [List.cons_append, vguard_cons, vguard_cons]
    congr 1
    funext s
    exact vguard_append
def lD (ops : Array Oper) (D : List Nat) : List Oper := (List.range ops.size).map fun i => bif D.contains i then opAt ops i else nopO
theorem vguard_lD {G : List Oper} {D : List Nat} : ∀ {l : List Nat} {st : St} {k : St → Option R}, vguard E call G (l.map fun i => bif D.contains i then opAt ops i else nopO) st k = vguard E call G ((l.filter D.contains).map (opAt ops)) st k
  | [], _, _ => rfl
  | i :: l, st, k => by
    rw [List.map_cons, vguard_cons]
    cases hd : D.contains i with
    | true =>
      rw [List.filter_cons_of_pos hd, List.map_cons, vguard_cons]
      simp only [cond_true]
      congr 1
      funext s
      exact vguard_lD
    | false =>
      rw [List.filter_cons_of_neg (by rw [hd]; simp)]
      simp only [cond_false]
      exact vguard_lD (l := l)
theorem opAt_some {i : Nat} {o : Oper} (h : ops[i]? = some o) : opAt ops i = o := by unfold opAt; rw [h]; rfl
theorem opAt_lt {i : Nat} (h : i < ops.size) : ops[i]? = some (opAt ops i) := by unfold opAt; rw [Array.getElem?_eq_getElem h]; rfl
theorem opAt_bad : opAt ops ops.size = badO := by unfold opAt; simp
theorem bad_run {G : List Oper} {l : List Oper} {st : St} {k : St → Option R} (h : vguard E call G (badO :: l) st k = some r) : False := by
  rw [vguard_cons] at h
  unfold vg1 exec badO at h
  simp only [qop] at h
  cases h
theorem lD_get {D : List Nat} {i : Nat} (h : i < ops.size) : (lD ops D)[i]? = some (bif D.contains i then opAt ops i else nopO) := by
  unfold lD
  rw [List.getElem?_map, List.getElem?_range h]
  rfl
theorem lD_len {D : List Nat} : (lD ops D).length = ops.size := by unfold lD; simp
theorem filter_contains {l : List Nat} {q : Nat → Bool} (hs : l.Nodup) : ∀ i ∈ l, ((l.filter q).contains i) = q i := by
  intro i hi
  rw [Bool.eq_iff_iff]
  simp [hi]
theorem getD_set {L : Array Bool} {i j : Nat} : (L.setIfInBounds i true).getD j false = true ↔ L.getD j false = true ∨ (i = j ∧ i < L.size) := by
  by_cases hij : i = j
  · subst hij
    by_cases hl : i < L.size
    · simp [hl]
    · have : L.getD i false = false := by simp [Array.getElem?_eq_none (Nat.le_of_not_lt hl)]
      simp [hl]
  · rw [getD_set_ne false hij]
    simp [hij]
theorem setAll_size : ∀ {D : List Nat} {L : Array Bool}, (setAll L D).size = L.size
  | [], _ => rfl
  | i :: r, L => by rw [setAll, setAll_size]; simp
theorem setAll_get : ∀ {D : List Nat} {L : Array Bool} {j : Nat}, j < L.size → ((setAll L D).getD j false = true ↔ L.getD j false = true ∨ j ∈ D)
  | [], _, _, _ => by simp [setAll]
  | i :: r, L, j, hj => by
    rw [setAll, setAll_get (by simpa using hj), getD_set]
    constructor
    · rintro ((h | ⟨rfl, _⟩) | h)
      · exact .inl h
      · exact .inr (List.mem_cons_self ..)
      · exact .inr (List.mem_cons_of_mem _ h)
    · rintro (h | h)
      · exact .inl (.inl h)
      · rcases List.mem_cons.1 h with rfl | h
        · exact .inl (.inr ⟨rfl, hj⟩)
        · exact .inr h
theorem clSubs_mem {p : Nat → Bool} : ∀ {l : List Nat} {L : Array Bool}, l.Pairwise (· < ·) → (∀ i ∈ l, i < L.size) →
    (∀ i ∈ l, p i = true → ∀ e ∈ (opAt ops i).after, Region.binds .any e = true → L.getD e.on false = true ∨ (e.on ∈ l ∧ p e.on = true ∧ e.on < i)) → l.filter p ∈ clSubs ops l L
  | [], _, _, _, _ => by simp [clSubs]
  | i :: l, L, hs, hz, h => by
    have hlt : ∀ {j}, j ∈ l → i < j := fun hj => List.rel_of_pairwise_cons hs hj
    simp only [clSubs, List.mem_append]
    cases hp : p i with
    | true =>
      left
      have hd : depsIn ops L i = true := by
        unfold depsIn
        rw [List.all_eq_true]
        intro e he
        cases hb : Region.binds .any e with
        | false => rfl
        | true =>
          rcases h i (List.mem_cons_self ..) hp e (by simpa using he) hb with h1 | ⟨h1, _, h2⟩
          · simp only [Bool.not_true, Bool.false_or]; exact h1
          · rcases List.mem_cons.1 h1 with h1 | h1
            · omega
            · have := hlt h1; omega
      rw [hd, cond_true, List.filter_cons_of_pos hp]
      refine List.mem_map.2 ⟨_, clSubs_mem (List.Pairwise.of_cons hs) (fun j hj => by simpa using hz j (List.mem_cons_of_mem _ hj)) (fun j hj hpj e he hb => ?_), rfl⟩
      rcases h j (List.mem_cons_of_mem _ hj) hpj e he hb with h1 | ⟨h1, h2, h3⟩
      · exact .inl (getD_set.2 (.inl h1))
      · rcases List.mem_cons.1 h1 with h1 | h1
        · exact .inl (getD_set.2 (.inr ⟨h1.symm, hz i (List.mem_cons_self ..)⟩))
        · exact .inr ⟨h1, h2, h3⟩
    | false =>
      right
      rw [List.filter_cons_of_neg (by rw [hp]; simp)]
      refine clSubs_mem (List.Pairwise.of_cons hs) (fun j hj => hz j (List.mem_cons_of_mem _ hj)) (fun j hj hpj e he hb => ?_)
      rcases h j (List.mem_cons_of_mem _ hj) hpj e he hb with h1 | ⟨h1, h2, h3⟩
      · exact .inl h1
      · rcases List.mem_cons.1 h1 with h1 | h1
        · rw [h1, hp] at h2; cases h2
        · exact .inr ⟨h1, h2, h3⟩
theorem lights_pair (L : Array Bool) : (lights E ops L).Pairwise (· < ·) := List.Pairwise.filter _ List.pairwise_lt_range
theorem lights_lt {L : Array Bool} {i : Nat} (h : i ∈ lights E ops L) : i < ops.size := List.mem_range.1 ((List.mem_filter.1 h).1)
theorem edges_lt (hed : edgesB ops.size ops = true) {i : Nat} (hi : i < ops.size) {e : Edge} (he : e ∈ (opAt ops i).after) (hb : Region.binds .any e = true) : e.on < i := by
  unfold edgesB at hed
  have := List.all_eq_true.1 hed i (List.mem_range.2 hi)
  rw [opAt_lt hi] at this
  have := List.all_eq_true.1 this e (by simpa using he)
  simpa [hb] using this
theorem getD_lt {L : Array Bool} {i : Nat} (h : L.getD i false = true) : i < L.size := by
  rcases Nat.lt_or_ge i L.size with h1 | h1
  · exact h1
  · simp [Array.getElem?_eq_none h1] at h
theorem phase_dep {A : List Nat} {L : Array Bool} (hed : edgesB ops.size ops = true) (hL : L.size = ops.size) (hA : ∀ i ∈ A, i < ops.size) (hp : phaseB E ops L A = true) {i : Nat} (hi : i ∈ A) {e : Edge} (he : e ∈ (opAt ops i).after) (hb : Region.binds .any e = true) :
    (L.getD e.on false = true ∨ e.on ∈ A) ∧ e.on < i := by
  refine ⟨?_, edges_lt hed (hA i hi) he hb⟩
  unfold phaseB at hp
  rw [Bool.and_eq_true, List.all_eq_true] at hp
  have h1 := hp.1 i hi
  simp only [Bool.and_eq_true] at h1
  have h2 := List.all_eq_true.1 h1.2 e (by simpa using he)
  simp only [hb, Bool.not_true, Bool.false_or] at h2
  have h3 := getD_lt h2
  rw [setAll_size] at h3
  exact (setAll_get h3).1 h2
theorem lights_all {L : Array Bool} (hed : edgesB ops.size ops = true) (hL : L.size = ops.size) (hp : phaseB E ops L (lights E ops L) = true) : lights E ops L ∈ clSubs ops (lights E ops L) L := by
  have := clSubs_mem (ops := ops) (p := fun _ => true) (lights_pair L) (fun i hi => by rw [hL]; exact lights_lt hi) (L := L) (fun i hi _ e he hb => by
    obtain ⟨h1, h2⟩ := phase_dep hed hL (fun i hi => lights_lt hi) hp hi he hb
    exact h1.imp id fun h => ⟨h, rfl, h2⟩)
  rwa [List.filter_eq_self.2 (fun _ _ => rfl)] at this
theorem ready_set {L : Array Bool} {i : Nat} (h : i ∈ Region.ready .any ops L) (hL : L.size = ops.size) : L.getD i false = false ∧ i < ops.size := by
  have := (mem_ready.1 h).1
  refine ⟨getD_both this, ?_⟩
  obtain ⟨_, o, ho, _⟩ := mem_ready.1 h
  exact (Array.getElem?_eq_some_iff.1 ho).1
/-- Every way through is there. -/
theorem branch_ne {A : List Nat} {next : Array Bool → List (List Nat)} {L : Array Bool} (hn : ∀ L, L.size = ops.size → next L ≠ []) (hL : L.size = ops.size) (hA : ∀ i ∈ A, L.getD i false = true) {D : List Nat} : ∃ m, D ++ m ∈ branch ops A next L D := by
  unfold branch
  simp only [bifs]
  split
  · exact ⟨[], by simp⟩
  · rename_i hr
    cases hrs : Region.ready .any ops L with
    | nil => rw [hrs] at hr; simp at hr
    | cons h rs =>
      have hh : h ∈ Region.ready .any ops L := by rw [hrs]; exact List.mem_cons_self ..
      have hc : A.contains h = false := by
        cases hc : A.contains h with
        | false => rfl
        | true =>
          have h1 := hA h (by simpa using hc)
          rw [(ready_set hh hL).1] at h1
          cases h1
      cases hnx : next (L.setIfInBounds h true) with
      | nil => exact absurd hnx (hn _ (by simpa using hL))
      | cons π πs =>
        cases hgd : (opAt ops h).guard.isNone with
        | true => exact ⟨h :: π, List.mem_flatMap.2 ⟨h, List.mem_filter.2 ⟨List.mem_cons_self .., by simpa using hc⟩, by rw [hgd]; exact List.mem_map.2 ⟨π, by rw [hnx]; exact List.mem_cons_self .., rfl⟩⟩⟩
        | false => exact ⟨[ops.size], List.mem_flatMap.2 ⟨h, List.mem_filter.2 ⟨List.mem_cons_self .., by simpa using hc⟩, by rw [hgd]; exact List.mem_singleton.2 rfl⟩⟩
theorem plans_ne (hed : edgesB ops.size ops = true) : ∀ (f : Nat) (L : Array Bool), L.size = ops.size → plans E ops f L ≠ []
  | 0, _, _ => by simp [plans]
  | f + 1, L, hL => by
    simp only [plans]
    split
    · rename_i i hi
      have := plans_ne hed f (L.setIfInBounds i true) (by simpa using hL)
      simpa using this
    · simp only [bifs]
      split
      · rename_i hp
        obtain ⟨m, hm⟩ := branch_ne (D := lights E ops L) (A := lights E ops L) (L := setAll L (lights E ops L)) (plans_ne hed f) (by rw [setAll_size]; exact hL) (fun i hi => (setAll_get (by rw [hL]; exact lights_lt hi)).2 (.inr hi))
        exact List.ne_nil_of_mem (List.mem_flatMap.2 ⟨_, lights_all hed hL hp, hm⟩)
      · simp
/-- The lights of a plan. -/
def VD (E : Env) (call : CallFn) (ops : Array Oper) (st : St) (D : List Nat) : Prop := ∀ j, j < ops.size → ∃ o p, Val E call ops.toList (lD ops D) st j o p
theorem lD_all {D : List Nat} (hl : ∀ i ∈ D, isLight E (opAt ops i) = true) : ∀ o ∈ lD ops D, headOk E o = true ∧ isSt o = false := by
  intro o ho
  unfold lD at ho
  obtain ⟨i, hi, rfl⟩ := List.mem_map.1 ho
  cases hc : D.contains i with
  | true =>
    have := hl i (by simpa using hc)
    unfold isLight at this
    simp only [Bool.and_eq_true, Bool.not_eq_true'] at this
    exact this
  | false => exact ⟨rfl, rfl⟩
theorem lD_run {D : List Nat} {m : List Nat} {k : St → Option R} (hl : ∀ i ∈ D, isLight E (opAt ops i) = true) (hD : (List.range ops.size).filter D.contains = D) (h : vguard E call ops.toList ((D ++ m).map (opAt ops)) st k = some r) :
    VD E call ops st D ∧ vguard E call ops.toList (m.map (opAt ops)) (txt E call ops.toList (lD ops D) st ops.size) k = some r := by
  rw [List.map_append, vguard_append] at h
  have h1 : vguard E call ops.toList (lD ops D) st (fun s => vguard E call ops.toList (m.map (opAt ops)) s k) = some r := by
    unfold lD
    rw [vguard_lD, hD]
    exact h
  have hall := lD_all hl
  obtain ⟨h2, h3⟩ := head_run ops.size (by rw [lD_len]; exact Nat.le_refl _) (by
    rw [List.all_eq_true]
    intro o ho
    exact (hall o (List.mem_of_mem_take ho)).1) (fun j o hj ho hs => by
    rw [(hall o (List.mem_of_getElem? ho)).2] at hs
    cases hs) h1
  rw [List.drop_eq_nil_of_le (by rw [lD_len]; exact Nat.le_refl _)] at h2
  exact ⟨h3, h2⟩
theorem Stores.none {l : List Oper} {st : St} {n : Nat} {W : Nat → Nat → Bool} (hl : ∀ o ∈ l, isSt o = false) : Stores E call ops.toList l st n W := by
  have no : ∀ {j o p}, Val E call ops.toList l st j o p → isSt o = true → False := fun hv hs => by
    rw [hl _ (List.mem_of_getElem? hv.1)] at hs; cases hs
  exact ⟨fun j k o o' p p' i _ _ hv _ hs => (no hv hs).elim, fun j k o o' p p' i _ _ hv _ hs => (no hv hs).elim, fun j m o o' p i t v _ _ _ hv _ hs => (no hv hs).elim, fun j o p _ hv hs => (no hv hs).elim⟩
theorem lD_opn {D : List Nat} {j k t : Nat} {oj ok : Oper} (hj : j < ops.size) (hk : k < ops.size) (h1 : (lD ops D)[j]? = some oj) (h2 : (lD ops D)[k]? = some ok) (h3 : ok.dst = some t) :
    k ∈ D ∧ ok = opAt ops k ∧ (.tmp t ∈ opn ops.toList oj → j ∈ D ∧ oj = opAt ops j ∧ .tmp t ∈ opn ops.toList (opAt ops j)) := by
  rw [lD_get hj] at h1
  rw [lD_get hk] at h2
  cases h1; cases h2
  have hkd : D.contains k = true := by
    cases hc : D.contains k with
    | true => rfl
    | false => rw [hc] at h3; cases h3
  refine ⟨by simpa using hkd, by rw [hkd]; rfl, fun hm => ?_⟩
  cases hc : D.contains j with
  | true =>
    rw [hc] at hm
    exact ⟨by simpa using hc, rfl, hm⟩
  | false =>
    rw [hc] at hm
    simp [opn, tst, nopO, Op.operands] at hm
theorem phase_head {A : List Nat} {L : Array Bool} (hp : phaseB E ops L A = true) {D : List Nat} (hD : ∀ i ∈ D, i ∈ A) : HeadW E ops.toList (lD ops D) ops.size (fun a b => D.contains a && Region.waitsFor .any ops a b) := by
  unfold phaseB at hp
  rw [Bool.and_eq_true, List.all_eq_true] at hp
  have hl : ∀ i ∈ D, isLight E (opAt ops i) = true := fun i hi => by
    have := hp.1 i (hD i hi)
    simp only [Bool.and_eq_true] at this
    exact this.1.1
  have hr := hp.2
  unfold readsA at hr
  refine ⟨?_, fun j k oj ok t hj hk h1 h2 h3 h4 => ?_, fun j k oj ok t hj hk h1 h2 h3 h4 => ?_⟩
  · rw [List.all_eq_true]
    intro o ho
    exact (lD_all hl o (List.mem_of_mem_take ho)).1
  · obtain ⟨hkD, rfl, _⟩ := lD_opn hj hk h1 h2 h4
    obtain ⟨hjD, rfl, _⟩ := lD_opn hj hj h1 h1 h3
    have := List.all_eq_true.1 (List.all_eq_true.1 hr j (hD j hjD)) k (hD k hkD)
    simp only [h4, h3, Bool.and_eq_true, Bool.or_eq_true, beq_iff_eq, bne_iff_ne, ne_eq, not_true_eq_false, or_false] at this
    exact this.1
  · obtain ⟨hkD, rfl, h5⟩ := lD_opn hj hk h1 h2 h3
    obtain ⟨hjD, rfl, h6⟩ := h5 h4
    have := List.all_eq_true.1 (List.all_eq_true.1 hr j (hD j hjD)) k (hD k hkD)
    simp only [h3, Bool.and_eq_true, Bool.or_eq_true, decide_eq_true_eq, Bool.not_eq_true'] at this
    have cj : D.contains j = true := by simpa using hjD
    have ck : D.contains k = true := by simpa using hkD
    rcases this.2 with (h | h) | h
    · rw [List.any_eq_false] at h
      exact absurd (h _ h6) (by simp)
    · exact .inl ⟨h.1, by rw [cj, h.2]; rfl⟩
    · exact .inr ⟨h.1, by rw [ck, h.2]; rfl⟩
theorem Part.nops {D : List Nat} {st : St} {Lp : Nat → Prop} (h : ∀ j, j < ops.size → Lp j → j ∉ D) : Part E call ops.toList (lD ops D) st ops.size Lp st := by
  have nop : ∀ {j o p}, j < ops.size → Lp j → Val E call ops.toList (lD ops D) st j o p → o = nopO ∧ p.2 = [] := by
    intro j o p hj hl hv
    have hc : D.contains j = false := by
      cases hc : D.contains j with
      | true => exact absurd (by simpa using hc) (h j hj hl)
      | false => rfl
    have h1 := hv.1
    rw [lD_get hj, hc] at h1
    cases h1
    refine ⟨rfl, ?_⟩
    have h2 := hv.2.2.1
    simp only [cond_false, gop, sop, hop, nopO, qop] at h2
    cases h2
    rfl
  refine ⟨rfl, fun j o p t hj hl hv hd => ?_, fun t _ => rfl, fun i b => ⟨fun hb => .inr ⟨?_, .inl hb⟩, ?_⟩⟩
  · rw [(nop hj hl hv).1] at hd; cases hd
  · rintro b' ⟨j, o, p, hj, hl, hv, hs, _⟩
    rw [(nop hj hl hv).1] at hs; cases hs
  · rintro (⟨j, o, p, hj, hl, hv, hs, _⟩ | ⟨_, hb | ⟨j, o, p, hj, hl, hv, hs, hg⟩⟩)
    · rw [(nop hj hl hv).1] at hs; cases hs
    · exact hb
    · rw [(nop hj hl hv).2] at hg; cases hg
theorem wanted_un {o : Oper} {f : Nat → Option Bool} (h : o.guard = none) : Region.wanted o f = true := by simp [Region.wanted, h]
/-- Done by the plans, done by all orders. -/
theorem plans_sound (hE : Env.Ok P E) (hC : CallOk P call) (hed : edgesB ops.size ops = true) (hns : Region.noSelect ops = true) {k : St → Option R} {Q : Exit → Act → World → Prop}
    (hnext : ∀ ρ' st' a' w', k st' = some r → Sim B O w0 ρ' st' a' w' → Q .normal a' w') (hQ : ∀ c a w, ¬ Q (.panic c) a w) :
    ∀ (f : Nat) (L : Array Bool) (st : St) (ρ : CEnv) (a : Act) (w : World) (fuel : Nat), HeadInv .any ops ops.size L → cnt L ops.size = fuel → Sim B O w0 ρ st a w →
      (∀ π ∈ plans E ops f L, vguard E call ops.toList (π.map (opAt ops)) st k = some r) → wpAny P .any ops Q fuel L a w := by
  intro f
  induction f with
  | zero =>
    intro L st ρ a w fuel inv hc hS h
    have := h [ops.size] (by simp [plans])
    rw [List.map_cons, opAt_bad] at this
    exact (bad_run this).elim
  | succ f ih =>
    intro L st ρ a w fuel inv hc hS h
    have hrun : ∀ {i : Nat} {s : St} {a : Act} {w : World} {ρ : CEnv} {n : Nat} {L : Array Bool}, HeadInv .any ops ops.size L → cnt L ops.size = n + 1 → i ∈ Region.ready .any ops L → cnt (L.setIfInBounds i true) ops.size = n := by
      intro i s a w ρ n L inv hc hi
      obtain ⟨h1, h2⟩ := ready_set hi inv.size
      have := cnt_set (listed := L) (i := i) (by rw [inv.size]; exact h2) h1 ops.size
      rw [if_pos h2] at this
      omega
    have hpos : ∀ {i : Nat} {L : Array Bool} {n : Nat}, HeadInv .any ops ops.size L → cnt L ops.size = n → i ∈ Region.ready .any ops L → ∃ m, n = m + 1 := by
      intro i L n inv hc hi
      obtain ⟨h1, h2⟩ := ready_set hi inv.size
      have := cnt_set (listed := L) (i := i) (by rw [inv.size]; exact h2) h1 ops.size
      rw [if_pos h2] at this
      exact ⟨n - 1, by omega⟩
    simp only [plans] at h
    split at h
    · rename_i i hi
      have hp := List.find?_some hi
      simp only [Bool.and_eq_true] at hp
      obtain ⟨⟨h1, h2⟩, h3⟩ := hp
      have hr : i ∈ Region.ready .any ops L := by simpa using h2
      obtain ⟨hu, hin⟩ := ready_set hr inv.size
      obtain ⟨m, rfl⟩ := hpos inv hc hr
      have hall : ∀ π ∈ plans E ops f (L.setIfInBounds i true), ∃ s', exec E call (opAt ops i) st some = some s' ∧ vguard E call ops.toList (π.map (opAt ops)) s' k = some r := by
        intro π hπ
        have := h (i :: π) (List.mem_map.2 ⟨π, hπ, rfl⟩)
        rw [List.map_cons, vguard_cons] at this
        have hgn : (opAt ops i).guard = none := by unfold hoistable at h1; rw [Bool.and_eq_true] at h1; exact Option.isNone_iff_eq_none.1 h1.1
        unfold vg1 at this
        simp only [hgn] at this
        exact exec_par this
      cases hpl : plans E ops f (L.setIfInBounds i true) with
      | nil => exact absurd hpl (plans_ne hed f _ (by simpa using inv.size))
      | cons π0 πs =>
        obtain ⟨s', hs, _⟩ := hall π0 (by rw [hpl]; exact List.mem_cons_self ..)
        obtain ⟨u, ρ', hy, hS'⟩ := hoist_step hE hS h1 hs
        refine wpAny_take (opAt_lt hin) hns h3 h2 (fun c a w hq => (hQ _ _ _ hq).elim) (.inl ⟨wanted_un (by unfold hoistable at h1; rw [Bool.and_eq_true] at h1; exact Option.isNone_iff_eq_none.1 h1.1), hy⟩) ?_
        refine ih _ s' ρ' _ w m (inv.set hr hin) (hrun (s := st) (a := a) (w := w) (ρ := ρ) inv hc hr) hS' fun π hπ => ?_
        obtain ⟨s2, h4, h5⟩ := hall π hπ
        rw [hs] at h4
        cases h4
        exact h5
    · simp only [bifs] at h
      split at h
      case isFalse =>
        have := h [ops.size] (by simp)
        rw [List.map_cons, opAt_bad] at this
        exact (bad_run this).elim
      rename_i hp
      generalize hAe : lights E ops L = A at h hp
      have hAlt : ∀ i ∈ A, i < ops.size := fun i hi => by rw [← hAe] at hi; exact lights_lt hi
      have hpair : A.Pairwise (· < ·) := by rw [← hAe]; exact lights_pair L
      have hnd : A.Nodup := hpair.imp (fun h => Nat.ne_of_lt h)
      have hAr : ∀ q : Nat → Bool, (List.range ops.size).filter (A.filter q).contains = A.filter q := by
        intro q
        rw [← hAe]
        unfold lights
        rw [List.filter_filter]
        apply List.filter_congr
        intro i hi
        rw [Bool.eq_iff_iff]
        simp only [List.contains_iff_mem, List.mem_filter, Bool.and_eq_true, hi, true_and]
      have hph := hp
      unfold phaseB at hph
      rw [Bool.and_eq_true, List.all_eq_true] at hph
      have hlt : ∀ i ∈ A, isLight E (opAt ops i) = true ∧ L.getD i false = false := fun i hi => by
        have := hph.1 i hi
        simp only [Bool.and_eq_true, Bool.not_eq_true'] at this
        exact ⟨this.1.1, getD_both this.1.2⟩
      have hlq : ∀ q : Nat → Bool, ∀ i ∈ A.filter q, isLight E (opAt ops i) = true := fun q i hi => (hlt i (List.mem_filter.1 hi).1).1
      have hHW : ∀ q : Nat → Bool, HeadW E ops.toList (lD ops (A.filter q)) ops.size (fun a b => (A.filter q).contains a && Region.waitsFor .any ops a b) := fun q => phase_head hp fun i hi => (List.mem_filter.1 hi).1
      have hSO : ∀ (q : Nat → Bool) W, Stores E call ops.toList (lD ops (A.filter q)) st ops.size W := fun q W => Stores.none fun o ho => (lD_all (hlq q) o ho).2
      -- what is done when a heavy one comes up, or nothing
      have final : ∀ (listed : Array Bool) (a : Act) (w : World) (ρ : CEnv) (s : St), HeadInv .any ops ops.size listed → (∀ i, L.getD i false = true → listed.getD i false = true) → (∀ i, listed.getD i false = true → L.getD i false = true ∨ i ∈ A) → Sim B O w0 ρ s a w →
          (∀ q : Nat → Bool, A.filter q ∈ clSubs ops A L → (∀ i ∈ A, listed.getD i false = true → q i = true) → VD E call ops st (A.filter q) → Part E call ops.toList (lD ops (A.filter q)) st ops.size (fun i => listed.getD i false = true ∨ ¬ (i ∈ A ∧ q i = true)) s) →
          ∀ m, (∃ m', A.filter (fun i => listed.getD i false) ++ m' ∈ branch ops A (plans E ops f) listed (A.filter (fun i => listed.getD i false)) ∧ m' = m) →
            ∃ s', Sim B O w0 ρ s' a w ∧ s' = txt E call ops.toList (lD ops (A.filter fun i => listed.getD i false)) st ops.size ∧ vguard E call ops.toList (m.map (opAt ops)) s' k = some r := by
        intro listed a w ρ s inv' hL1 hL2 hS' hpart m hm
        obtain ⟨m', hm, rfl⟩ := hm
        have hsub : A.filter (fun i => listed.getD i false) ∈ clSubs ops A L := by
          refine clSubs_mem hpair (fun i hi => by rw [inv.size]; exact hAlt i hi) fun i hi hpi e he hb => ?_
          obtain ⟨h1, h2⟩ := phase_dep hed inv.size hAlt hp hi he hb
          rcases h1 with h1 | h1
          · exact .inl h1
          · exact .inr ⟨h1, inv'.closed i _ (opAt_lt (hAlt i hi)) hpi e he hb, h2⟩
        have hset : setAll L (A.filter fun i => listed.getD i false) = listed := by
          apply Array.ext
          · rw [setAll_size, inv.size, inv'.size]
          · intro i h1 h2
            have h3 : i < L.size := by rw [setAll_size] at h1; exact h1
            have := setAll_get (D := A.filter fun i => listed.getD i false) h3
            have h4 : (setAll L (A.filter fun i => listed.getD i false)).getD i false = listed.getD i false := by
              rw [Bool.eq_iff_iff, this]
              constructor
              · rintro (h | h)
                · exact hL1 i h
                · exact (List.mem_filter.1 h).2
              · intro h
                rcases hL2 i h with h5 | h5
                · exact .inl h5
                · exact .inr (List.mem_filter.2 ⟨h5, h⟩)
            have e1 : (setAll L (A.filter fun i => listed.getD i false)).getD i false = (setAll L (A.filter fun i => listed.getD i false))[i] := by rw [Array.getD, dif_pos h1]; rfl
            have e2 : listed.getD i false = listed[i] := by rw [Array.getD, dif_pos h2]; rfl
            rw [← e1, ← e2]
            exact h4
        have hr := h _ (List.mem_flatMap.2 ⟨_, hsub, by rw [hset]; exact hm⟩)
        obtain ⟨hVD, hrun'⟩ := lD_run (hlq _) (hAr _) hr
        have hpt := hpart _ hsub (fun i _ h => h) hVD
        obtain ⟨h1, h2⟩ := Part.same hVD hpt (txt_part (hHW _) (hSO _ _) hVD ops.size (Nat.le_refl _)) (fun j hj => by
          by_cases hjl : listed.getD j false = true
          · exact .inl hjl
          · exact .inr fun h => hjl h.2) (fun j hj => hj)
        exact ⟨_, hS'.same h1 h2, rfl, hrun'⟩
      have main : ∀ (fuel : Nat) (listed : Array Bool) (a : Act) (w : World) (ρ : CEnv) (s : St), HeadInv .any ops ops.size listed → cnt listed ops.size = fuel → (∀ i, L.getD i false = true → listed.getD i false = true) → (∀ i, listed.getD i false = true → L.getD i false = true ∨ i ∈ A) → Sim B O w0 ρ s a w →
          (∀ q : Nat → Bool, A.filter q ∈ clSubs ops A L → (∀ i ∈ A, listed.getD i false = true → q i = true) → VD E call ops st (A.filter q) → Part E call ops.toList (lD ops (A.filter q)) st ops.size (fun i => listed.getD i false = true ∨ ¬ (i ∈ A ∧ q i = true)) s) →
          wpAny P .any ops Q fuel listed a w := by
        intro fuel
        have done : ∀ (listed : Array Bool) (a : Act) (w : World) (ρ : CEnv) (s : St), HeadInv .any ops ops.size listed → (∀ i, L.getD i false = true → listed.getD i false = true) → (∀ i, listed.getD i false = true → L.getD i false = true ∨ i ∈ A) → Sim B O w0 ρ s a w →
            (∀ q : Nat → Bool, A.filter q ∈ clSubs ops A L → (∀ i ∈ A, listed.getD i false = true → q i = true) → VD E call ops st (A.filter q) → Part E call ops.toList (lD ops (A.filter q)) st ops.size (fun i => listed.getD i false = true ∨ ¬ (i ∈ A ∧ q i = true)) s) →
            Region.ready .any ops listed = [] → Q .normal a w := by
          intro listed a w ρ s inv' hL1 hL2 hS' hpart hre
          obtain ⟨s', h1, h2, h3⟩ := final listed a w ρ s inv' hL1 hL2 hS' hpart [] ⟨[], by unfold branch; rw [hre]; simp, rfl⟩
          exact hnext ρ s' a w h3 h1
        induction fuel with
        | zero =>
          intro listed a w ρ s inv' hc' hL1 hL2 hS' hpart
          have hre : Region.ready .any ops listed = [] := by
            cases hrs : Region.ready .any ops listed with
            | nil => rfl
            | cons i rs =>
              have hi : i ∈ Region.ready .any ops listed := by rw [hrs]; exact List.mem_cons_self ..
              obtain ⟨h1, h2⟩ := ready_set hi inv'.size
              rw [cnt_zero hc' i h2] at h1
              cases h1
          exact ⟨hre, done listed a w ρ s inv' hL1 hL2 hS' hpart hre⟩
        | succ fuel ihf =>
          intro listed a w ρ s inv' hc' hL1 hL2 hS' hpart
          refine ⟨done listed a w ρ s inv' hL1 hL2 hS' hpart, fun i hi => ?_⟩
          obtain ⟨hu, hin⟩ := ready_set hi inv'.size
          obtain ⟨hu', oi, hoi, haft⟩ := mem_ready.1 hi
          have : oi = opAt ops i := (opAt_some hoi).symm
          subst this
          by_cases hiA : i ∈ A
          · have step : ∀ q : Nat → Bool, A.filter q ∈ clSubs ops A L → (∀ x ∈ A, listed.getD x false = true → q x = true) → VD E call ops st (A.filter q) → q i = true →
                ∃ p, Val E call ops.toList (lD ops (A.filter q)) st i (opAt ops i) p ∧ gop E call ops.toList s.sg (evalO s.sl) (opAt ops i) = some p ∧ (∀ x ∈ p.2, s.sg.get x.1 = none) := by
              intro q hq hdn hVD hqi
              have hpq := hpart q hq hdn hVD
              obtain ⟨o, p, hv⟩ := hVD i hin
              have hci : (A.filter q).contains i = true := by
                rw [List.contains_iff_mem]
                exact List.mem_filter.2 ⟨hiA, hqi⟩
              have ho := hv.1
              rw [lD_get hin, hci] at ho
              cases ho
              simp only [cond_true] at hv
              have hli := hlq q i (List.mem_filter.2 ⟨hiA, hqi⟩)
              unfold isLight at hli
              simp only [Bool.and_eq_true, Bool.not_eq_true'] at hli
              obtain ⟨g1, g2, _⟩ := part_hop (hHW q) (hSO q _) hVD hpq hin hv (by rw [hu]; simp [hiA, hqi]) (fun x y hx hy hxl hxy => by
                rw [Bool.and_eq_true] at hxy
                obtain ⟨oj, hoj, e, he, hbd, hon⟩ := Region.waitsFor_spec hxy.2
                rcases hxl with hxl | hxl
                · rw [← hon]
                  exact .inl (inv'.closed x oj hoj hxl e he hbd)
                · exact absurd (List.mem_filter.1 (by simpa using hxy.1)) hxl) (fun y hy hxy => by
                rw [Bool.and_eq_true] at hxy
                obtain ⟨oj, hoj, e, he, hbd, hon⟩ := Region.waitsFor_spec hxy.2
                have : oj = opAt ops i := Option.some.inj (hoj.symm.trans hoi)
                subst this
                rw [← hon]
                exact .inl (haft e he hbd)) hS'.dom
              exact ⟨p, hv, g1, g2 hli.2⟩
            have hsubA : A.filter (fun _ => true) ∈ clSubs ops A L := by
              refine clSubs_mem hpair (fun i hi => by rw [inv.size]; exact hAlt i hi) fun i hi _ e he hb => ?_
              obtain ⟨h1, h2⟩ := phase_dep hed inv.size hAlt hp hi he hb
              exact h1.imp id fun h => ⟨h, rfl, h2⟩
            have hVDA : VD E call ops st (A.filter fun _ => true) := by
              obtain ⟨m, hm⟩ := branch_ne (D := A.filter fun _ => true) (A := A) (L := setAll L (A.filter fun _ => true)) (plans_ne (E := E) hed f) (by rw [setAll_size]; exact inv.size) (fun i hi => (setAll_get (by rw [inv.size]; exact hAlt i hi)).2 (.inr (List.mem_filter.2 ⟨hi, rfl⟩)))
              exact (lD_run (hlq _) (hAr _) (h _ (List.mem_flatMap.2 ⟨_, hsubA, hm⟩))).1
            obtain ⟨p, hv, hgo, hfr⟩ := step _ hsubA (fun _ _ _ => rfl) hVDA rfl
            have hli := (hlt i hiA).1
            unfold isLight at hli
            simp only [Bool.and_eq_true, Bool.not_eq_true'] at hli
            have next : ∀ ρ' a' w', Sim B O w0 ρ' (aft (opAt ops i) p s) a' w' → wpAny P .any ops Q fuel (listed.setIfInBounds i true) a' w' := by
              intro ρ' a' w' h'
              refine ihf _ a' w' ρ' _ (inv'.set hi hin) (hrun (s := st) (a := a) (w := w) (ρ := ρ) inv' hc' hi) (fun x hx => getD_set.2 (.inl (hL1 x hx))) (fun x hx => ?_) h' fun q hq hdn hVD => ?_
              · rcases getD_set.1 hx with hx | ⟨rfl, _⟩
                · exact hL2 x hx
                · exact .inr hiA
              · have hqi : q i = true := hdn i hiA (getD_set.2 (.inr ⟨rfl, by rw [inv'.size]; exact hin⟩))
                have hdn' : ∀ x ∈ A, listed.getD x false = true → q x = true := fun x hx hxl => hdn x hx (getD_set.2 (.inl hxl))
                obtain ⟨p', hv', hgo', _⟩ := step q hq hdn' hVD hqi
                rw [hgo] at hgo'
                cases hgo'
                refine (hpart q hq hdn' hVD).step (hSO q (fun _ _ => true)) hin (by rw [hu]; simp [hiA, hqi]) hv' (fun x => ?_) (fun x o' t hx h1 h2 h3 => (hHW q).uniq x i o' _ t hx hin h1 hv'.1 h2 h3) (fun _ => hfr) (fun _ x o' p' y hx _ hvx hso _ => ?_)
                · rw [getD_set]
                  constructor
                  · rintro ((h | ⟨h, _⟩) | h)
                    · exact .inl (.inl h)
                    · exact .inr h.symm
                    · exact .inl (.inr h)
                  · rintro ((h | h) | h)
                    · exact .inl (.inl h)
                    · exact .inr h
                    · exact .inl (.inr ⟨h.symm, by rw [inv'.size]; exact hin⟩)
                · rw [(lD_all (hlq q) o' (List.mem_of_getElem? hvx.1)).2] at hso
                  cases hso
            unfold wpOp
            simp only [hoi]
            rcases wanted_gop hS' hli.1 hgo with ⟨hw, hh⟩ | ⟨hw, hnst, rfl⟩
            · rw [if_pos hw]
              have hex : exec E call (opAt ops i) s some = some (aft (opAt ops i) p s) := by
                rw [sop_ns hli.2] at hh
                rw [hop_exec (R := St) hli.1 hh some, aft_ns hli.2]
              refine .inl (exec_sound hE hC hS' (opAt ops i) hex fun ρ' st' a' w' heq h' => ?_)
              cases heq
              exact next ρ' a' w' h'
            · rw [if_neg (by rw [hw]; simp)]
              refine next ρ _ w ?_
              rw [aft_ns hnst]
              exact hS'.put (opAt ops i).dst (v := .tup []) (u := undef) ⟨[], rfl, .nil⟩ (fun d hd => by cases hd)
          · obtain ⟨π0, πs, hpl⟩ : ∃ π0 πs, plans E ops f (listed.setIfInBounds i true) = π0 :: πs := by
              cases hpl : plans E ops f (listed.setIfInBounds i true) with
              | nil => exact absurd hpl (plans_ne hed f _ (by simpa using inv'.size))
              | cons π0 πs => exact ⟨_, _, rfl⟩
            have hgd : (opAt ops i).guard.isNone = true := by
              cases hgd : (opAt ops i).guard.isNone with
              | true => rfl
              | false =>
                exfalso
                obtain ⟨s', _, _, h3⟩ := final listed a w ρ s inv' hL1 hL2 hS' hpart [ops.size] ⟨_, by
                  unfold branch
                  have hne : (Region.ready .any ops listed).isEmpty = false := by
                    cases hrs : Region.ready .any ops listed with
                    | nil => rw [hrs] at hi; cases hi
                    | cons x xs => rfl
                  rw [hne]
                  exact List.mem_flatMap.2 ⟨i, List.mem_filter.2 ⟨hi, by simpa using hiA⟩, by rw [hgd]; exact List.mem_singleton.2 rfl⟩, rfl⟩
                rw [List.map_cons, opAt_bad] at h3
                exact bad_run h3
            have hgn : (opAt ops i).guard = none := Option.isNone_iff_eq_none.1 hgd
            have hw : ∀ f, Region.wanted (opAt ops i) f = true := fun f => wanted_un hgn
            have hbr : ∀ π ∈ plans E ops f (listed.setIfInBounds i true), A.filter (fun i => listed.getD i false) ++ (i :: π) ∈ branch ops A (plans E ops f) listed (A.filter (fun i => listed.getD i false)) := by
              intro π hπ
              unfold branch
              have hne : (Region.ready .any ops listed).isEmpty = false := by
                cases hrs : Region.ready .any ops listed with
                | nil => rw [hrs] at hi; cases hi
                | cons x xs => rfl
              rw [hne]
              exact List.mem_flatMap.2 ⟨i, List.mem_filter.2 ⟨hi, by simpa using hiA⟩, by rw [hgd]; exact List.mem_map.2 ⟨π, hπ, rfl⟩⟩
            have hall : ∀ π ∈ plans E ops f (listed.setIfInBounds i true), ∃ s', exec E call (opAt ops i) (txt E call ops.toList (lD ops (A.filter fun i => listed.getD i false)) st ops.size) some = some s' ∧ vguard E call ops.toList (π.map (opAt ops)) s' k = some r := by
              intro π hπ
              obtain ⟨s', h1, h2, h3⟩ := final listed a w ρ s inv' hL1 hL2 hS' hpart (i :: π) ⟨_, hbr π hπ, rfl⟩
              subst h2
              rw [List.map_cons, vguard_cons] at h3
              unfold vg1 at h3
              simp only [hgn] at h3
              exact exec_par h3
            obtain ⟨s0, hS0, rfl, _⟩ := final listed a w ρ s inv' hL1 hL2 hS' hpart (i :: π0) ⟨_, hbr π0 (by rw [hpl]; exact List.mem_cons_self ..), rfl⟩
            obtain ⟨s1, hs1, _⟩ := hall π0 (by rw [hpl]; exact List.mem_cons_self ..)
            unfold wpOp
            simp only [hoi, hw, if_true]
            refine .inl (exec_sound hE hC hS0 (opAt ops i) hs1 fun ρ' st' a' w' heq h' => ?_)
            cases heq
            refine ih _ s1 ρ' a' w' fuel (inv'.set hi hin) (hrun (s := st) (a := a) (w := w) (ρ := ρ) inv' hc' hi) h' fun π hπ => ?_
            obtain ⟨s2, h4, h5⟩ := hall π hπ
            rw [hs1] at h4
            cases h4
            exact h5
      refine main fuel L a w ρ st inv hc (fun _ h => h) (fun _ h => .inl h) hS fun q hq _ hVD => ?_
      refine Part.nops fun j hj hl hm => ?_
      obtain ⟨h1, h2⟩ := List.mem_filter.1 hm
      rcases hl with hl | hl
      · rw [(hlt j h1).2] at hl; cases hl
      · exact hl ⟨h1, h2⟩
/-- What is asked of the statement. -/
def planB (ops : Array Oper) : Bool := edgesB ops.size ops && Region.noSelect ops
/-- Who has gone all plans has gone the statement. -/
theorem region_plans (hE : Env.Ok P E) (hC : CallOk P call) (hm : P.follows .mixedOrders = true) {id : Nat} {k : St → Option R} {Q : Exit → Act → World → Prop} (hb : planB ops = true) (hS : Sim B O w0 ρ st a w)
    (h : ∀ π ∈ plans E ops (ops.size + 1) (Array.replicate ops.size false), vguard E call ops.toList (π.map (opAt ops)) st k = some r)
    (hnext : ∀ ρ' st' a' w', k st' = some r → Sim B O w0 ρ' st' a' w' → Q .normal a' w') : (Code.region id ops true).wp P Q a w := by
  unfold planB at hb
  simp only [Bool.and_eq_true] at hb
  refine wp_mono (Q := fun e a w => e = .normal ∧ Q .normal a w) (wp_region_any hm ?_) fun e a w hq => by obtain ⟨rfl, hq⟩ := hq; exact hq
  exact plans_sound hE hC hb.1 hb.2 (fun ρ' st' a' w' h1 h2 => ⟨rfl, hnext ρ' st' a' w' h1 h2⟩) (fun c a w hq => by cases hq.1) _ _ st ρ a _ _
    ⟨by simp, fun j oj _ hl => (by rw [getD_replicate_false] at hl; cases hl), fun t _ ht => getD_in (by simpa using ht) (getD_replicate_false _ _)⟩ (cnt_none _ _)
    (hS.below ⟨rfl, rfl, rfl, Nat.le_refl _, fun _ _ => rfl⟩) h
end
end Go.Proofs.Ytfbokamlkecibaa.Lib

/- An argument that reads as data is what the interpreter takes for it. No condition. -/
namespace Go.Proofs.Ytfbokamlkecibaa.Lib
open Go Go.RowKit Go.WideShapes
set_option linter.unusedVariables false
set_option linter.unusedSimpArgs false
/-- What there is. -/
abbrev here (w : World) : Nat → Prop := fun g => g < w.heap.size
/-- In range, all through. -/
def Ty.ok : (t : Ty) → t.T → Prop
  | .int k, n => (Lit.int k n).wf = true
  | .bool, _ => True
  | .str, s => s.size ≤ 9223372036854775807
  | .sl _ t, l => (∀ x, x ∈ l → t.ok x) ∧ l.length ≤ 9223372036854775807
  | .pair a b, p => a.ok p.1 ∧ b.ok p.2
  | .nul _, _ => True
/-- Whatever reads as data of type t is what the kind says. -/
def Opens (P : Program) (t : TypeId) (d : Ty) : Prop :=
  ∀ (H : Type) (enc : TypeId × Value → H) (w : World) (base : Nat) (spare : Nat → Bool) (held : Bool) (fuel : Nat) (cs : List Value) (x : DataW H × List MemPlace),
    DataW.trod enc P w base spare held fuel t cs = some x → ∃ y : d.T, Rp (here w) w d y cs ∧ d.ok y
theorem opens_int {P : Program} {t : TypeId} {k : IntKind} (ht : P.underlying t = some (.int k)) : Opens P t (.int k) := by
  intro H enc w base spare held fuel cs x h
  obtain ⟨n, rfl, _, hw⟩ := DataW.trod_int ht h
  exact ⟨n, by simp only [Rp], hw⟩
theorem opens_bool {P : Program} {t : TypeId} (ht : P.underlying t = some .bool) : Opens P t .bool := by
  intro H enc w base spare held fuel cs x h
  obtain ⟨b, rfl, _⟩ := DataW.trod_bool ht h
  exact ⟨b, by simp only [Rp], trivial⟩
theorem opens_string {P : Program} {t : TypeId} (ht : P.underlying t = some .string) : Opens P t .str := by
  intro H enc w base spare held fuel cs x h
  obtain ⟨s, rfl, _, hs⟩ := DataW.trod_string ht h
  exact ⟨s, by simp only [Rp], hs⟩
theorem collect {α : Type} {Q : Nat → α → Prop} : ∀ n : Nat, (∀ i, i < n → ∃ y, Q i y) → ∃ ys : List α, ys.length = n ∧ ∀ (i : Nat) (y : α), ys[i]? = some y → Q i y
  | 0, _ => ⟨[], rfl, fun i y h => by simp at h⟩
  | n + 1, h => by
    obtain ⟨ys, hl, hys⟩ := collect n (fun i hi => h i (by omega))
    obtain ⟨y, hy⟩ := h n (by omega)
    refine ⟨ys ++ [y], by simp [hl], fun i z hz => ?_⟩
    by_cases hi : i < ys.length
    · rw [List.getElem?_append_left hi] at hz
      exact hys i z hz
    · rw [List.getElem?_append_right (by omega)] at hz
      have : i - ys.length = 0 := by
        rcases Nat.eq_zero_or_pos (i - ys.length) with e | e
        · exact e
        · rw [List.getElem?_eq_none (by simp; omega)] at hz
          exact absurd hz (by simp)
      rw [this] at hz
      simp at hz
      subst hz
      rw [show i = n by omega]
      exact hy
theorem cells_get {w : World} {base : Nat} {a : Addr} {n : Nat} {c : List Value} (h : w.cells? base a n = some c) : c.length = n ∧ ∀ (i : Nat) (u : Value), c[i]? = some u → w.cell? (a.add i) = some u := by
  unfold World.cells? at h
  split at h
  · have hl := mapM_some_length h
    rw [List.length_range] at hl
    refine ⟨hl, fun i u hi => ?_⟩
    have hlt : i < n := by
      have := (List.getElem?_eq_some_iff.1 hi).1
      omega
    have := mapM_some_get h i i (by rw [List.getElem?_range hlt])
    rw [this, hi]
  · exact absurd h (by simp)
theorem cell_here {w : World} {a : Addr} {u : Value} (h : w.cell? a = some u) : a.block < w.heap.size := by
  unfold World.cell? at h
  rcases Nat.lt_or_ge a.block w.heap.size with h' | h'
  · exact h'
  · rw [Array.getElem?_eq_none h'] at h
    cases h
theorem opens_slice {P : Program} {t e : TypeId} {d : Ty} (ht : P.underlying t = some (.slice e)) (hsz : P.cellsOf e = d.sz) (he : Opens P e d) : Opens P t (.sl e d) := by
  intro H enc w base spare held fuel cs x h
  rcases DataW.trod_slice ht h with ⟨rfl, _⟩ | ⟨a, len, cap, elems, rest, n, _, rfl, _, _, hl, hm, hlen, hel, _, _⟩
  · refine ⟨[], ?_, fun x hx => by simp at hx, by simp⟩
    simp only [Rp]
    exact ⟨none, 0, rfl, Nat.le_refl _, Nat.zero_le _, fun h => absurd h (by simp)⟩
  · obtain ⟨ys, hyl, hys⟩ := collect (α := d.T) (Q := fun i y => d.ok y ∧ ∃ c, c.length = d.sz ∧ Rp (here w) w d y c ∧ ∀ (q : Nat) (u : Value), c[q]? = some u → w.cell? (a.add (i * d.sz + q)) = some u) len (fun i hi => by
      have h1 := hel i hi
      rw [List.getElem?_eq_getElem (by omega), Option.bind_eq_some_iff] at h1
      obtain ⟨c, hc, hx⟩ := h1
      obtain ⟨y, hy, hok⟩ := he H enc w base spare held n c _ hx
      obtain ⟨_, hcg⟩ := cells_get hc
      refine ⟨y, hok, c, hy.len, hy, fun q u hq => ?_⟩
      have := hcg q u hq
      rwa [addr_add_add, hsz] at this)
    have hmax : len ≤ 9223372036854775807 := Nat.le_trans hl hm
    refine ⟨ys, ?_, fun y hy => ?_, by omega⟩
    · simp only [Rp]
      refine ⟨some a, cap, by rw [hyl], by omega, hm, fun hpos => ⟨a, rfl, ?_, fun j p hj => (hys j p hj).2⟩⟩
      obtain ⟨_, c, hc, _, hq⟩ := hys 0 ys[0] (List.getElem?_eq_getElem hpos)
      have h0 := hq 0 _ (List.getElem?_eq_getElem (by rw [hc]; exact d.sz_pos))
      have := cell_here h0
      rwa [add_block] at this
    · obtain ⟨i, hi⟩ := List.getElem?_of_mem hy
      exact (hys i y hi).1
/-- The types in line, each over its own cells. -/
def Walk (P : Program) (T : TypeId → List Value → Prop) : List TypeId → List Value → Prop
  | [], cs => cs = []
  | t :: ts, cs => T t (cs.take (P.cellsOf t)) ∧ Walk P T ts (cs.drop (P.cellsOf t))
def offsOk (P : Program) (total : Nat) : Nat → List Field → Bool
  | o, [] => o == total
  | o, f :: fs => f.offset == o && offsOk P total (o + P.cellsOf f.type) fs
theorem walk_of {P : Program} {T : TypeId → List Value → Prop} {cs : List Value} : ∀ (fs : List Field) (o : Nat), offsOk P cs.length o fs = true →
    (∀ f, f ∈ fs → T f.type ((cs.drop f.offset).take (P.cellsOf f.type))) → Walk P T (fs.map (·.type)) (cs.drop o)
  | [], o, ho, _ => by
    have : o = cs.length := by simpa [offsOk] using ho
    subst this
    simp [Walk]
  | f :: fs, o, ho, h => by
    simp only [offsOk, Bool.and_eq_true, beq_iff_eq] at ho
    obtain ⟨h1, h2⟩ := ho
    refine ⟨?_, ?_⟩
    · have := h f List.mem_cons_self
      rwa [h1] at this
    · rw [List.drop_drop]
      exact walk_of fs (o + P.cellsOf f.type) h2 (fun g hg => h g (List.mem_cons_of_mem _ hg))
def OpensW (P : Program) (ts : List TypeId) (d : Ty) : Prop :=
  ∀ (H : Type) (enc : TypeId × Value → H) (w : World) (base : Nat) (spare : Nat → Bool) (held : Bool) (fuel : Nat) (cs : List Value),
    Walk P (fun t c => ∃ x, DataW.trod enc P w base spare held fuel t c = some x) ts cs → ∃ y : d.T, Rp (here w) w d y cs ∧ d.ok y
theorem opensW_one {P : Program} {t : TypeId} {d : Ty} (h : Opens P t d) : OpensW P [t] d := by
  intro H enc w base spare held fuel cs hw
  obtain ⟨⟨x, hx⟩, hd⟩ := hw
  have hcs : cs.take (P.cellsOf t) = cs := by
    rw [List.take_of_length_le]
    have := congrArg List.length hd
    rw [List.length_drop, List.length_nil] at this
    omega
  rw [hcs] at hx
  exact h H enc w base spare held fuel cs x hx
theorem opensW_cons {P : Program} {t : TypeId} {ts : List TypeId} {d d' : Ty} (h : Opens P t d) (h' : OpensW P ts d') : OpensW P (t :: ts) (.pair d d') := by
  intro H enc w base spare held fuel cs hw
  obtain ⟨⟨x, hx⟩, hd⟩ := hw
  obtain ⟨y, hy, hok⟩ := h H enc w base spare held fuel _ x hx
  obtain ⟨z, hz, hok'⟩ := h' H enc w base spare held fuel _ hd
  refine ⟨(y, z), ?_, hok, hok'⟩
  simp only [Rp]
  exact ⟨_, _, (List.take_append_drop _ _).symm, hy, hz⟩
theorem opens_struct {P : Program} {t : TypeId} {fs : Array Field} {d : Ty} (ht : P.underlying t = some (.struct fs)) (ho : offsOk P (P.cellsOf t) 0 fs.toList = true)
    (h : OpensW P (fs.toList.map (·.type)) d) : Opens P t d := by
  intro H enc w base spare held fuel cs x hx
  obtain ⟨xs, n, _, _, hl, hxl, hf⟩ := DataW.trod_struct ht hx
  have hw := walk_of (P := P) (T := fun t c => ∃ x, DataW.trod enc P w base spare held n t c = some x) (cs := cs) fs.toList 0 (by rw [hl]; exact ho) (fun f hfm => by
    obtain ⟨i, hi⟩ := List.getElem?_of_mem hfm
    have hi' : fs[i]? = some f := by simpa using hi
    have hlt : i < xs.length := by
      have := (Array.getElem?_eq_some_iff.1 hi').1
      omega
    exact ⟨_, (hf i f hi').trans (List.getElem?_eq_getElem hlt)⟩)
  exact h H enc w base spare held n cs hw
/-- At the start of a law nothing is one's own. -/
abbrev start (w : World) : CEnv := ⟨fun _ => .dead, fun _ => here w⟩
theorem arg_slice {P : Program} {t e : TypeId} {d : Ty} (ho : Opens P t (.sl e d)) (ht : P.underlying t = some (.slice e)) {H : Type} {enc : TypeId × Value → H} {w : World} {b base : Nat} {r : Reach} {spare : Nat → Bool} {held : Bool} {v : Value} {x : DataW H} {ps : List MemPlace}
    (hv : Value.okWide P w r b t v) (h : DataW.Trod enc P w base spare held t v x ps) : ∃ l : List d.T, rav (start w) w (.one (.emb e d l true)) v ∧ (Ty.sl e d).ok l := by
  obtain ⟨a, len, cap, rfl⟩ := okWide_slice ht hv
  obtain ⟨fuel, hf⟩ := h
  obtain ⟨l, hr, hok⟩ := ho H enc w base spare held fuel _ _ hf
  exact ⟨l, by simpa [rav, rc, Value.cells] using hr, hok⟩
theorem arg_struct {P : Program} {t : TypeId} {fs : Array Field} {d : Ty} (ho : Opens P t d) (ht : P.underlying t = some (.struct fs)) {H : Type} {enc : TypeId × Value → H} {w : World} {b base : Nat} {r : Reach} {spare : Nat → Bool} {held : Bool} {v : Value} {x : DataW H} {ps : List MemPlace}
    (hv : Value.okWide P w r b t v) (h : DataW.Trod enc P w base spare held t v x ps) : ∃ y : d.T, rav (start w) w (.agg (d.cells true y)) v ∧ d.ok y := by
  obtain ⟨cs, rfl, _⟩ := okWide_struct ht hv
  obtain ⟨fuel, hf⟩ := h
  obtain ⟨y, hy, hok⟩ := ho H enc w base spare held fuel _ _ hf
  refine ⟨y, ⟨cs.toList, by simp, ?_⟩, hok⟩
  exact cells_of_Rp (ρ := start w) (b := true) (by simpa [Value.cells] using hy)
theorem placed {H : Type} {enc : TypeId × Value → H} {P : Program} {W : World} {base : Nat} {spare : Nat → Bool} {held : Bool} {t : TypeId} {v : Value} {d : DataW H} {ps : List MemPlace} (h : DataW.Trod enc P W base spare held t v d ps) : ∀ x ∈ ps, x.block < W.heap.size := by
  obtain ⟨m, hm⟩ := h
  exact DataW.trod_lt m _ _ _ hm
/-- What the interpreter says of a call, the model does. -/
theorem law_calls {P : Program} {call : CallFn} (hC : CallOk P call) {f : FuncId} {args : List AV} {b : Bool} (h : call f args [] = some (.one (.bool b), [])) {W : World} {vs : List Value} (hr : All2 (rav (start W) W) args vs) (hu : ∀ v ∈ args, ∀ d, v.uses d = false) :
    Calls P f vs.toArray W fun e w' => e = .returned (.bool b) ∧ Below W.heap.size W w' := by
  refine (hC f args _ _ h (start W) W vs (fun _ _ h => h) (fun _ h => h) hr hu).2.mono fun e w' hh => ?_
  obtain ⟨v, ρ', he, hv, _, _, hb⟩ := hh
  have hv : v = .bool b := hv
  subst hv
  exact ⟨he, hb⟩
theorem cells_nouse (t : Ty) (b : Bool) (x : t.T) (d : Nat) : (AV.agg (t.cells b x)).uses d = false := by
  have : ∀ (t : Ty) (x : t.T), (t.cells b x).any (·.uses d) = false := by
    intro t
    induction t with
    | pair a c iha ihc => intro x; simp only [Ty.cells, List.any_append, iha, ihc]; rfl
    | _ => intro x; rfl
  exact this t x
/-- Of an element that may not be there. -/
def optC {α R : Type} (o : Option α) (f : α → Option R) : Option R := match o with | some x => f x | none => none
/-! ### tables -/
theorem lookup_mem {α β : Type} [BEq α] [LawfulBEq α] {l : List (α × β)} {a : α} {b : β} (h : l.lookup a = some b) : (a, b) ∈ l := by
  induction l with
  | nil => cases h
  | cons q r ih =>
    obtain ⟨a', b'⟩ := q
    rw [List.lookup_cons] at h
    split at h
    · rename_i heq
      cases h
      rw [eq_of_beq heq]
      exact List.mem_cons_self
    · exact List.mem_cons_of_mem _ (ih h)
theorem LtOk.no {P : Program} : ∀ c : Code, LtOk P c .none
  | .seq a b => ⟨LtOk.no a, LtOk.no b⟩
  | .cond _ a b => ⟨LtOk.no a, LtOk.no b⟩
  | .block _ b => LtOk.no b
  | .loop b => LtOk.no b
  | .skip | .label _ | .region _ _ _ | .exit _ | .ret | .goto _ | .scope _ | .refuse _ | .rangeFunc _ _ _ _ => trivial
/-- The loop at the place p. -/
def loopAt : List Bool → Code → Code
  | p, .seq a b => (match p with | false :: p => loopAt p a | true :: p => loopAt p b | [] => .skip)
  | p, .cond _ a b => (match p with | false :: p => loopAt p a | true :: p => loopAt p b | [] => .skip)
  | p, .block _ b => loopAt p b
  | p, .loop b => (match p with | [] => b | _ :: p => loopAt p b)
  | _, _ => .skip
/-- A summary put at its place. -/
def ltPut : List Bool → Code → LT → LT → LT
  | p, .seq a b, t, s => (match p with | false :: p => .node (ltPut p a t.l s) t.r | true :: p => .node t.l (ltPut p b t.r s) | [] => t)
  | p, .cond _ a b, t, s => (match p with | false :: p => .node (ltPut p a t.l s) t.r | true :: p => .node t.l (ltPut p b t.r s) | [] => t)
  | p, .block _ b, t, s => .node (ltPut p b t.l s) .none
  | p, .loop b, t, s => (match p with | [] => s | _ :: p => .node (ltPut p b t.l s) .none)
  | _, _, t, _ => t
theorem LtOk.put {P : Program} {ss : List SP} {gs : List (Nat × GP)} {F : StT ss gs → Ways (Ex × St)} (hw : wfSt ss gs) : ∀ {p : List Bool} {c : Code} {t : LT}, LtOk P c t → LoopOk P (loopAt p c) ss gs F → LtOk P c (ltPut p c t (.sum ss gs F))
  | p, .seq a b, t, h, hl => by
    cases p with
    | nil => exact h
    | cons x p => cases x with
      | false => exact ⟨LtOk.put hw h.1 hl, h.2⟩
      | true => exact ⟨h.1, LtOk.put hw h.2 hl⟩
  | p, .cond _ a b, t, h, hl => by
    have h1 : p = [] ∨ (LtOk P a t.l ∧ LtOk P b t.r) := by
      cases t with
      | sum ss gs F => exact .inr ⟨LtOk.no a, LtOk.no b⟩
      | none => exact .inr h
      | node x y => exact .inr h
    cases p with
    | nil => exact h
    | cons x p =>
      have h := h1.resolve_left (by simp)
      cases x with
      | false => exact ⟨LtOk.put hw h.1 hl, h.2⟩
      | true => exact ⟨h.1, LtOk.put hw h.2 hl⟩
  | p, .block _ b, t, h, hl => LtOk.put (c := b) hw h hl
  | p, .loop b, t, h, hl => by
    cases p with
    | nil => exact ⟨hw, hl⟩
    | cons x p =>
      have : LtOk P b t.l := by
        cases t with
        | sum ss gs F => exact LtOk.no b
        | none => exact h
        | node x y => exact h
      exact LtOk.put (c := b) hw this hl
  | p, .skip, t, h, hl => h
  | p, .label _, t, h, hl => h
  | p, .region _ _ _, t, h, hl => h
  | p, .exit _, t, h, hl => h
  | p, .ret, t, h, hl => h
  | p, .goto _, t, h, hl => h
  | p, .scope _, t, h, hl => h
  | p, .refuse _, t, h, hl => h
  | p, .rangeFunc _ _ _ _, t, h, hl => h
/-- The piece of code at the place p: a loop or a branching. -/
def pieceAt : List Bool → Code → Code
  | p, .seq a b => (match p with | false :: p => pieceAt p a | true :: p => pieceAt p b | [] => .skip)
  | p, .cond c a b => (match p with | false :: p => pieceAt p a | true :: p => pieceAt p b | [] => .cond c a b)
  | p, .block _ b => pieceAt p b
  | p, .loop b => (match p with | [] => .loop b | _ :: p => pieceAt p b)
  | p, .region id ops d => (match p with | [] => .region id ops d | _ => .skip)
  | _, _ => .skip
def ltPutC : List Bool → Code → LT → LT → LT
  | p, .seq a b, t, s => (match p with | false :: p => .node (ltPutC p a t.l s) t.r | true :: p => .node t.l (ltPutC p b t.r s) | [] => t)
  | p, .cond _ a b, t, s => (match p with | false :: p => .node (ltPutC p a t.l s) t.r | true :: p => .node t.l (ltPutC p b t.r s) | [] => s)
  | p, .block _ b, t, s => .node (ltPutC p b t.l s) .none
  | p, .loop b, t, s => (match p with | [] => s | _ :: p => .node (ltPutC p b t.l s) .none)
  | p, .region _ _ _, t, s => (match p with | [] => s | _ => t)
  | _, _, t, _ => t
theorem LtOk.putC {P : Program} {ss : List SP} {gs : List (Nat × GP)} {F : StT ss gs → Ways (Ex × St)} (hw : wfSt ss gs) : ∀ {p : List Bool} {c : Code} {t : LT}, LtOk P c t → CodeOk P (pieceAt p c) ss gs F → LtOk P c (ltPutC p c t (.sum ss gs F))
  | p, .seq a b, t, h, hl => by
    cases p with
    | nil => exact h
    | cons x p => cases x with
      | false => exact ⟨LtOk.putC hw h.1 hl, h.2⟩
      | true => exact ⟨h.1, LtOk.putC hw h.2 hl⟩
  | p, .cond _ a b, t, h, hl => by
    have h1 : (LtOk P a t.l ∧ LtOk P b t.r) := by
      cases t with
      | sum ss gs F => exact ⟨LtOk.no a, LtOk.no b⟩
      | none => exact h
      | node x y => exact h
    cases p with
    | nil => exact ⟨hw, hl⟩
    | cons x p =>
      have h := h1
      cases x with
      | false => exact ⟨LtOk.putC hw h.1 hl, h.2⟩
      | true => exact ⟨h.1, LtOk.putC hw h.2 hl⟩
  | p, .block _ b, t, h, hl => LtOk.putC (c := b) hw h hl
  | p, .loop b, t, h, hl => by
    cases p with
    | nil => exact ⟨hw, hl⟩
    | cons x p =>
      have : LtOk P b t.l := by
        cases t with
        | sum ss gs F => exact LtOk.no b
        | none => exact h
        | node x y => exact h
      exact LtOk.putC (c := b) hw this hl
  | p, .skip, t, h, hl => h
  | p, .label _, t, h, hl => h
  | p, .region _ _ _, t, h, hl => by
    cases p with
    | nil => exact ⟨hw, hl⟩
    | cons x p => exact h
  | p, .exit _, t, h, hl => h
  | p, .ret, t, h, hl => h
  | p, .goto _, t, h, hl => h
  | p, .scope _, t, h, hl => h
  | p, .refuse _, t, h, hl => h
  | p, .rangeFunc _ _ _ _, t, h, hl => h
theorem LtOk.putL {P : Program} {p : List Bool} {c : Code} {t : LT} {ss : List SP} {gs : List (Nat × GP)} {F : StT ss gs → Ways (Ex × St)} (hp : pieceAt p c = .loop (loopAt p c)) (hw : wfSt ss gs) (h : LtOk P c t) (hl : LoopOk P (loopAt p c) ss gs F) : LtOk P c (ltPutC p c t (.sum ss gs F)) :=
  LtOk.putC hw h (by rw [hp]; exact hl)
def bodyOf (f : Func) : Code := f.body.getD .skip
theorem Env.Ok.of {P : Program} {E : Env} (h : ∀ q ∈ E.ti, TI.Ok P q.1 q.2) (hf : ∀ q ∈ E.fn, P.funcs[q.1]? = some q.2 ∧ (q.2.name == "runtime.NumGoroutine") = false) (hp : ∀ q ∈ E.prim, PrimOk P q.1 q.2) (hl : ∀ q ∈ E.lt, ∀ fn, P.funcs[q.1]? = some fn → LtOk P (bodyOf fn) q.2) (hm : ∀ q ∈ E.mark, MarkOk P q.1 q.2) (he : ∀ t ∈ E.eqt, EqT P t) (hg : ∀ q ∈ E.gen, GenOk P q.1 q.2) : Env.Ok P E :=
  ⟨fun t i hl => h _ (lookup_mem hl), fun f fn hl => hf _ (lookup_mem hl), hp, fun f fn c hf1 hb => by
    unfold Env.ltOf
    cases hlk : E.lt.lookup f with
    | none => exact LtOk.no c
    | some t =>
      have := hl _ (lookup_mem hlk) fn (hf _ (lookup_mem hf1)).1
      unfold bodyOf at this
      rw [hb] at this
      exact this, fun f m hl => hm _ (lookup_mem hl), he, hg⟩
theorem EqT.of {P : Program} {t : TypeId} {fa : Array Field} (h1 : P.stoodInHeld t = false) (h2 : P.eqGuardType P.depth t = false) (h3 : P.underlying t = some (.struct fa)) (h4 : fa.toList.all (fun f => f.name != "_") = true) : EqT P t :=
  ⟨h1, h2, fun fa' h5 f hf => by
    rw [h3] at h5
    cases h5
    have := List.all_eq_true.1 h4 f hf
    simpa using this⟩
theorem mem_nil {α : Type} {p : α → Prop} : ∀ q ∈ ([] : List α), p q := fun q h => by cases h
theorem mem_cons {α : Type} {p : α → Prop} {a : α} {l : List α} (h : p a) (h' : ∀ q ∈ l, p q) : ∀ q ∈ a :: l, p q := fun q hq => (List.mem_cons.1 hq).elim (fun e => e ▸ h) (h' q)
def notAgg : TypeDesc → Bool
  | .struct _ => false | .array _ _ => false | _ => true
theorem TI.ok_nul {P : Program} {t : TypeId} {ti : TypeInfo} {d : TypeDesc} {by_ : Nat} {z : Value} {fl : Bool} (h1 : P.info? t = some ti) (h2 : P.underlying t = some d) (h3 : ti.size = 1 ∧ ti.bytes = by_) (h4 : ti.zero = some z ∧ z.cells = #[nulV fl]) (h5 : notAgg d = true) : TI.Ok P t ⟨.other, 1, by_, some (.nul fl)⟩ :=
  ⟨⟨ti, h1, h3.1, h3.2, fun τ h => by cases h; exact ⟨rfl, z, h4.1, h4.2⟩⟩, _, h2, by clear h2; cases d <;> first | rfl | cases h5⟩
theorem TI.ok_int {P : Program} {t : TypeId} {ti : TypeInfo} {k : IntKind} {by_ : Nat} {z : Value} (h1 : P.info? t = some ti) (h2 : P.underlying t = some (.int k)) (h3 : ti.size = 1 ∧ ti.bytes = by_) (h4 : ti.zero = some z ∧ z.cells = #[.int k 0]) : TI.Ok P t ⟨.scal, 1, by_, some (.int k)⟩ :=
  ⟨⟨ti, h1, h3.1, h3.2, fun τ h => by cases h; exact ⟨rfl, z, h4.1, h4.2⟩⟩, _, h2, rfl⟩
theorem TI.ok_bool {P : Program} {t : TypeId} {ti : TypeInfo} {by_ : Nat} {z : Value} (h1 : P.info? t = some ti) (h2 : P.underlying t = some .bool) (h3 : ti.size = 1 ∧ ti.bytes = by_) (h4 : ti.zero = some z ∧ z.cells = #[.bool false]) : TI.Ok P t ⟨.scal, 1, by_, some .bool⟩ :=
  ⟨⟨ti, h1, h3.1, h3.2, fun τ h => by cases h; exact ⟨rfl, z, h4.1, h4.2⟩⟩, _, h2, rfl⟩
theorem TI.ok_str {P : Program} {t : TypeId} {ti : TypeInfo} {by_ : Nat} {z : Value} (h1 : P.info? t = some ti) (h2 : P.underlying t = some .string) (h3 : ti.size = 1 ∧ ti.bytes = by_) (h4 : ti.zero = some z ∧ z.cells = #[.string ByteArray.empty]) : TI.Ok P t ⟨.scal, 1, by_, some .str⟩ :=
  ⟨⟨ti, h1, h3.1, h3.2, fun τ h => by cases h; exact ⟨rfl, z, h4.1, h4.2⟩⟩, _, h2, rfl⟩
theorem TI.ok_slice {P : Program} {t e : TypeId} {ti : TypeInfo} {by_ : Nat} {z : Value} {τ : Ty} (h1 : P.info? t = some ti) (h2 : P.underlying t = some (.slice e)) (h3 : ti.size = 1 ∧ ti.bytes = by_) (h4 : ti.zero = some z ∧ z.cells = #[.slice none 0 0]) : TI.Ok P t ⟨.slice e, 1, by_, some (.sl e τ)⟩ :=
  ⟨⟨ti, h1, h3.1, h3.2, fun τ h => by cases h; exact ⟨rfl, z, h4.1, h4.2⟩⟩, _, h2, rfl⟩
theorem TI.ok_struct {P : Program} {t : TypeId} {ti : TypeInfo} {fa : Array Field} {fs : List (TypeId × Nat)} {sz by_ : Nat} {z : Value} {τ : Ty} (h1 : P.info? t = some ti) (h2 : P.underlying t = some (.struct fa)) (h3 : ti.size = sz ∧ ti.bytes = by_) (h4 : ti.zero = some z ∧ z.cells = τ.zv.toArray) (h5 : τ.sz = sz)
    (h6 : fs = fa.toList.map fun f => (f.type, f.offset)) (h7 : fa.toList.all (fun f => ((P.info? f.type).map (·.size)).getD 0 != 0) = true) : TI.Ok P t ⟨.struct fs, sz, by_, some τ⟩ :=
  ⟨⟨ti, h1, h3.1, h3.2, fun τ h => by cases h; exact ⟨h5, z, h4.1, h4.2⟩⟩, _, h2, fa, rfl, h6, fun f hf => by
    have := List.all_eq_true.1 h7 f hf
    cases hi : P.info? f.type with
    | none => rw [hi] at this; simp at this
    | some fi => rw [hi] at this; exact ⟨fi, rfl, by simpa using this⟩⟩
end Go.Proofs.Ytfbokamlkecibaa.Lib

/- What comes out of a function, as a term: trees of tests; loops as iterations. No condition. -/
namespace Go.Proofs.Ytfbokamlkecibaa.Lib
open Go Go.RowKit Go.WideShapes
set_option linter.unusedVariables false
section
variable {α V R S : Type}
def optV (o : Option α) (z : V) (v : α → V) : V := match o with | some x => v x | none => z
def optD (o : Option α) (d : α → Bool) : Bool := match o with | some x => d x | none => false
theorem tot_cond {c : Bool} {f : V → R} {A B : Option R} {x y : V} (hA : A = some (f x)) (hB : B = some (f y)) : cond c A B = some (f (cond c x y)) := by cases c <;> assumption
theorem run_fin {W : Type} {o : Option V} {z : V} {f : V → W} {A : Option W} (h : A = o.bind fun r => some (f r)) : A = (Ways.br o.isSome (.done (f (o.getD z))) .no).run some := by rw [h]; cases o <;> rfl
theorem par_some {f : V → R} (x : V) : some (f x) = cond true (some (f x)) none := rfl
theorem par_none {f : V → R} (x : V) : none = cond false (some (f x)) none := rfl
theorem par_cond {c dA dB : Bool} {f : V → R} {A B : Option R} {x y : V} (hA : A = cond dA (some (f x)) none) (hB : B = cond dB (some (f y)) none) : cond c A B = cond (cond c dA dB) (some (f (cond c x y))) none := by cases c <;> assumption
theorem par_ite {p : Prop} [Decidable p] {dA : Bool} {f : V → R} {A : Option R} {x : V} (hA : A = cond dA (some (f x)) none) : (if p then A else none) = cond (decide p && dA) (some (f x)) none := by
  by_cases hp : p
  · rw [if_pos hp, hA, decide_eq_true hp]; rfl
  · rw [if_neg hp, decide_eq_false hp]; rfl
theorem par_ifz {p : Prop} [Decidable p] {dA : Bool} {f : V → R} {A : Option R} {x : V} (hA : A = cond dA (some (f x)) none) : (if p then none else A) = cond (!decide p && dA) (some (f x)) none := by
  by_cases hp : p
  · rw [if_pos hp, decide_eq_true hp]; rfl
  · rw [if_neg hp, hA, decide_eq_false hp]; rfl
theorem par_opt {o : Option α} {f : V → R} {A : α → Option R} {d : α → Bool} {v : α → V} {z : V} (hA : ∀ x, A x = cond (d x) (some (f (v x))) none) : optC o A = cond (optD o d) (some (f (optV o z v))) none := by
  cases o with
  | none => rfl
  | some x => exact hA x
theorem bnd_cond {c : Bool} {k : S → Option R} {A B : Option S} {A' B' : Option R} (hA : A' = A.bind k) (hB : B' = B.bind k) : cond c A' B' = (cond c A B).bind k := by cases c <;> assumption
theorem bnd_ite {p : Prop} [Decidable p] {k : S → Option R} {A : Option S} {A' : Option R} (hA : A' = A.bind k) : (if p then A' else none) = (if p then A else none : Option S).bind k := by split <;> first | assumption | rfl
theorem bnd_ifz {p : Prop} [Decidable p] {k : S → Option R} {A : Option S} {A' : Option R} (hA : A' = A.bind k) : (if p then none else A') = (if p then none else A : Option S).bind k := by split <;> first | assumption | rfl
theorem bnd_opt {o : Option α} {k : S → Option R} {A : α → Option S} {A' : α → Option R} (hA : ∀ x, A' x = (A x).bind k) : optC o A' = (optC o A).bind k := by
  cases o with
  | none => rfl
  | some x => exact hA x
/-! ### iterations -/
/-- Until the step says, by its number, that it goes out. -/
def iter (s : V → Option (Nat × V)) : Nat → V → Option (Nat × V)
  | 0, _ => none
  | n + 1, v => (s v).bind fun q => match q.1 with | 0 => iter s n q.2 | c + 1 => some (c, q.2)
def iterAt (s : V → Option (Nat × V)) (n : Nat) (v : V) (c : Nat) : Bool := match iter s n v with | some q => q.1 == c | none => false
def iterV (s : V → Option (Nat × V)) (n : Nat) (v : V) : V := match iter s n v with | some q => q.2 | none => v
/-- One round's way on. -/
def kont (body : St → (Ex → St → Option R) → Option R) (z : Nz) (bld : V → St) (ex : List Ex) (n : Nat) (K : Ex → St → Option R) (q : Nat × V) : Option R :=
  match q.1 with | 0 => vloop body z n (bld q.2) K | c + 1 => K (ex.getD c .normal) (bld q.2)
theorem loop_iter {body : St → (Ex → St → Option R) → Option R} {z : Nz} {bld : V → St} {s : V → Option (Nat × V)} {ex : List Ex} {K : Ex → St → Option R}
    (h : ∀ n v, vloop body z (n + 1) (bld v) K = (s v).bind (kont body z bld ex n K)) : ∀ n v, vloop body z n (bld v) K = (iter s n v).bind fun q => K (ex.getD q.1 .normal) (bld q.2)
  | 0, v => rfl
  | n + 1, v => by
    rw [h, iter]
    cases s v with
    | none => rfl
    | some q =>
      obtain ⟨c, v'⟩ := q
      cases c with
      | zero => exact loop_iter h n v'
      | succ c => rfl
def waysOf (s : V → Option (Nat × V)) (N : Nat) (v : V) (bld : V → St) : List Ex → Nat → Ways (Ex × St)
  | [], _ => .no
  | e :: es, c => .br (iterAt s N v c) (.done (e, bld (iterV s N v))) (waysOf s N v bld es (c + 1))
theorem waysOf_run {s : V → Option (Nat × V)} {N : Nat} {v : V} {bld : V → St} {e : Ex} {st' : St} : ∀ (es : List Ex) (c : Nat), (waysOf s N v bld es c).run some = some (e, st') → ∃ i, es[i]? = some e ∧ iter s N v = some (c + i, iterV s N v) ∧ st' = bld (iterV s N v)
  | [], c, h => by cases h
  | x :: es, c, h => by
    simp only [waysOf, Ways.run] at h
    cases hc : iterAt s N v c with
    | true =>
      rw [hc] at h
      simp only [cond_true, Option.some.injEq, Prod.mk.injEq] at h
      obtain ⟨rfl, rfl⟩ := h
      refine ⟨0, rfl, ?_, rfl⟩
      unfold iterAt at hc
      unfold iterV
      cases hi : iter s N v with
      | none => rw [hi] at hc; cases hc
      | some q =>
        rw [hi] at hc
        obtain ⟨c', v'⟩ := q
        have : c' = c := by simpa using hc
        subst this
        rfl
    | false =>
      rw [hc] at h
      obtain ⟨i, h1, h2, h3⟩ := waysOf_run es (c + 1) h
      exact ⟨i + 1, by simpa using h1, by rw [h2]; simp only [Nat.add_assoc, Nat.add_comm 1 i], h3⟩
end
section
variable {P : Program} {E : Env}
/-- A loop whose rounds the step s says. -/
theorem loopOk_iter (hE : Env.Ok P E) (hm : P.follows .mixedOrders = true) {b : Code} {lt : LT} (hlt : LtOk P b lt) {ss : List SP} {gs : List (Nat × GP)} {s : StT ss gs → Option (Nat × StT ss gs)} {N : StT ss gs → Nat} {ex : List Ex}
    (h : ∀ (n : Nat) (v : StT ss gs) (K : Ex → St → Option (Ex × St)), vloop (vcode E (vcall E drawB 0) drawB 0 b lt) (.norm ss gs) (n + 1) (bldSt ss gs v) K = (s v).bind (kont (vcode E (vcall E drawB 0) drawB 0 b lt) (.norm ss gs) (bldSt ss gs) ex n K)) :
    LoopOk P b ss gs fun v => waysOf s (N v) v (bldSt ss gs) ex 0 := by
  refine loopOk_of (draw := drawB) hE (fun call hC => drawB_ok hE hm call hC) hlt 0 0 (.norm ss gs) fun v e st' hv => ⟨N v, ?_⟩
  obtain ⟨i, h1, h2, h3⟩ := waysOf_run ex 0 hv
  rw [loop_iter (K := fun e st => some (e, st)) (fun n v => h n v _) (N v) v, h2, h3, Nat.zero_add]
  simp [h1]
/-- A piece whose outcome the function F says. -/
theorem codeOk_eq (hE : Env.Ok P E) (hm : P.follows .mixedOrders = true) {c : Code} {lt : LT} (hlt : LtOk P c lt) {ss : List SP} {gs : List (Nat × GP)} {F : StT ss gs → Ways (Ex × St)} {sx : List SP} {gx : List (Nat × GP)}
    (h : ∀ (v : StT ss gs), vcode E (vcall E drawB 0) drawB 0 c lt (bldSt ss gs v) (fun e st => bif st.sl.length == sx.length then some (e, st.norm sx gx) else none) = (F v).run some) : CodeOk P c ss gs F := by
  intro B O w0 w ρ a v e st' Q hF hS hn
  have hD := fun call hC => drawB_ok hE hm call hC
  have hC := vcall_sound hE hD 0
  refine vcode_sound (R := Ex × St) (r := (e, st')) hE hC (hD _ hC) 0 c lt _ ρ a w _ Q hlt hS ((h v).trans hF) fun e1 ρ1 st1 a1 w1 hk h1 => ?_
  simp only [bifs] at hk
  split at hk
  · rename_i hl
    cases hk
    obtain ⟨ρ2, h2⟩ := h1.norm sx gx
    exact hn ρ2 a1 w1 h2
  · cases hk
/-- A statement whose order is open, gone in all the orders that count. -/
theorem codeOk_plans (hE : Env.Ok P E) (hm : P.follows .mixedOrders = true) {id : Nat} {ops : Array Oper} (hb : planB ops = true) (n : Nat) {ss : List SP} {gs : List (Nat × GP)} {F : StT ss gs → Ways (Ex × St)} {sx : List SP} {gx : List (Nat × GP)}
    (h : ∀ (v : StT ss gs), ((plans E ops (ops.size + 1) (Array.replicate ops.size false)).map fun π => vguard E (vcall E drawB 0) ops.toList (π.map (opAt ops)) (bldSt ss gs v) (fun st => bif st.sl.length == sx.length then some (Ex.normal, st.norm sx gx) else none)) = List.replicate n ((F v).run some)) : CodeOk P (.region id ops true) ss gs F := by
  intro B O w0 w ρ a v e st' Q hF hS hn
  have hC := vcall_sound hE (fun call hC => drawB_ok hE hm call hC) 0
  refine region_plans (R := Ex × St) (r := (e, st')) hE hC hm hb hS (k := fun st => bif st.sl.length == sx.length then some (Ex.normal, st.norm sx gx) else none) (fun π hπ => ?_) fun ρ1 st1 a1 w1 hk h1 => ?_
  · have h1 := List.mem_map_of_mem (f := fun π => vguard E (vcall E drawB 0) ops.toList (π.map (opAt ops)) (bldSt ss gs v) (fun st => bif st.sl.length == sx.length then some (Ex.normal, st.norm sx gx) else none)) hπ
    rw [h v] at h1
    rw [List.eq_of_mem_replicate h1]
    exact hF
  · simp only [bifs] at hk
    split at hk
    · rename_i hl
      cases hk
      obtain ⟨ρ2, h2⟩ := h1.norm sx gx
      exact hn ρ2 a1 w1 h2
    · cases hk
@[reducible] def U2 (l : List SP) : List SP := .und :: .und :: l
@[reducible] def U4 (l : List SP) : List SP := .und :: .und :: .und :: .und :: l
@[reducible] def U8 (l : List SP) : List SP := U4 (U4 l)
@[reducible] def U16 (l : List SP) : List SP := U8 (U8 l)
@[reducible] def U32 (l : List SP) : List SP := U16 (U16 l)
@[reducible] def U64 (l : List SP) : List SP := U32 (U32 l)
def regOps : Code → Array Oper | .region _ ops _ => ops | _ => #[]
def isDraw : Code → Bool | .region _ _ d => d | _ => false
theorem codeOk_drawn {c : Code} (hc : isDraw c = true) (hE : Env.Ok P E) (hm : P.follows .mixedOrders = true) (hb : planB (regOps c) = true) (n : Nat) {ss : List SP} {gs : List (Nat × GP)} {F : StT ss gs → Ways (Ex × St)} {sx : List SP} {gx : List (Nat × GP)}
    (h : ∀ (v : StT ss gs), ((plans E (regOps c) ((regOps c).size + 1) (Array.replicate (regOps c).size false)).map fun π => vguard E (vcall E drawB 0) (regOps c).toList (π.map (opAt (regOps c))) (bldSt ss gs v) (fun st => bif st.sl.length == sx.length then some (Ex.normal, st.norm sx gx) else none)) = List.replicate n ((F v).run some)) : CodeOk P c ss gs F := by
  cases c with
  | region id ops d =>
    have : d = true := hc
    subst this
    exact codeOk_plans hE hm hb n h
  | _ => cases hc
theorem primOk_eq (hE : Env.Ok P E) (hm : P.follows .mixedOrders = true) {f : FuncId} {p : Prim} (h : ∀ v, vcall E drawB 1 f (SPs.bld (R := Unit) p.ss v).1 [] = (p.F v).run some) : PrimOk P f p :=
  primOk_of (draw := drawB) hE (fun call hC => drawB_ok hE hm call hC) fun v res out hv => ⟨1, by rw [h v]; exact hv⟩
theorem markOk_eq (hE : Env.Ok P E) (hm : P.follows .mixedOrders = true) {f : FuncId} {m : Mrk} (hwf : wfSt m.ss m.gs) (hfn : ∃ fn c, E.fn.lookup f = some fn ∧ fn.body = some c) (h : ∀ v, vmcall E drawB 0 f (bldSt m.ss m.gs v) = (m.F v).run some) : MarkOk P f m :=
  markOk_of (draw := drawB) hE (fun call hC => drawB_ok hE hm call hC) hwf hfn fun v res upd hv => ⟨0, by rw [h v]; exact hv⟩
theorem genOk_eq (hE : Env.Ok P E) (hm : P.follows .mixedOrders = true) {f : FuncId} {m : Gen} (hwf : wfSt m.ss m.gs) (hfn : ∃ fn c, E.fn.lookup f = some fn ∧ fn.body = some c) (h : ∀ v, vgcall E drawB 0 f (bldSt m.ss m.gs v) = (m.F v).run some) : GenOk P f m :=
  genOk_of (draw := drawB) hE (fun call hC => drawB_ok hE hm call hC) hwf hfn fun v res fin hv => ⟨0, by rw [h v]; exact hv⟩
theorem ltOk_of {g : FuncId} {f : Func} {t : LT} (hf : P.funcs[g]? = some f) (h : LtOk P (bodyOf f) t) : ∀ fn, P.funcs[g]? = some fn → LtOk P (bodyOf fn) t := fun fn hfn => by
  rw [hf] at hfn
  cases hfn
  exact h
/-- What is known of a function, the model does. -/
theorem prim_calls {f : FuncId} {p : Prim} (hp : PrimOk P f p) {v : SPs.T p.ss Unit} {b : Bool} (h : (p.F v).run some = some (.one (.bool b), [])) {W : World} {vs : List Value} (hr : All2 (rav (start W) W) (SPs.bld (R := Unit) p.ss v).1 vs) (hu : ∀ x ∈ (SPs.bld (R := Unit) p.ss v).1, ∀ d, x.uses d = false) :
    Calls P f vs.toArray W fun e w' => e = .returned (.bool b) ∧ Below W.heap.size W w' := by
  refine (hp v _ _ h (start W) W vs (fun _ _ h => h) (fun _ h => h) hr hu).2.mono fun e w' hh => ?_
  obtain ⟨v, ρ', he, hv, _, _, hb⟩ := hh
  have hv : v = .bool b := hv
  subst hv
  exact ⟨he, hb⟩
def onlyDat (ss : List SP) : Bool := ss.all fun s => match s with | .one (.dat _ _) => true | .agg ps => ps.all (fun p => match p with | .dat _ _ => true | _ => false) | _ => false
theorem bld_dat {ss : List SP} (h : onlyDat ss = true) (v : SPs.T ss Unit) : ∀ x ∈ (SPs.bld (R := Unit) ss v).1, ∀ d, x.uses d = false := by
  have hc : ∀ {R : Type} (ps : List CP) (y : CPs.T ps R) (d : Nat), ps.all (fun p => match p with | .dat _ _ => true | _ => false) = true → (CPs.bld ps y).1.any (·.uses d) = false := by
    intro R ps
    induction ps with
    | nil => intro y d h; rfl
    | cons p r ih =>
      intro y d h
      simp only [List.all_cons, Bool.and_eq_true] at h
      cases p with
      | dat t b => simp only [CPs.bld, List.any_append, cells_any, Bool.false_or]; exact ih _ d h.2
      | own j => cases h.1
      | ptr j c => cases h.1
      | und => cases h.1
      | fnc f ts => cases h.1
      | ept t => cases h.1
      | fnp f js => cases h.1
  have main : ∀ {R : Type} (ss : List SP) (y : SPs.T ss R), onlyDat ss = true → ∀ x ∈ (SPs.bld ss y).1, ∀ d, x.uses d = false := by
    intro R ss
    induction ss with
    | nil => intro y h x hx; simp [SPs.bld] at hx
    | cons s r ih =>
      intro y h x hx d
      simp only [onlyDat, List.all_cons, Bool.and_eq_true] at h
      cases s with
      | und => cases h.1
      | one p =>
        cases p with
        | dat t b =>
          rcases List.mem_cons.1 hx with rfl | hx
          · have := hc [.dat t b] y d rfl
            generalize (CPs.bld [.dat t b] y).1 = l at this
            unfold oneOf
            split
            · simpa [AV.uses] using this
            · rfl
          · exact ih _ h.2 x hx d
        | own j => cases h.1
        | ptr j c => cases h.1
        | und => cases h.1
        | fnc f ts => cases h.1
        | ept t => cases h.1
        | fnp f js => cases h.1
      | agg ps =>
        rcases List.mem_cons.1 hx with rfl | hx
        · exact hc ps y d h.1
        · exact ih _ h.2 x hx d
  exact main ss v h
theorem arg_struct' {P : Program} {t : TypeId} {fs : Array Field} {d : Ty} (ho : Opens P t d) (ht : P.underlying t = some (.struct fs)) {H : Type} {enc : TypeId × Value → H} {w : World} {b base : Nat} {r : Reach} {spare : Nat → Bool} {held : Bool} {v : Value} {x : DataW H} {ps : List MemPlace}
    (hv : Value.okWide P w r b t v) (h : DataW.Trod enc P w base spare held t v x ps) : ∃ y : d.T, rav (start w) w (.agg (d.cells true y ++ [])) v ∧ d.ok y := by
  obtain ⟨y, h1, h2⟩ := arg_struct ho ht hv h
  exact ⟨y, by rw [List.append_nil]; exact h1, h2⟩
end
end Go.Proofs.Ytfbokamlkecibaa.Lib

/- strings.Join: it reads the row that it is given, and gives a string. No condition. -/
namespace Go.Proofs.Ytfbokamlkecibaa.Lib
open Go Go.RowKit
variable {P : Program}
/-- The bytes of the strings, with sep between them. -/
noncomputable def joinB (l : List ByteArray) (sep : ByteArray) : ByteArray := ⟨(Go.Lib.join (l.map (·.data.toList)) sep.data.toList).toArray⟩
theorem joinB_size (l : List ByteArray) (sep : ByteArray) : (joinB l sep).size = (Go.Lib.join (l.map (·.data.toList)) sep.data.toList).length := by
  simp [joinB, ByteArray.size]
noncomputable def joinP (e : TypeId) : Prim := ⟨[.one (.dat (.sl e .str) true), .one (.dat .str true)],
  fun v => .br (decide (List.length (α := ByteArray) v.1 ≤ 140737488355328 ∧ (joinB v.1 v.2.1).size ≤ 140737488355328)) (.done (.one (.str (joinB v.1 v.2.1)), [])) .no⟩
theorem joinOk {f : FuncId} {e : TypeId} (hf : ∃ fn, P.funcs[f]? = some fn ∧ fn.body.isSome = true ∧ (fn.name == "runtime.NumGoroutine") = false)
    (h0 : ∀ (a : Option Addr) (c : Nat) (sep : ByteArray) (w : World), Calls P f #[.slice a 0 c, .string sep] w fun e w' => e = .returned (.string ⟨#[]⟩) ∧ w' = w)
    (h1 : ∀ (bk o c : Nat) (xs : List ByteArray) (sep : ByteArray) (w : World), (∀ (j : Nat) x, xs[j]? = some x → w.cell? ⟨bk, o + j, none⟩ = some (.string x)) → bk < w.heap.size → xs.length ≤ 140737488355328 → xs.length ≤ c →
      (Go.Lib.join (xs.map (·.data.toList)) sep.data.toList).length ≤ 140737488355328 →
      Calls P f #[.slice (some ⟨bk, o, none⟩) xs.length c, .string sep] w fun e w' => e = .returned (.string ⟨(Go.Lib.join (xs.map (·.data.toList)) sep.data.toList).toArray⟩) ∧ Below w.heap.size w w') : PrimOk P f (joinP e) := by
  intro v res out hv ρ w vs hsz hmono hargs hu
  refine ⟨hf, ?_⟩
  obtain ⟨l, sep, u⟩ := v
  simp only [joinP, Ways.run] at hv
  by_cases hc : List.length (α := ByteArray) l ≤ 140737488355328 ∧ (joinB l sep).size ≤ 140737488355328
  · rw [decide_eq_true hc] at hv
    simp only [cond_true, Option.some.injEq, Prod.mk.injEq] at hv
    obtain ⟨rfl, rfl⟩ := hv
    have hst : (SPs.bld (R := Unit) (joinP e).ss (l, sep, u)).1 = [.one (.emb e .str l true), .one (.str sep)] := rfl
    rw [hst] at hargs
    match vs, hargs with
    | [v0, v1], .cons hr0 (.cons hr1 .nil) =>
      have hr1 : v1 = .string sep := hr1
      subst hr1
      have hr0 : Rp (ρ.ok true) w (.sl e .str) l [v0] := hr0
      simp only [Rp] at hr0
      obtain ⟨A, c, e1, hle, hm, hd⟩ := hr0
      have e1 : v0 = .slice A l.length c := by simpa using e1
      subst e1
      have fin : ∀ w' : World, Below w.heap.size w w' → Mem w.heap.size ⟨fun _ => False, ρ.ok, ρ.loc⟩ ρ [] w' := fun w' hb =>
        ⟨fun j b h => (by cases h), fun i j g h => (by cases h), fun j g h => (by cases h), fun b g h => Nat.lt_of_lt_of_le (hsz b g h) hb.size, fun b g _ j h => (by cases h), hmono, fun b g h => .inl h, fun b g h => h, fun j b d h => (by cases h)⟩
      by_cases hl : l.length = 0
      · have : l = [] := List.eq_nil_of_length_eq_zero hl
        subst this
        refine (h0 A c sep w).mono fun ex w' he => ⟨_, ρ, he.1, ?_, fin w' (he.2 ▸ Below.refl _ _), fun d h => (by cases h), he.2 ▸ Below.refl _ _⟩
        show _ = _
        rfl
      · obtain ⟨ad, q0, _, q1⟩ := hd (by omega)
        subst q0
        have cell : ∀ (j : Nat) x, l[j]? = some x → w.cell? (ad.add (j * Ty.str.sz + 0)) = some (.string x) := fun j x hj => by
          obtain ⟨c, q2, q3, q4⟩ := q1 j x hj
          have q3 : c = [.string x] := q3
          exact q4 0 (.string x) (by rw [q3]; rfl)
        obtain ⟨x0, hx0⟩ : ∃ x, l[0]? = some x := ⟨_, List.getElem?_eq_getElem (by omega)⟩
        have c0 := cell 0 x0 hx0
        have c0 : w.cell? ad = some (.string x0) := by simpa [Addr.add] using c0
        obtain ⟨bk, o, sp⟩ := ad
        have hsp : sp = none := by
          cases sp with
          | none => rfl
          | some s =>
            unfold World.cell? at c0
            revert c0
            split <;> simp
        subst hsp
        have hcell : ∀ (j : Nat) x, l[j]? = some x → w.cell? ⟨bk, o + j, none⟩ = some (.string x) := fun j x hj => by
          have := cell j x hj
          have e : (⟨bk, o, none⟩ : Addr).add (j * Ty.str.sz + 0) = ⟨bk, o + j, none⟩ := by
            simp only [Addr.add, Ty.sz, Nat.mul_one, Nat.add_zero]
            split
            · rename_i h; rw [h]; rfl
            · rfl
          rw [e] at this
          exact this
        refine (h1 bk o c l sep w hcell (cell_here c0) hc.1 hle (by rw [← joinB_size]; exact hc.2)).mono fun ex w' he => ⟨_, ρ, he.1, ?_, fin w' he.2, fun d h => (by cases h), he.2⟩
        show _ = _
        rfl
  · rw [decide_eq_false hc] at hv
    cases hv
end Go.Proofs.Ytfbokamlkecibaa.Lib

/- slices.Clone: a row of one's own with the same elements. No condition. -/
namespace Go.Proofs.Ytfbokamlkecibaa.Lib
open Go Go.RowKit Go.Lib
set_option linter.unusedVariables false
set_option linter.unusedSimpArgs false
def cloneOp (t tb : TypeId) (y z : String) : Oper := { dst := some 4, op := Op.binOp BinOp.eql t (Operand.tmp 3) (Operand.const (Value.slice none 0 0)) t, type := tb, pos := y, after := #[{ on := 0, ground := Ground.data }], guard := none }
def cloneA (t : TypeId) : Code := Code.region 0 #[{ dst := some 2, op := Op.assign (Operand.const (Value.slice none 0 0)), type := t, pos := "slices.go:355", after := #[], guard := none }] false
def cloneM (t : TypeId) : Oper := { dst := some 3, op := Op.move (Operand.tmp 0), type := t, pos := "slices.go:357", after := #[], guard := none }
def cloneR (t : TypeId) : Code := (Code.region 2 #[{ dst := some 2, op := Op.assign (Operand.const (Value.slice none 0 0)), type := t, pos := "slices.go:358", after := #[], guard := none }] false).seq Code.ret
def cloneB (t : TypeId) : Code :=
  (Code.region 3
    #[{ dst := some 5, op := Op.buildSlice t 0 #[], type := t, pos := "slices.go:362", after := #[], guard := none },
      { dst := some 6, op := Op.move (Operand.tmp 0), type := t, pos := "slices.go:362", after := #[], guard := none },
      { dst := some 7, op := Op.call { callee := Callee.builtin Builtin.append, args := #[Operand.tmp 5, Operand.tmp 6], argTypes := #[t, t] }, type := t, pos := "slices.go:362",
        after := #[{ on := 0, ground := Ground.data }, { on := 1, ground := Ground.data }], guard := none },
      { dst := some 2, op := Op.assign (Operand.tmp 7), type := t, pos := "slices.go:362",
        after := #[{ on := 2, ground := Ground.data }, { on := 2, ground := Ground.chain }, { on := 0, ground := Ground.phase }, { on := 1, ground := Ground.phase }, { on := 2, ground := Ground.phase }], guard := none }]
    false).seq Code.ret
def cloneCode (t tb : TypeId) : Code := (cloneA t).seq (((Code.region 1 #[cloneM t, cloneOp t tb "slices.go:357" ""] false).seq (Code.cond (Operand.tmp 4) (cloneR t) Code.skip)).seq (cloneB t))
def cloneP (e : TypeId) (τ : Ty) (by_ : Nat) : Prim := ⟨[.one (.dat (.sl e τ) true)], fun v => .br (decide (List.length (α := τ.T) v.1 * by_ ≤ 140737488351232)) (.done (.one (.sl 4096), [(4096, .arr e τ v.1 false)])) .no⟩
theorem Mem.row1 {n0 : Nat} {ok : Bool → Nat → Prop} {l0 : Nat → Loc} {ρ : CEnv} {w : World} {e : TypeId} {τ : Ty} {l : List τ.T} {b b' : Bool} {j : Nat} (hfl : τ.flat = true) (h : Mem n0 ⟨fun _ => False, ok, l0⟩ ρ [(j, .arr e τ l b)] w) : Mem n0 ⟨fun _ => False, ok, l0⟩ ρ [(j, .arr e τ l b')] w := by
  have ho : ∀ i g, Owns ρ [(j, Blk.arr e τ l b')] i g → Owns ρ [(j, Blk.arr e τ l b)] i g := by
    intro i g h
    unfold Owns at h ⊢
    simp only [Sig.get, bifs] at h ⊢
    split at h
    · rename_i he
      split at he
      · cases he
      · cases he
    · rename_i he
      split at he
      · rename_i hc
        rw [if_pos hc]
        exact h
      · cases he
    · exact h.elim
  refine ⟨fun i x hi => ?_, fun i k g h1 h2 => h.inj i k g (ho i g h1) (ho k g h2), fun i g h1 => h.old i g (ho i g h1), h.okb, fun q g hq i h1 => h.oko q g hq i (ho i g h1), h.okm, h.okx, h.oky, fun i x d hi hd => ?_⟩
  · simp only [Sig.get, bifs] at hi
    split at hi
    · rename_i hc
      cases hi
      obtain ⟨v, g, xs, h1, h2, h3⟩ := h.blk i _ (by simp only [Sig.get, bifs]; rw [if_pos hc])
      exact ⟨v, g, xs, h1, ⟨h2.1, fun q p hp => flat_Rp hfl (h2.2 q p hp)⟩, h3⟩
    · cases hi
  · simp only [Sig.get, bifs] at hi
    split at hi
    · cases hi; cases hd
    · cases hi
section
variable {P : Program} {E : Env}
theorem cloneOk (hE : Env.Ok P E) {f : FuncId} {fn : Func} {t tb e : TypeId} {sz sz' bs by_ : Nat} {yt : Option Ty} {td : TD} {τ : Ty} (hf : P.funcs[f]? = some fn) (hn : (fn.name == "runtime.NumGoroutine") = false) (hb : fn.body = some (cloneCode t tb)) (hnt : fn.ntmps = 8) (hrs : fn.results = #[.tmp 2])
    (ht : E.ti.lookup t = some ⟨.slice e, sz, bs, yt⟩) (he : E.ti.lookup e = some ⟨td, sz', by_, some τ⟩) (hby : by_ ≠ 0) (hfl : τ.flat = true) : PrimOk P f (cloneP e τ by_) := by
  intro v res out hv ρ0 w vs hokb hokm hr hu
  refine ⟨⟨fn, hf, by rw [hb]; rfl, hn⟩, ?_⟩
  obtain ⟨l, x⟩ := v
  simp only [cloneP, Ways.run] at hv
  by_cases hc : List.length (α := τ.T) l * by_ ≤ 140737488351232
  · rw [decide_eq_true hc] at hv
    simp only [cond_true, Option.some.injEq, Prod.mk.injEq] at hv
    obtain ⟨rfl, rfl⟩ := hv
    have hst : (SPs.bld (R := Unit) (cloneP e τ by_).ss (l, x)).1 = [.one (.emb e τ l true)] := rfl
    rw [hst] at hr
    obtain ⟨u, rfl, hr9⟩ := hr.single
    clear hr
    have hr0 : Rp (ρ0.ok true) w (.sl e τ) l [u] := hr9
    simp only [Rp] at hr0
    obtain ⟨A, c, e1, hle, hm, hd⟩ := hr0
    have e1 : u = .slice A l.length c := by simpa using e1
    subst e1
    refine calls_of_wp hf hb ?_
    let st0 : St := ⟨[.one (.emb e τ l true), .one .und, .one .und, .one .und, .one .und, .one .und, .one .und, .one .und], []⟩
    have h0 : Sim w.heap.size ⟨fun _ => False, ρ0.ok, ρ0.loc⟩ w ρ0 st0 { tmps := #[.slice A l.length c] ++ Array.replicate (fn.ntmps - 1) undef, defers := [] } w := by
      refine ⟨⟨(fun j b hj => by cases hj), (fun i j g hi => by cases hi), (fun j g hj => by cases hj), hokb, (fun b g hg j hj => by cases hj), hokm, fun b g hg => .inl hg, fun b g hg => hg, (fun j b d hj => by cases hj)⟩, by rw [hnt]; rfl, fun i v hi => ?_, fun i v d hi hd => ?_, rfl, Keeps.refl _ _ _, Nat.le_refl _, fun _ _ => rfl⟩
      · rw [hnt]
        match i, hi with
        | 0, hi => cases hi; exact ⟨_, rfl, hr9⟩
        | 1, hi => cases hi; exact ⟨_, rfl, trivial⟩
        | 2, hi => cases hi; exact ⟨_, rfl, trivial⟩
        | 3, hi => cases hi; exact ⟨_, rfl, trivial⟩
        | 4, hi => cases hi; exact ⟨_, rfl, trivial⟩
        | 5, hi => cases hi; exact ⟨_, rfl, trivial⟩
        | 6, hi => cases hi; exact ⟨_, rfl, trivial⟩
        | 7, hi => cases hi; exact ⟨_, rfl, trivial⟩
        | n + 8, hi => simp [st0] at hi
      · match i, hi with
        | 0, hi => cases hi; cases hd
        | 1, hi => cases hi; cases hd
        | 2, hi => cases hi; cases hd
        | 3, hi => cases hi; cases hd
        | 4, hi => cases hi; cases hd
        | 5, hi => cases hi; cases hd
        | 6, hi => cases hi; cases hd
        | 7, hi => cases hi; cases hd
        | n + 8, hi => simp [st0] at hi
    have hC : CallOk P (fun _ _ _ => none) := fun f args res out h => by cases h
    have hD : DrawOk P E (fun _ _ _ => none) (fun _ _ _ _ => false) := fun R r B O w0 w ρ st a id ops k Q h => by cases h
    have go := @vcode_sound P E w.heap.size ⟨fun _ => False, ρ0.ok, ρ0.loc⟩ w St
    refine wp_seq (vcode_sound (R := Ex × St) (r := (Ex.normal, ⟨[.one (.emb e τ l true), .one .und, .one .nil, .one .und, .one .und, .one .und, .one .und, .one .und], []⟩)) hE hC hD 0 (cloneA t) .none st0 ρ0 _ w (fun e st => some (e, st)) _ trivial h0 rfl fun ex ρ1 st1 a1 w1 hk h1 => ?_)
    cases hk
    show ((Code.seq _ _).wp P _ a1 w1)
    refine wp_seq (wp_seq (wp_region_list ?_))
    unfold wpList
    rw [if_pos (by rfl)]
    refine .inl (exec_sound (R := St) (r := ⟨[.one (.emb e τ l true), .one .und, .one .nil, .one (.emb e τ l true), .one .und, .one .und, .one .und, .one .und], []⟩) hE hC h1 (cloneM t) (k := some) rfl fun ρ2 st2 a2 w2 hk h2 => ?_)
    cases hk
    unfold wpList
    rw [if_pos (by rfl)]
    left
    obtain ⟨u3, hu3, hr3⟩ := h2.sl 3 _ rfl
    have hr3' : Rp (ρ2.ok true) w2 (.sl e τ) l [u3] := hr3
    simp only [Rp] at hr3'
    obtain ⟨A', c', e3, _, _, hd3⟩ := hr3'
    have e3 : u3 = .slice A' l.length c' := by simpa using e3
    subst e3
    have hev : a2.eval (.tmp 3) = .slice A' l.length c' := by
      simp only [Act.eval, Array.getD_eq_getD_getElem?, hu3, Option.getD_some]
    have hrun : (execOp a2.eval (cloneOp t tb "slices.go:357" "")).run P w2 = .ok (.value (.bool A'.isNone)) w2 := by
      unfold execOp cloneOp
      have hbin : (binOp .eql t (.slice A' l.length c') (.slice none 0 0)).run P w2 = .ok (.bool A'.isNone) w2 := by
        simp only [binOp]
        simp [Op.equal, Op.maxDepth, Lib.run_equalIn_slice_nil w2 9999 t e A' l.length c' 0 0 (slice_run (hE.ti _ _ ht))]
      have hev0 : a2.eval (.const (.slice none 0 0)) = .slice none 0 0 := rfl
      have hg : (eqGuard BinOp.eql t (Operand.tmp 3) (Operand.const (Value.slice none 0 0)) (Value.slice A' l.length c') (Value.slice none 0 0)).run P w2 = .ok () w2 := by
        unfold eqGuard
        simp
      simp [hev, hev0, Sem.run_bind, hbin, hg]
    unfold Oper.wp
    rw [hrun, Oper.upon_value]
    have h3 := h2.put (some 4) (v := .one (.bool A'.isNone)) (u := .bool A'.isNone) rfl (fun d hd => by cases hd)
    show Exit.then _ _ .normal _ w2
    have hcv : (a2.put (some 4) (.bool A'.isNone)).eval (.tmp 4) = .bool A'.isNone := by
      obtain ⟨u4, hu4, hr4⟩ := h3.sl 4 (.one (.bool A'.isNone)) rfl
      have hr4 : u4 = .bool A'.isNone := hr4
      subst hr4
      simp only [Act.eval, Array.getD_eq_getD_getElem?, hu4, Option.getD_some]
    have hres : fn.results.toList = [.tmp 2] := by rw [hrs]
    have fin : ∀ (ρ' : CEnv) (st' : St) (a' : Act) (w' : World) (l' : List τ.T) (b : Bool) (j : Nat), Sim w.heap.size ⟨fun _ => False, ρ0.ok, ρ0.loc⟩ w ρ' st' a' w' → vleave st'.sg [st'.sl.getD 2 (.one .und)] = some (.one (.sl 4096), [(4096, .arr e τ l' b)]) → l' = l →
        a'.defers = [] ∧ ∃ v, (results fn a'.tmps).run P w' = .ok v w' ∧ ∃ v_1 ρ', Ending.returned v = .returned v_1 ∧ rav ρ' w' (.one (.sl 4096)) v_1 ∧ Mem w.heap.size ⟨fun _ => False, ρ0.ok, ρ0.loc⟩ ρ' [(4096, .arr e τ l false)] w' ∧ (∀ d, (AV.one (.sl 4096)).uses d = true → (Sig.get d [(4096, Blk.arr e τ l false)]).isSome = true) ∧ Below w.heap.size w w' := by
      intro ρ' st' a' w' l' b j h' hl hll
      subst hll
      have hres' : resAll E st' fn.results.toList = some [st'.sl.getD 2 (.one .und)] := by rw [hres]; rfl
      obtain ⟨us, g1, g2, _⟩ := results_sound hE h' hres'
      obtain ⟨ρ9, g3, g4, g5⟩ := vleave_sound h'.mem g1 hl
      exact ⟨h'.defers, _, results_run g2, _, ρ9, rfl, g3, g4.row1 hfl, fun d hd => (by have := eq_of_beq hd; subst this; rfl), ⟨h'.fr.os, h'.fr.tape, h'.fr.output, h'.fr.size, fun k hk => h'.fr.block k hk (fun h => h)⟩⟩
    cases hA : A'.isNone with
    | true =>
      rw [hA] at hcv h3
      have hA' : A' = none := by cases A' with | none => rfl | some x => cases hA
      have hl : l = [] := by
        rcases Nat.eq_zero_or_pos l.length with hl | hl
        · exact List.eq_nil_of_length_eq_zero hl
        · obtain ⟨ad, hx, _⟩ := hd3 hl
          rw [hA'] at hx; cases hx
      refine wp_cond_true hcv ?_
      refine vcode_sound (R := Ex × St) (r := (Ex.ret, ⟨[.one (.emb e τ l true), .one .und, .one .nil, .one (.emb e τ l true), .one (.bool true), .one .und, .one .und, .one .und], []⟩)) hE hC hD 0 (cloneR t) .none _ ρ2 _ w2 (fun e st => some (e, st)) _ ⟨trivial, trivial⟩ h3 rfl fun ex ρ5 st5 a5 w5 hk h5 => ?_
      cases hk
      subst hl
      obtain ⟨u2, hu2, hr2⟩ := h5.sl 2 _ rfl
      have hr2 : u2 = .slice none 0 0 := hr2
      subst hr2
      obtain ⟨us, g1, g2, _⟩ := results_sound hE h5 (rs := fn.results.toList) (vs := [.one .nil]) (by rw [hres]; rfl)
      obtain ⟨ux, hux, hrx⟩ := g1.single
      subst hux
      have hrx : ux = .slice none 0 0 := hrx
      subst hrx
      refine ⟨h5.defers, _, results_run g2, _, ρ5.upd 4096 (.arr (.slice none 0 0) none τ.sz), rfl, ⟨none, τ.sz, CEnv.upd_same _ _ _⟩, ?_, fun d hd => ?_, ⟨h5.fr.os, h5.fr.tape, h5.fr.output, h5.fr.size, fun k hk => h5.fr.block k hk (fun h => h)⟩⟩
      · have hno : ∀ i g, ¬ Owns (ρ5.upd 4096 (.arr (.slice none 0 0) none τ.sz)) [(4096, Blk.arr e τ [] false)] i g := by
          intro i g ho
          obtain ⟨b, a1, a2, a3⟩ := owns_iff.1 ho
          simp only [Sig.get, bifs] at a1
          split at a1
          · rename_i hi
            have hi := eq_of_beq hi
            subst hi
            cases a1
            rcases a3 with ⟨_, _, a3, _⟩ | ⟨_, _, _, _, _, v, sz, a3⟩
            · cases a3
            · rw [CEnv.upd_same] at a3; cases a3
          · cases a1
        refine ⟨fun i b hi => ?_, fun i k g h1 => (hno i g h1).elim, fun i g h1 => (hno i g h1).elim, h5.mem.okb, fun q g hq i h1 => (hno i g h1).elim, h5.mem.okm, h5.mem.okx, h5.mem.oky, fun i b d hi hd => ?_⟩
        · simp only [Sig.get, bifs] at hi
          split at hi
          · rename_i hc
            have hc := eq_of_beq hc
            subst hc
            cases hi
            exact ⟨.slice none 0 0, none, [], CEnv.upd_same _ _ _, ⟨by simp, fun j p hp => by simp at hp⟩, rfl, none, rfl⟩
          · cases hi
        · simp only [Sig.get, bifs] at hi
          split at hi
          · cases hi; cases hd
          · cases hi
      · have := eq_of_beq hd
        subst this
        rfl
    | false =>
      rw [hA] at hcv h3
      refine wp_cond_false hcv (wp_skip ?_)
      have hcode : vcode E (fun _ _ _ => none) (fun _ _ _ _ => false) 0 (cloneB t) .none ⟨[.one (.emb e τ l true), .one .und, .one .nil, .one (.emb e τ l true), .one (.bool false), .one .und, .one .und, .one .und], []⟩ (fun e st => some (e, st)) =
          some (Ex.ret, ⟨[.one (.emb e τ l true), .one .und, .one (.sl 5), .one (.emb e τ l true), .one (.bool false), .one .und, .one (.emb e τ l true), .one (.sl 5)], [(5, .arr e τ ([] ++ l) (false || (true && !τ.flat)))]⟩) := by
        have hin : (l.length * by_ ≤ 140737488351232) := hc
        have e1 : Nat.blt 5 4294967296 = true := rfl
        have e2 : Nat.ble 0 16777216 = true := rfl
        have e3 : (by_ != 0) = true := by simpa using hby
        simp [cloneB, LT.l, LT.r, e1, e2, e3, vcode, vguard, exec, settleParts, ht, he, Sig.free, Sig.get, readElems, evalO, vappend, rowOf, target, St.loosen, Sig.put, Sig.strike, St.put, qop, AV.strike, Cell.strike, Blk.strike, hc, hby, PIN]
      refine vcode_sound (R := Ex × St) (r := _) hE hC hD 0 (cloneB t) .none _ ρ2 _ w2 (fun e st => some (e, st)) _ ⟨trivial, trivial⟩ h3 hcode fun ex ρ5 st5 a5 w5 hk h5 => ?_
      cases hk
      exact fin ρ5 _ a5 w5 ([] ++ l) (false || (true && !τ.flat)) 5 h5 rfl (List.nil_append l)
  · rw [decide_eq_false hc] at hv
    cases hv
end
end Go.Proofs.Ytfbokamlkecibaa.Lib

/- Iterations that map a row, compare two rows, count down a budget. No condition. -/
namespace Go.Proofs.Ytfbokamlkecibaa.Lib
open Go Go.RowKit
set_option linter.unusedVariables false
theorem wrap_in {n : Int} (h0 : -9223372036854775808 ≤ n) (h1 : n ≤ 9223372036854775807) : IntKind.wrap .i64 n = n := by
  simp only [IntKind.wrap, IntKind.bits, IntKind.signed, Bool.true_and]
  split
  · rename_i h
    simp only [decide_eq_true_eq, ge_iff_le] at h
    omega
  · rename_i h
    simp only [decide_eq_true_eq, ge_iff_le] at h
    omega
theorem wrap_nat {n : Nat} (h1 : (n : Int) + 1 ≤ 9223372036854775807) : IntKind.wrap .i64 ((n : Int) + 1) = ((n + 1 : Nat) : Int) := by
  rw [wrap_in (by omega) h1]; rfl
theorem pair_eta {α β : Type} (p : α × β) : (p.1, p.2) = p := rfl
theorem optC_some {α R : Type} (x : α) (f : α → Option R) : optC (some x) f = f x := rfl
/-- No row in it is long. -/
def Ty.short : (t : Ty) → t.T → Prop
  | .sl _ t, l => l.length ≤ 1048576 ∧ ∀ x, x ∈ l → t.short x
  | .pair a b, p => a.short p.1 ∧ b.short p.2
  | _, _ => True
section
variable {V X Y : Type}
theorem map_iter {s : V → Option (Nat × V)} {mk : Int → List Y → V} {xs : List X} {conv : X → Y}
    (h1 : ∀ (i : Nat) (out : List Y) (x : X), xs[i]? = some x → out.length = xs.length → s (mk (i : Int) out) = some (0, mk ((i + 1 : Nat) : Int) (out.set i (conv x))))
    (h2 : ∀ out : List Y, out.length = xs.length → s (mk (xs.length : Int) out) = some (1, mk (xs.length : Int) out)) :
    ∀ (k i : Nat) (out : List Y) (n : Nat), i + k = xs.length → out.length = xs.length → k < n → iter s n (mk (i : Int) out) = some (0, mk (xs.length : Int) (out.take i ++ (xs.drop i).map conv))
  | 0, i, out, n, hk, hl, hn => by
    obtain ⟨m, rfl⟩ : ∃ m, n = m + 1 := ⟨n - 1, by omega⟩
    have hi : i = xs.length := by omega
    subst hi
    rw [iter, h2 out hl]
    show some (0, mk (xs.length : Int) out) = _
    rw [List.drop_eq_nil_of_le (Nat.le_refl _), ← hl, List.take_length]
    simp
  | k + 1, i, out, n, hk, hl, hn => by
    obtain ⟨m, rfl⟩ : ∃ m, n = m + 1 := ⟨n - 1, by omega⟩
    have hi : i < xs.length := by omega
    rw [iter, h1 i out xs[i] (List.getElem?_eq_getElem hi) hl]
    show iter s m (mk ((i + 1 : Nat) : Int) (out.set i (conv xs[i]))) = _
    rw [map_iter h1 h2 k (i + 1) _ m (by omega) (by simp [hl]) (by omega)]
    have e1 : (out.set i (conv xs[i])).take (i + 1) = out.take i ++ [conv xs[i]] := by
      rw [List.take_add_one, List.take_set_of_le (Nat.le_refl i), List.getElem?_set_self (by omega)]; rfl
    rw [e1, List.append_assoc, List.drop_eq_getElem_cons hi]
    rfl
/-- Two rows are gone through side by side as long as the tests say so. -/
theorem all_iter {s : V → Option (Nat × V)} {mk : Int → V} {c : Nat} {N : Nat}
    (h1 : ∀ i : Nat, i < N → s (mk (i : Int)) = some (0, mk ((i + 1 : Nat) : Int)))
    (h2 : s (mk (N : Int)) = some (c + 1, mk (N : Int))) :
    ∀ (k i : Nat) (n : Nat), i + k = N → k < n → iter s n (mk (i : Int)) = some (c, mk (N : Int))
  | 0, i, n, hk, hn => by
    obtain ⟨m, rfl⟩ : ∃ m, n = m + 1 := ⟨n - 1, by omega⟩
    have hi : i = N := by omega
    subst hi
    rw [iter, h2]
    rfl
  | k + 1, i, n, hk, hn => by
    obtain ⟨m, rfl⟩ : ∃ m, n = m + 1 := ⟨n - 1, by omega⟩
    rw [iter, h1 i (by omega)]
    exact all_iter h1 h2 k (i + 1) m (by omega) (by omega)
/-- A row is folded. -/
theorem fold_iter {A : Type} {s : V → Option (Nat × V)} {mk : A → Int → V} {xs : List X} {f : A → X → A} {Inv : Nat → A → Prop}
    (h1 : ∀ (i : Nat) (x : X) (a : A), xs[i]? = some x → Inv i a → s (mk a (i : Int)) = some (0, mk (f a x) ((i + 1 : Nat) : Int)) ∧ Inv (i + 1) (f a x))
    (h2 : ∀ a, s (mk a (xs.length : Int)) = some (1, mk a (xs.length : Int))) :
    ∀ (k i : Nat) (a : A) (n : Nat), i + k = xs.length → k < n → Inv i a → iter s n (mk a (i : Int)) = some (0, mk ((xs.drop i).foldl f a) (xs.length : Int))
  | 0, i, a, n, hk, hn, hI => by
    obtain ⟨m, rfl⟩ : ∃ m, n = m + 1 := ⟨n - 1, by omega⟩
    have hi : i = xs.length := by omega
    subst hi
    rw [iter, h2 a, List.drop_eq_nil_of_le (Nat.le_refl _)]
    rfl
  | k + 1, i, a, n, hk, hn, hI => by
    obtain ⟨m, rfl⟩ : ∃ m, n = m + 1 := ⟨n - 1, by omega⟩
    have hi : i < xs.length := by omega
    obtain ⟨h3, h4⟩ := h1 i xs[i] a (List.getElem?_eq_getElem hi) hI
    rw [iter, h3, List.drop_eq_getElem_cons hi]
    exact fold_iter h1 h2 k (i + 1) (f a xs[i]) m (by omega) (by omega) h4
/-- A budget is counted down over a row. -/
theorem sz_iter {s : V → Option (Nat × V)} {mk : Int → Int → Int → V} {xs : List X} {g : X → Int → Int} {S : X → Prop} {B : Int}
    (hg : ∀ x ∈ xs, ∀ n, 0 ≤ n → n ≤ B → g x n ≤ n ∧ (0 ≤ g x n → S x))
    (h1 : ∀ (i : Nat) (x : X) (n r : Int), 0 ≤ n → n ≤ B → xs[i]? = some x → s (mk n r (i : Int)) = if g x n < 0 then some (1, mk (g x n) (-1) (i : Int)) else some (0, mk (g x n) r ((i + 1 : Nat) : Int)))
    (h2 : ∀ n r, s (mk n r (xs.length : Int)) = some (2, mk n r (xs.length : Int))) :
    ∀ (k i : Nat) (n r : Int) (m : Nat), i + k = xs.length → k < m → 0 ≤ n → n ≤ B →
      (∃ n' i', iter s m (mk n r (i : Int)) = some (0, mk n' (-1) i')) ∨ (∃ n', iter s m (mk n r (i : Int)) = some (1, mk n' r (xs.length : Int)) ∧ 0 ≤ n' ∧ n' ≤ n ∧ ∀ (j : Nat) (x : X), i ≤ j → xs[j]? = some x → S x)
  | 0, i, n, r, m, hk, hm, h0, hB => by
    obtain ⟨m, rfl⟩ : ∃ q, m = q + 1 := ⟨m - 1, by omega⟩
    have hi : i = xs.length := by omega
    subst hi
    refine .inr ⟨n, by rw [iter, h2]; rfl, h0, Int.le_refl _, fun j x hj hx => ?_⟩
    have := (List.getElem?_eq_some_iff.1 hx).1
    omega
  | k + 1, i, n, r, m, hk, hm, h0, hB => by
    obtain ⟨m, rfl⟩ : ∃ q, m = q + 1 := ⟨m - 1, by omega⟩
    have hi : i < xs.length := by omega
    have hx := List.getElem?_eq_getElem hi
    obtain ⟨g1, g2⟩ := hg xs[i] (List.getElem_mem hi) n h0 hB
    have h3 := h1 i xs[i] n r h0 hB hx
    by_cases hn : g xs[i] n < 0
    · rw [if_pos hn] at h3
      exact .inl ⟨_, _, by rw [iter, h3]; rfl⟩
    · rw [if_neg hn] at h3
      have e : iter s (m + 1) (mk n r (i : Int)) = iter s m (mk (g xs[i] n) r ((i + 1 : Nat) : Int)) := by rw [iter, h3]; rfl
      rw [e]
      rcases sz_iter hg h1 h2 k (i + 1) (g xs[i] n) r m (by omega) (by omega) (by omega) (by omega) with h | ⟨n', h4, h5, h6, h7⟩
      · exact .inl h
      · refine .inr ⟨n', h4, h5, by omega, fun j x hj hxj => ?_⟩
        by_cases hji : j = i
        · subst hji
          rw [hx] at hxj
          cases hxj
          exact g2 (by omega)
        · exact h7 j x (by omega) hxj
theorem at_of {s : V → Option (Nat × V)} {n : Nat} {v v' : V} {c : Nat} (h : iter s n v = some (c, v')) (d : Nat) : iterAt s n v d = (c == d) := by unfold iterAt; rw [h]
theorem val_of {s : V → Option (Nat × V)} {n : Nat} {v v' : V} {c : Nat} (h : iter s n v = some (c, v')) : iterV s n v = v' := by unfold iterV; rw [h]
/-- The first of k numbers from i on at which p holds. -/
def first (p : Nat → Bool) : Nat → Nat → Option Nat
  | _, 0 => none
  | i, k + 1 => bif p i then some i else first p (i + 1) k
theorem first_none {p : Nat → Bool} : ∀ {k i : Nat}, first p i k = none → ∀ j, i ≤ j → j < i + k → p j = false
  | 0, i, _, j, h1, h2 => by omega
  | k + 1, i, h, j, h1, h2 => by
    simp only [first] at h
    cases hp : p i with
    | true => rw [hp] at h; cases h
    | false =>
      rw [hp] at h
      by_cases hj : j = i
      · subst hj; exact hp
      · exact first_none (k := k) (i := i + 1) h j (by omega) (by omega)
theorem first_some {p : Nat → Bool} : ∀ {k i j : Nat}, first p i k = some j → i ≤ j ∧ j < i + k ∧ p j = true
  | 0, i, j, h => by cases h
  | k + 1, i, j, h => by
    simp only [first] at h
    cases hp : p i with
    | true => rw [hp] at h; cases h; exact ⟨by omega, by omega, hp⟩
    | false =>
      rw [hp] at h
      obtain ⟨h1, h2, h3⟩ := first_some (k := k) (i := i + 1) h
      exact ⟨by omega, by omega, h3⟩
/-- A search: the first number at which p holds ends it. -/
theorem find_iter {s : V → Option (Nat × V)} {mk : Int → V} {fin : Nat → V} {p : Nat → Bool} {N : Nat}
    (h1 : ∀ i : Nat, i < N → s (mk (i : Int)) = bif p i then some (1, fin i) else some (0, mk ((i + 1 : Nat) : Int)))
    (h2 : s (mk (N : Int)) = some (2, mk (N : Int))) :
    ∀ (k i : Nat) (n : Nat), i + k = N → k < n → iter s n (mk (i : Int)) = some (match first p i k with | some j => (0, fin j) | none => (1, mk (N : Int)))
  | 0, i, n, hk, hn => by
    obtain ⟨m, rfl⟩ : ∃ m, n = m + 1 := ⟨n - 1, by omega⟩
    have hi : i = N := by omega
    subst hi
    rw [iter, h2]
    rfl
  | k + 1, i, n, hk, hn => by
    obtain ⟨m, rfl⟩ : ∃ m, n = m + 1 := ⟨n - 1, by omega⟩
    rw [iter, h1 i (by omega)]
    simp only [first]
    cases hp : p i with
    | true => rfl
    | false => exact find_iter h1 h2 k (i + 1) m (by omega) (by omega)
/-- Do two lists agree at all places? -/
theorem first_lists {q : X → X → Bool} [DecidableEq X] (hq : ∀ x y, q x y = !decide (x = y)) {xs ys : List X} (hl : xs.length = ys.length) {p : Nat → Bool} (hp : ∀ (i : Nat) (x y : X), xs[i]? = some x → ys[i]? = some y → p i = q x y) : (first p 0 xs.length).isNone = decide (xs = ys) := by
  cases h : first p 0 xs.length with
  | none =>
    have h0 := first_none h
    have : xs = ys := by
      apply List.ext_getElem hl
      intro i h1 h2
      have := hp i xs[i] ys[i] (List.getElem?_eq_getElem h1) (List.getElem?_eq_getElem h2)
      rw [h0 i (Nat.zero_le _) (by omega), hq] at this
      simpa using this.symm
    simp [this]
  | some j =>
    obtain ⟨h1, h2, h3⟩ := first_some h
    have hj : j < xs.length := by omega
    have := hp j xs[j] ys[j] (List.getElem?_eq_getElem hj) (List.getElem?_eq_getElem (hl ▸ hj))
    rw [h3, hq] at this
    have hne : xs ≠ ys := by
      rintro rfl
      simp at this
    simp [hne]
theorem first_any {p : X → Bool} {xs : List X} {q : Nat → Bool} (hq : ∀ (i : Nat) (x : X), xs[i]? = some x → q i = p x) : (first q 0 xs.length).isSome = xs.any p := by
  cases h : first q 0 xs.length with
  | none =>
    have h0 := first_none h
    symm
    rw [Option.isSome_none, List.any_eq_false]
    intro x hx
    obtain ⟨i, hi⟩ := List.getElem?_of_mem hx
    have hlt := (List.getElem?_eq_some_iff.1 hi).1
    rw [← hq i x hi, h0 i (Nat.zero_le _) (by omega)]
    simp
  | some j =>
    obtain ⟨h1, h2, h3⟩ := first_some h
    have hj : j < xs.length := by omega
    symm
    rw [Option.isSome_some, List.any_eq_true]
    exact ⟨xs[j], List.getElem_mem hj, by rw [← hq j _ (List.getElem?_eq_getElem hj)]; exact h3⟩
/-- A loop through all of it, with an invariant. -/
theorem march_iter {A : Type} {s : V → Option (Nat × V)} {mk : A → Int → V} {N c : Nat} {Inv : Nat → A → Prop}
    (h1 : ∀ (i : Nat) (a : A), i < N → Inv i a → ∃ a', s (mk a (i : Int)) = some (0, mk a' ((i + 1 : Nat) : Int)) ∧ Inv (i + 1) a')
    (h2 : ∀ a, Inv N a → s (mk a (N : Int)) = some (c + 1, mk a (N : Int))) :
    ∀ (k i : Nat) (a : A) (n : Nat), i + k = N → k < n → Inv i a → ∃ a', iter s n (mk a (i : Int)) = some (c, mk a' (N : Int)) ∧ Inv N a'
  | 0, i, a, n, hk, hn, hI => by
    obtain ⟨m, rfl⟩ : ∃ m, n = m + 1 := ⟨n - 1, by omega⟩
    have hi : i = N := by omega
    subst hi
    exact ⟨a, by rw [iter, h2 a hI]; rfl, hI⟩
  | k + 1, i, a, n, hk, hn, hI => by
    obtain ⟨m, rfl⟩ : ∃ m, n = m + 1 := ⟨n - 1, by omega⟩
    obtain ⟨a', h3, h4⟩ := h1 i a (by omega) hI
    rw [iter, h3]
    exact march_iter h1 h2 k (i + 1) a' m (by omega) (by omega) h4
/-- What marks leave in a row of numbers. -/
def ramp (k : Int) (n : Nat) : List Int := (List.range n).map fun (j : Nat) => k + (j : Int)
theorem ramp_length (k : Int) (n : Nat) : (ramp k n).length = n := by simp [ramp]
theorem ramp_get (k : Int) (n i : Nat) (h : i < n) : (ramp k n)[i]? = some (k + (i : Int)) := by simp [ramp, h]
theorem ramp_set (k : Int) (l : List Int) (i : Nat) (h : i < l.length) : (ramp k i ++ l.drop i).set i (k + (i : Int)) = ramp k (i + 1) ++ l.drop (i + 1) := by
  have e : ramp k (i + 1) = ramp k i ++ [k + (i : Int)] := by simp [ramp, List.range_succ]
  rw [e, List.drop_eq_getElem_cons h, List.set_append_right _ _ (by rw [ramp_length]; exact Nat.le_refl _), ramp_length, Nat.sub_self, List.append_assoc]
  rfl
end
end Go.Proofs.Ytfbokamlkecibaa.Lib

/- What comes out of a tree of tests, if something does; rows that are not long. No condition. -/
namespace Go.Proofs.Ytfbokamlkecibaa.Lib
open Go Go.RowKit
set_option linter.unusedVariables false
def Sat {α : Type} (o : Option α) (P : α → Prop) : Prop := ∃ r, o = some r ∧ P r
section
variable {α β V : Type} {P Q : α → Prop}
theorem Sat_some {a : α} : Sat (some a) P = P a := propext ⟨fun ⟨r, h1, h2⟩ => by cases h1; exact h2, fun h => ⟨a, rfl, h⟩⟩
theorem Sat_none : Sat (none : Option α) P = False := propext ⟨fun ⟨r, h1, h2⟩ => (by cases h1), False.elim⟩
theorem Sat_cond {b : Bool} {x y : Option α} : Sat (cond b x y) P = ((b = true → Sat x P) ∧ (b = false → Sat y P)) := by
  cases b <;> simp
theorem Sat_ite {p : Prop} [Decidable p] {x : Option α} : Sat (if p then x else none) P = (p ∧ Sat x P) := by
  by_cases h : p <;> simp [h, Sat_none]
theorem Sat_ifz {p : Prop} [Decidable p] {x : Option α} : Sat (if p then none else x) P = (¬p ∧ Sat x P) := by
  by_cases h : p <;> simp [h, Sat_none]
theorem Sat_opt {o : Option β} {f : β → Option α} : Sat (optC o f) P = ∃ b, o = some b ∧ Sat (f b) P := by
  cases o with
  | none => exact propext ⟨fun ⟨r, h1, h2⟩ => (by cases h1), fun ⟨b, h1, h2⟩ => (by cases h1)⟩
  | some x => exact propext ⟨fun h => ⟨x, rfl, h⟩, fun ⟨b, h1, h2⟩ => by cases h1; exact h2⟩
theorem Sat.d {o : Option α} (h : Sat o P) : o.isSome = true := by obtain ⟨r, rfl, _⟩ := h; rfl
theorem Sat.v {o : Option α} {z : α} (h : Sat o P) : P (o.getD z) := by obtain ⟨r, rfl, h⟩ := h; exact h
theorem Sat.mono {o : Option α} (h : Sat o P) (hq : ∀ r, P r → Q r) : Sat o Q := by obtain ⟨r, rfl, h⟩ := h; exact ⟨r, rfl, hq r h⟩
theorem cond_P {b : Bool} {x y : α} (h1 : b = true → P x) (h2 : b = false → P y) : P (cond b x y) := by cases b; exact h2 rfl; exact h1 rfl
theorem getE {l : List β} {i : Int} (h0 : 0 ≤ i) (h1 : i < (l.length : Int)) : ∃ b, l[i.toNat]? = some b ∧ b ∈ l := ⟨l[i.toNat]'(by omega), List.getElem?_eq_getElem _, List.getElem_mem _⟩
theorem run_iter {s : V → Option (Nat × V)} {Q : V → Prop} (Inv : Nat → V → Prop) (h : ∀ k v, Inv k v → (∃ v', s v = some (1, v') ∧ Q v') ∨ (∃ k' v', k = k' + 1 ∧ s v = some (0, v') ∧ Inv k' v')) : ∀ (k : Nat) (v : V) (n : Nat), Inv k v → k < n → ∃ v', iter s n v = some (0, v') ∧ Q v'
  | k, v, 0, _, hn => by omega
  | k, v, n + 1, hI, hn => by
    rcases h k v hI with ⟨v', h1, h2⟩ | ⟨k', v', rfl, h1, h2⟩
    · exact ⟨v', by simp [iter, h1], h2⟩
    · obtain ⟨v2, h3, h4⟩ := run_iter Inv h k' v' n h2 (by omega)
      exact ⟨v2, by simp [iter, h1, h3], h4⟩
/-- A loop by its step: either it ends, or it goes on at less. -/
theorem run_sat {s : V → Option (Nat × V)} {Q : V → Prop} (Inv : Nat → V → Prop) (h : ∀ k v, Inv k v → Sat (s v) fun r => (r.1 = 1 ∧ Q r.2) ∨ (r.1 = 0 ∧ ∃ k', k = k' + 1 ∧ Inv k' r.2)) (k : Nat) (v : V) (n : Nat) (hI : Inv k v) (hn : k < n) : (iterAt s n v 0 = true ∧ ∀ c, iterAt s n v (c + 1) = false) ∧ Q (iterV s n v) := by
  obtain ⟨v', h1, h2⟩ := run_iter (s := s) (Q := Q) Inv (fun k v hI => by
    obtain ⟨⟨c, v'⟩, h1, h2⟩ := h k v hI
    rcases h2 with ⟨rfl, h2⟩ | ⟨rfl, k', h3, h4⟩
    · exact .inl ⟨v', h1, h2⟩
    · exact .inr ⟨k', v', h3, h1, h4⟩) k v n hI hn
  exact ⟨⟨at_of h1 0, fun c => at_of h1 _⟩, by rw [val_of h1]; exact h2⟩
end
/-- No row in it has more than B places. -/
def Ty.few (B : Nat) : (t : Ty) → t.T → Prop
  | .sl _ t, l => l.length ≤ B ∧ ∀ x, x ∈ l → t.few B x
  | .pair a b, p => a.few B p.1 ∧ b.few B p.2
  | _, _ => True
theorem few_mono {B C : Nat} (hB : B ≤ C) : ∀ (t : Ty) (x : t.T), t.few B x → t.few C x
  | .sl _ t, l, h => ⟨Nat.le_trans h.1 hB, fun x hx => few_mono hB t x (h.2 x hx)⟩
  | .pair a b, p, h => ⟨few_mono hB a p.1 h.1, few_mono hB b p.2 h.2⟩
  | .int _, _, _ => trivial
  | .bool, _, _ => trivial
  | .str, _, _ => trivial
  | .nul _, _, _ => trivial
theorem few_short {B : Nat} (hB : B ≤ 1048576) : ∀ (t : Ty) (x : t.T), t.few B x → t.short x
  | .sl _ t, l, h => ⟨Nat.le_trans h.1 hB, fun x hx => few_short hB t x (h.2 x hx)⟩
  | .pair a b, p, h => ⟨few_short hB a p.1 h.1, few_short hB b p.2 h.2⟩
  | .int _, _, _ => trivial
  | .bool, _, _ => trivial
  | .str, _, _ => trivial
  | .nul _, _, _ => trivial
def Ty.nosl : Ty → Bool
  | .sl _ _ => false | .pair a b => a.nosl && b.nosl | _ => true
theorem few_nosl {B : Nat} : ∀ (t : Ty), t.nosl = true → ∀ x : t.T, t.few B x
  | .sl _ _, h, _ => by cases h
  | .pair a b, h, p => ⟨few_nosl a (Bool.and_eq_true _ _ ▸ h : a.nosl = true ∧ b.nosl = true).1 p.1, few_nosl b (Bool.and_eq_true _ _ ▸ h : a.nosl = true ∧ b.nosl = true).2 p.2⟩
  | .int _, _, _ => trivial
  | .bool, _, _ => trivial
  | .str, _, _ => trivial
  | .nul _, _, _ => trivial
theorem few_row {B e : Nat} {t : Ty} (ht : t.nosl = true) {l : List t.T} (h : l.length ≤ B) : Ty.few B (.sl e t) l := ⟨h, fun x _ => few_nosl t ht x⟩
theorem few_sl {B : Nat} {e : Nat} {t : Ty} {l : List t.T} : Ty.few B (.sl e t) l = (l.length ≤ B ∧ ∀ x, x ∈ l → t.few B x) := propext ⟨fun h => h, fun h => h⟩
theorem few_nil {B e : Nat} {t : Ty} {l : List t.T} (h : l = []) : Ty.few B (.sl e t) l = True := propext ⟨fun _ => trivial, fun _ => by subst h; exact ⟨Nat.zero_le _, fun _ h => absurd h List.not_mem_nil⟩⟩
theorem few_app {B C D e : Nat} {t : Ty} {l m : List t.T} (h : Ty.few B (.sl e t) l) (hB : B ≤ D) (hm : ∀ x, x ∈ m → t.few D x) (hl : m.length ≤ C) (hD : B + C ≤ D) : Ty.few D (.sl e t) (l ++ m) := ⟨by rw [List.length_append]; have := h.1; omega, fun x hx => (List.mem_append.1 hx).elim (fun hx => few_mono hB t x (h.2 x hx)) (hm x)⟩
theorem few_set {B D e i : Nat} {t : Ty} {l : List t.T} {x : t.T} (h : Ty.few B (.sl e t) l) (hB : B ≤ D) (hx : t.few D x) : Ty.few D (.sl e t) (l.set i x) := ⟨by rw [List.length_set]; exact Nat.le_trans h.1 hB, fun y hy => (List.mem_or_eq_of_mem_set hy).elim (fun hy => few_mono hB t y (h.2 y hy)) (fun hy => hy ▸ hx)⟩
theorem fit_app {B C e k N : Nat} {t : Ty} {l m : List t.T} (h : Ty.few B (.sl e t) l) (hl : m.length ≤ C) (hN : (B + C) * k ≤ N) : (l ++ m).length * k ≤ N := Nat.le_trans (Nat.mul_le_mul_right k (by rw [List.length_append]; have := h.1; omega)) hN
theorem few_pair {B : Nat} {a b : Ty} {p : (Ty.pair a b).T} : Ty.few B (.pair a b) p = (a.few B p.1 ∧ b.few B p.2) := propext ⟨fun h => h, fun h => h⟩
theorem few_int {B : Nat} {k : IntKind} {x : (Ty.int k).T} : Ty.few B (.int k) x = True := propext ⟨fun _ => trivial, fun _ => trivial⟩
theorem few_bool {B : Nat} {x : Ty.bool.T} : Ty.few B .bool x = True := propext ⟨fun _ => trivial, fun _ => trivial⟩
theorem few_str {B : Nat} {x : Ty.str.T} : Ty.few B .str x = True := propext ⟨fun _ => trivial, fun _ => trivial⟩
theorem few_nul {B : Nat} {b : Bool} {x : (Ty.nul b).T} : Ty.few B (.nul b) x = True := propext ⟨fun _ => trivial, fun _ => trivial⟩
end Go.Proofs.Ytfbokamlkecibaa.Lib

