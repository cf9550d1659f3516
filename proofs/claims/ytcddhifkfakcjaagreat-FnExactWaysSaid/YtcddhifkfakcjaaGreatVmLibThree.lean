/- An interpreter DQ plain values for translated functions, and that it says what the model does (calls, statements, loops, arguments). No condition. -/
import Derived.Test.YtcddhifkfakcjaaGreatVmLibTwo
import Derived.StillTail
import Derived.WalkKit
import Derived.ProofKit
import Derived.OpenShut
import Derived.ShutString
import Derived.ChangeOld
import Derived.Below
import Derived.Shelf.Vars
import Derived.SizedLaws
import Derived.WalkSpells
import Derived.KernelRfl
namespace Go.Proofs.YtcddhifkfakcjaaGreat.Lib
open Go Go.RowKit
set_option linter.unusedVariables false
set_option linter.unusedSimpArgs false
section
variable {P : Program} {E : Env} {B : Nat} {O : Ow} {w0 w w' : World} {ρ ρ' : al} {a : Act} {R : Type} {r : R} {sg sg' : Sig} {st : St} {call : aJ}
theorem mT {t : Nat} {v : AV} (h : st.sl[t]? = some v) : st.put (some t) v = st := by
 obtain ⟨sl,sg⟩ := st
 simp only [St.put,St.mk.injEq,and_true]
 apply List.ext_getElem?
 intro i
 rw [List.getElem?_set]
 split
 ·rename_i hi
  subst hi
  split
  ·exact h.symm
  ·rename_i hn
   have := (List.getElem?_eq_some_iff.1 h).1
   exact absurd this hn
 ·rfl
theorem fo (hE : Env.Ok P E) (hC : cJ P call) {ops : Array Oper} {k : St -> Option R} {Q : Exit -> Act -> World -> Prop}
  (hnext : ∀ ρ' st' a' w',k st' = some r -> Sim P B O w0 ρ' st' a' w' -> Q .normal a' w') : ∀ (l : List Oper) (st : St) (ρ : al) (a : Act) (w : World),Sim P B O w0 ρ st a w -> aW E call ops.toList l st k = some r -> wpList P ops Q l a w
 | [],st,ρ,a,w,h,hk => hnext ρ st a w hk h
 | o :: l,st,ρ,a,w,h,hk => by
  have run : ∀ (st : St),Sim P B O w0 ρ st a w -> exec E call o st (fun st => aW E call ops.toList l st k) = some r -> Region.wanted o (yielded ops a.tmps) = true -> wpList P ops Q (o :: l) a w := by
   intro st h hk hw
   unfold wpList
   rw [if_pos hw]
   exact .inl (fZ hE hC h o hk fun ρ' st' a' w' hk' h' => fo hE hC hnext l st' ρ' a' w' h' hk')
  have skip : ∀ (st : St),Sim P B O w0 ρ st a w -> aW E call ops.toList l (st.put o.dst (.tup [])) k = some r -> Region.wanted o (yielded ops a.tmps) = false -> wpList P ops Q (o :: l) a w := by
   intro st h hk hw
   unfold wpList
   rw [if_neg (by rw [hw]; simp)]
   exact fo hE hC hnext l _ ρ _ w (h.put o.dst (v := .tup []) (u := undef) ⟨[],rfl,.nil⟩ (fun d hd => by cases hd)) hk
  simp only [aW] at hk
  split at hk
  ·rename_i hg
   exact run st h hk (by simp [Region.wanted,hg])
  ·rename_i j want hg
   split at hk
   ·rename_i t ht
    split at hk
    ·rename_i v hv
     obtain ⟨u,hu,hr⟩ := h.sl t _ hv
     have hr : u = .bool v := hr
     subst hr
     have ht' : (ops[j]?).bind (·.dst) = some t := by rw [← Array.getElem?_toList]; exact ht
     have hy : yielded ops a.tmps j = some v := by
      unfold yielded
      rw [ht']
      simp [hu]
     have hw : Region.wanted o (yielded ops a.tmps) = (v == want) := by
      unfold Region.wanted
      rw [hg]
      simp only [hy]
      cases v <;> cases want <;> rfl
     cases v with
     | true =>
      simp only [mT hv,aq] at hk
      split at hk
      ·rename_i h1; subst h1; exact run st h hk (by rw [hw]; rfl)
      ·rename_i h1; have : want = false := by simpa using h1
       subst this; exact skip st h hk (by rw [hw]; rfl)
     | false =>
      simp only [mT hv,aq] at hk
      split at hk
      ·rename_i h1; subst h1; exact skip st h hk (by rw [hw]; rfl)
      ·rename_i h1; have : want = false := by simpa using h1
       subst this; exact run st h hk (by rw [hw]; rfl)
    ·rename_i hv
     obtain ⟨u,hu,hr⟩ := h.sl t _ hv
     obtain ⟨us,rfl,hus⟩ := hr
     have ht' : (ops[j]?).bind (·.dst) = some t := by rw [← Array.getElem?_toList]; exact ht
     have hy : yielded ops a.tmps j = none := by
      unfold yielded
      rw [ht']
      simp [hu]
     have hw : Region.wanted o (yielded ops a.tmps) = false := by
      unfold Region.wanted
      rw [hg]
      simp only [hy]
      rfl
     exact skip st h hk hw
    ·cases hk
   ·cases hk
theorem Sig.Ix (p : Nat -> Bool) (sg : Sig) (keep : List Nat) (i : Nat) : (sg.only p keep).get i = if (!keep.contains i) = true then none else (sg.get i).map (·.aT p) := by
 induction keep with
 | nil => rfl
 | cons j r ih =>
  simp only [Sig.only]
  by_cases he : j = i
  ·subst he
   have hc : (!(j :: r).contains j) = false := by simp
   rw [hc]
   cases hb : sg.get j with
   | some b => simp [Sig.get]
   | none =>
    rw [ih,hb]
    simp
  ·have hc : (!(j :: r).contains i) = !r.contains i := by
    rw [List.contains_cons]
    have : (i == j) = false := beq_eq_false_iff_ne.2 (Ne.symm he)
    rw [this,Bool.false_or]
   rw [hc]
   cases hb : sg.get j with
   | some b => simp only [Sig.get,beq_eq_false_iff_ne.2 he,cond_false]; exact ih
   | none => exact ih
theorem Sim.pY (h : Sim P B O w0 ρ st a w) {m : List Bool} (hm : m.length = st.sl.length) (keep : List Nat) : Sim P B O w0 ρ (st.pY m keep) a w := by
 have hget : ∀ i,(st.pY m keep).sg.get i = if (!keep.contains i) = true then none else (st.sg.get i).map (·.aT fun j => !keep.contains j) := fun i => Sig.Ix _ _ _ _
 have hsl : ∀ (i : Nat) (v : AV),(st.pY m keep).sl[i]? = some v -> ∃ v0,st.sl[i]? = some v0 /\ (v = .one .und ∨ v = v0.aT fun j => !keep.contains j) := by
  intro i v hi
  simp only [St.pY,List.getElem?_zipWith] at hi
  split at hi
  ·rename_i b v0 hb hv0
   cases hi
   exact ⟨v0,hv0,by cases b <;> simp⟩
  ·cases hi
 refine ⟨h.mem.aT (p := fun j => !keep.contains j) (fun i b' hi => ?_) (fun d hd hp => ?_),by simp [St.pY,h.len,hm],fun i v hi => ?_,fun i v d hi hd => ?_,h.defers,h.fr,h.base,h.pin,h.glo⟩
 ·rw [hget] at hi
  split at hi
  ·cases hi
  ·rw [Option.map_eq_some_iff] at hi
   obtain ⟨b,h1,h2⟩ := hi
   exact ⟨b,h1,h2.symm⟩
 ·rw [hget,if_neg (by simpa using hp),Option.isSome_map]; exact hd
 ·obtain ⟨v0,h1,h2⟩ := hsl i v hi
  obtain ⟨u,h3,h4⟩ := h.sl i v0 h1
  rcases h2 with rfl | rfl
  ·exact ⟨u,h3,trivial⟩
  ·exact ⟨u,h3,lJ h4⟩
 ·obtain ⟨v0,h1,h2⟩ := hsl i v hi
  rcases h2 with rfl | rfl
  ·cases hd
  ·obtain ⟨h3,h4⟩ := ey hd
   rw [hget,if_neg (by simpa using h4),Option.isSome_map]
   exact h.dom i v0 d h1 h3
theorem Sim.dead (h : Sim P B O w0 ρ st a w) {m : List Bool} (hm : m.length = st.sl.length) : Sim P B O w0 ρ (st.dead m) a w := by
 have hsl : ∀ (i : Nat) (v : AV),(st.dead m).sl[i]? = some v -> ∃ v0,st.sl[i]? = some v0 /\ (v = .one .und ∨ v = v0) := by
  intro i v hi
  simp only [St.dead,List.getElem?_zipWith] at hi
  split at hi
  ·rename_i b v0 hb hv0
   cases hi
   exact ⟨v0,hv0,by cases b <;> simp⟩
  ·cases hi
 refine ⟨h.mem,by simp [St.dead,h.len,hm],fun i v hi => ?_,fun i v d hi hd => ?_,h.defers,h.fr,h.base,h.pin,h.glo⟩
 ·obtain ⟨v0,h1,h2⟩ := hsl i v hi
  obtain ⟨u,h3,h4⟩ := h.sl i v0 h1
  rcases h2 with rfl | rfl
  ·exact ⟨u,h3,trivial⟩
  ·exact ⟨u,h3,h4⟩
 ·obtain ⟨v0,h1,h2⟩ := hsl i v hi
  rcases h2 with rfl | rfl
  ·cases hd
  ·exact h.dom i _ d h1 hd
theorem Sim.uP (h : Sim P B O w0 ρ st a w) (i : Nat) : ∃ ρ',Sim P B O w0 ρ' (dt st i) a w /\ ∀ k,(∀ e t l b,st.sg.get k ≠ some (.arr e t l b)) -> ρ'.loc k = ρ.loc k := by
 unfold Lib.dt
 split
 ·rename_i j o n hi
  split
  ·rename_i e t l b hj
   rw [aq]
   split
   ·rename_i hpin
    rw [Nat.blt_eq] at hpin
    obtain ⟨u,hu,hr⟩ := h.sl i _ hi
    obtain ⟨A,N,c,g,sz,hloc,hle,hsub⟩ := hr
    have hv : u = .slice A n c := by
     rcases hsub with ⟨_,hv⟩ | ⟨_,_,ad,rfl,hv⟩ | ⟨_,h0,_⟩
     ·exact hv
     ·rw [hv,Nat.zero_mul,v7]; rfl
     ·exact absurd rfl h0
    have hL := h.aQ j
    have hgL : Sig.get j (st.aQ j).sg = some (.arr e t l b) := by
     rw [show Sig.get j (st.aQ j).sg = _ from Sig.get_map _ _ _,hj]; rfl
    obtain ⟨v,g',xs,hl',hel,hrow⟩ := hL.mem.blk j _ hgL
    rw [hloc] at hl'
    cases hl'
    have hno : ∀ d b',(st.aQ j).sg.get d = some b' -> b'.ae j = true -> False := by
     intro d b' hd hb'
     rw [show Sig.get d (st.aQ j).sg = _ from Sig.get_map _ _ _,Option.map_eq_some_iff] at hd
     obtain ⟨b0,_,rfl⟩ := hd
     have := (eE hb').2
     simp at this
    have hnos : ∀ (k : Nat) (v : AV),(st.aQ j).sl[k]? = some v -> v.ae j = true -> False := by
     intro k v hk hv
     simp only [St.aQ,List.getElem?_map,Option.map_eq_some_iff] at hk
     obtain ⟨v0,_,rfl⟩ := hk
     have := (ey hv).2
     simp at this
    let ρ' : al := ρ.upd j (.arr (.slice A n c) g t.sz)
    have hst : Step (fun d => d ≠ j) ρ ρ' w w := ⟨fun d hd => al.cT ρ _ hd,fun _ _ h => h,fun _ _ _ => rfl⟩
    have hown : ∀ d k,aP ρ' ((st.aQ j).sg.put j (.arr e t (l.take n) b)) d k -> aP ρ (st.aQ j).sg d k := by
     intro d k ho
     obtain ⟨b0,h1,h2,h3⟩ := aE.1 ho
     rw [Sig.bg] at h1
     split at h1
     ·rename_i hjd
      subst hjd
      cases h1
      refine aE.2 ⟨_,hgL,by simp,.inr (.inl ⟨_,_,_,_,rfl,?_⟩)⟩
      rcases h3 with ⟨_,_,h3,_⟩ | ⟨_,_,_,_,_,v0,sz0,h3⟩ | ⟨_,_,_,h3,_⟩
      ·cases h3
      ·rw [al.ba] at h3
       cases h3
       exact ⟨_,_,hloc⟩
      ·cases h3
     ·rename_i hjd
      rw [show ρ'.loc d = ρ.loc d from al.cT ρ _ (Ne.symm hjd)] at h3
      exact aE.2 ⟨b0,h1,h2,h3⟩
    have hsome : ∀ d,((st.aQ j).sg.get d).isSome = true -> (((st.aQ j).sg.put j (.arr e t (l.take n) b)).get d).isSome = true := by
     intro d hd
     rw [Sig.bg]
     split
     ·rfl
     ·exact hd
    have hNl : N = l.length := by
     cases g with
     | none =>
      obtain ⟨rfl,A',h0⟩ := hrow
      cases h0
      rfl
     | some g =>
      rcases hrow.1.2 with ⟨h0,hn0⟩ | ⟨_,cap,cur,h0,_⟩
      ·rw [h0] at hrow; cases hrow.2
      ·cases h0; rfl
    have hn : n <= l.length := by omega
    refine ⟨ρ',⟨⟨fun d b' hd => ?_,fun d d' k h1 h2 => hL.mem.inj d d' k (hown d k h1) (hown d' k h2),fun d k h1 => hL.mem.old d k (hown d k h1),h.mem.okb,fun q k hq d h1 => hL.mem.oko q k hq d (hown d k h1),h.mem.okm,h.mem.okx,h.mem.oky,fun d b' x hd hx => ?_⟩,by simp [hL.len],fun k v hk => ?_,fun k v x hk hx => ?_,h.defers,h.fr,h.base,fun d hd => ?_,h.glo⟩,fun k hk => al.cT ρ _ (fun e => hk _ _ _ _ (e ▸ hj))⟩
    ·rw [Sig.bg] at hd
     split at hd
     ·rename_i hjd
      subst hjd
      cases hd
      refine ⟨.slice A n c,g,xs.take (n * t.sz),al.ba _ _ _,⟨?_,fun q p hp => ?_⟩,?_⟩
      ·rw [List.length_take,hel.1,List.length_take,Nat.min_eq_left hn,Nat.min_eq_left (Nat.mul_le_mul_right _ hn)]
      ·rw [List.getElem?_take] at hp
       split at hp
       ·rename_i hq
        have := hel.2 q p hp
        have hq' : q * t.sz + t.sz <= n * t.sz := by rw [← Nat.succ_mul]; exact Nat.mul_le_mul_right _ hq
        rwa [List.drop_take,List.take_take,Nat.min_eq_left (by omega)]
       ·cases hp
      ·cases g with
       | none =>
        obtain ⟨rfl,A',h0⟩ := hrow
        cases h0
        have : n = 0 := by simpa using hn
        subst this
        exact ⟨rfl,A,rfl⟩
       | some g =>
        refine ⟨⟨?_,?_⟩,?_⟩
        ·rw [List.length_take,hel.1,List.length_take,Nat.min_eq_left hn,Nat.min_eq_left (Nat.mul_le_mul_right _ hn)]
        ·rcases hrow.1.2 with ⟨h0,hn0⟩ | ⟨g1,cap,cur,h0,h1,h2,h3,h4,h5,h6⟩
         ·rw [h0] at hrow; cases hrow.2
         ·cases h0
          refine .inr ⟨g1,c,cur,?_,h1,h2,?_,h4,h5,?_⟩
          ·rw [List.length_take,Nat.min_eq_left hn]
          ·rw [List.length_take,Nat.min_eq_left hn]; omega
          ·rw [← h6,List.take_take,List.length_take,Nat.min_eq_left hn,Nat.min_eq_left (Nat.mul_le_mul_right _ hn)]
        ·have := hrow.2
         cases A with
         | none => cases this
         | some ad => exact this
     ·rename_i hjd
      exact cd hst (Ne.symm hjd) (fun x hx he => hno d b' hd (by rw [← he]; exact hx)) (fun _ _ _ => rfl) (hL.mem.blk d b' hd)
    ·rw [Sig.bg] at hd
     split at hd
     ·cases hd; cases hx
     ·exact hsome x (hL.mem.dom d b' x hd hx)
    ·rw [List.getElem?_set] at hk
     split at hk
     ·rename_i hik
      subst hik
      split at hk
      ·cases hk
       exact ⟨u,hu,g,t.sz,by rw [hv]; exact al.ba _ _ _⟩
      ·cases hk
     ·obtain ⟨u',h1,h2⟩ := hL.sl k v hk
      exact ⟨u',h1,bQ hst (fun x hx he => hnos k v hk (by rw [← he]; exact hx)) h2⟩
    ·rw [List.getElem?_set] at hk
     split at hk
     ·split at hk
      ·cases hk
       simp only [AV.ae,Cell.ae,beq_iff_eq] at hx
       subst hx
       show (((st.aQ j).sg.put j (.arr e t (l.take n) b)).get j).isSome = true
       rw [Sig.bg,if_pos rfl]; rfl
      ·cases hk
     ·exact hsome x (hL.dom k v x hk hx)
    ·exact (al.cT ρ _ (by omega)).trans (h.pin d hd)
   ·exact ⟨ρ,h,fun _ _ => rfl⟩
  ·exact ⟨ρ,h,fun _ _ => rfl⟩
 ·exact ⟨ρ,h,fun _ _ => rfl⟩
theorem Sim.dt (h : Sim P B O w0 ρ st a w) (i : Nat) : ∃ ρ',Sim P B O w0 ρ' (dt st i) a w := let ⟨ρ',h1,_⟩ := h.uP i; ⟨ρ',h1⟩
theorem xP (s : St) (i : Nat) : (dt s i).sl.length = s.sl.length := by
 unfold Lib.dt
 split
 ·split
  ·rw [aq]; split
   ·simp [St.aQ]
   ·rfl
  ·rfl
 ·rfl
theorem Sim.e9 : ∀ (l : List Nat) {ρ : al} {st : St},Sim P B O w0 ρ st a w -> ∃ ρ',Sim P B O w0 ρ' (e9 l st) a w
 | [],ρ,st,h => ⟨ρ,h⟩
 | i :: r,ρ,st,h => by
  obtain ⟨ρ1,h1⟩ := h.dt i
  exact Sim.e9 r h1
theorem tp : ∀ (l : List Nat) (s : St),(e9 l s).sl.length = s.sl.length
 | [],s => rfl
 | i :: r,s => by rw [e9,tp r,xP]
theorem Sim.mask (h : Sim P B O w0 ρ st a w) {m : List Bool} (hm : m.length = st.sl.length) (keep : List Nat) : ∃ ρ',Sim P B O w0 ρ' (st.mask m keep) a w := by
 have h1 := h.dead hm
 obtain ⟨ρ',h2⟩ := Sim.e9 (DJ (st.dead m).sl 0) h1
 refine ⟨ρ',(h2.dn).pY ?_ keep⟩
 rw [Iy]
 have : (Lib.e9 (DJ (st.dead m).sl 0) (st.dead m)).sl.length = (st.dead m).sl.length := tp _ _
 rw [this]
 simp [St.dead,hm]
theorem Sim.dk : ∀ (l : List Nat) {ρ : al} {st : St},Sim P B O w0 ρ st a w -> ∃ ρ',Sim P B O w0 ρ' ⟨st.sl,dk l st.sg⟩ a w
 | [],ρ,st,h => ⟨ρ,h⟩
 | j :: r,ρ,st,h => by
  rw [Lib.dk]
  split
  ·rename_i e t l b hj
   obtain ⟨ρ1,hm,hM⟩ := h.mem.freeze hj
   have h1 : Sim P B O w0 ρ1 ⟨st.sl,st.sg.put j (.fro e t l b)⟩ a w := by
    refine ⟨hM,h.len,fun i v hi => ?_,fun i v d hi hd => ?_,h.defers,h.fr,h.base,fun k hk => (congrFun hm.loc k).trans (h.pin k hk),h.glo⟩
    ·obtain ⟨u,h1,h2⟩ := h.sl i v hi
     exact ⟨u,h1,bQ (hm.step w) (fun _ _ => trivial) h2⟩
    ·have := h.dom i v d hi hd
     show (Sig.get d (st.sg.put j (.fro e t l b))).isSome = true
     rw [Sig.bg]
     split
     ·rfl
     ·exact this
   exact Sim.dk r h1
  ·exact Sim.dk r h
theorem Sim.Av (h : Sim P B O w0 ρ st a w) (ss : List SP) (gs : List (Nat × GP)) : ∃ ρ',Sim P B O w0 ρ' (st.Av ss gs) a w := by
 unfold St.Av
 split
 ·exact ⟨ρ,h⟩
 ·rename_i j r _
  obtain ⟨ρ1,h1⟩ := h.dk (j :: r)
  exact ⟨ρ1,h1.dn⟩
theorem Sim.sF (h : Sim P B O w0 ρ st a w) {ss : List SP} {gs : List (Nat × GP)} {v : StT ss gs} (hwf : mo ss gs) (hc : Lib.sF ss gs st = some v) : ∃ ρ',Sim P B O w0 ρ' (ar ss gs v) a w := by
 unfold Lib.sF at hc
 split at hc
 ·rename_i v' hv
  cases hc
  exact ⟨ρ,h.cap hwf hv⟩
 ·rw [aq] at hc
  split at hc
  ·rename_i hl
   have hl : (ss.map (·.fb)).length = st.sl.length := by simpa using hl
   have h1 := h.dead hl
   obtain ⟨ρ2,h2⟩ := Sim.e9 (DJ (st.dead (ss.map (·.fb))).sl 0) h1
   obtain ⟨ρ3,h3,_⟩ := h2.dn.GA ss
   obtain ⟨ρ6,h6⟩ := h3.Av ss gs
   obtain ⟨ρ4,h4⟩ := h6.named ss gs
   obtain ⟨ρ5,h5,_⟩ := h4.fresh ss gs
   exact ⟨ρ5,h5.cap hwf hc⟩
  ·cases hc
theorem Sim.norm (h : Sim P B O w0 ρ st a w) (ss : List SP) (gs : List (Nat × GP)) : ∃ ρ',Sim P B O w0 ρ' (st.norm ss gs) a w := by
 unfold St.norm
 rw [aq]
 split
 ·rename_i hc
  split
  ·rename_i v hv
   exact h.sF (aA hc) hv
  ·exact ⟨ρ,h⟩
 ·exact ⟨ρ,h⟩
theorem Sim.nz (h : Sim P B O w0 ρ st a w) {z : Nz} (hz : z.len = st.sl.length) : ∃ ρ',Sim P B O w0 ρ' (z.run st) a w := by
 cases z with
 | mask m keep => exact h.mask hz keep
 | norm ss gs => exact h.norm ss gs
 | two ss gs _ _ => exact h.norm ss gs
theorem Sim.out (h : Sim P B O w0 ρ st a w) {z : Nz} (hz : z.len = st.sl.length) : ∃ ρ',Sim P B O w0 ρ' (z.out st) a w := by
 cases z with
 | mask m keep => exact h.mask hz keep
 | norm ss gs => exact h.norm ss gs
 | two _ _ sx gx => exact h.norm sx gx
theorem Sim.Ol (h : Sim P B O w0 ρ st a w) {d : Nat} {ty : TypeId} {cs : List Cell} (hd : st.sg.get d = some (.box ty cs)) {q : Nat} {c : Cell}
  (hc : ∀ g (vs : List Value),ρ.loc d = .box g -> w.heap[g]? = some (.cells vs.toArray ty (0,0)) -> ∀ u,vs[q]? = some u -> rc ρ w c u) (hu : ∀ x,c.ae x = true -> (st.sg.get x).isSome = true) : Sim P B O w0 ρ ⟨st.sl,st.sg.put d (.box ty (cs.set q c))⟩ a w := by
 have hown : ∀ j g,aP ρ (st.sg.put d (.box ty (cs.set q c))) j g -> aP ρ st.sg j g := by
  intro j g ho
  obtain ⟨b,h1,h2,h3⟩ := aE.1 ho
  rw [Sig.bg] at h1
  split at h1
  ·rename_i hjd
   subst hjd
   cases h1
   refine aE.2 ⟨_,hd,by simp,?_⟩
   rcases h3 with ⟨_,_,_,h3⟩ | ⟨_,_,_,_,h3,_⟩ | ⟨_,_,_,h3,_⟩
   ·exact .inl ⟨_,_,rfl,h3⟩
   ·cases h3
   ·cases h3
  ·exact aE.2 ⟨b,h1,h2,h3⟩
 have hsome : ∀ x,(st.sg.get x).isSome = true -> (Sig.get x (st.sg.put d (.box ty (cs.set q c)))).isSome = true := by
  intro x hx
  rw [Sig.bg]
  split
  ·rfl
  ·exact hx
 refine ⟨⟨fun j b hj => ?_,fun i j g h1 h2 => h.mem.inj i j g (hown i g h1) (hown j g h2),fun j g h1 => h.mem.old j g (hown j g h1),h.mem.okb,fun b g hg j h1 => h.mem.oko b g hg j (hown j g h1),h.mem.okm,h.mem.okx,h.mem.oky,fun j b x hj hx => ?_⟩,h.len,h.sl,fun i v x hi hx => hsome x (h.dom i v x hi hx),h.defers,h.fr,h.base,h.pin,h.glo⟩
 ·rw [Sig.bg] at hj
  split at hj
  ·rename_i hjd
   subst hjd
   cases hj
   obtain ⟨g,vs,h1,h2,h3⟩ := h.mem.blk _ _ hd
   refine ⟨g,vs,h1,h2,?_⟩
   have key := hc g vs h1 h2
   clear hc hown hsome h2 hd
   induction h3 generalizing q with
   | nil => exact .nil
   | @cons x y l m hx hl ih =>
    cases q with
    | zero => exact .cons (key _ rfl) hl
    | succ q => exact .cons hx (ih (fun u hu => key u (by simpa using hu)))
  ·exact h.mem.blk j b hj
 ·rw [Sig.bg] at hj
  split at hj
  ·cases hj
   have hx : (cs.set q c).any (·.ae x) = true := hx
   obtain ⟨y,hy,hyx⟩ := List.any_eq_true.1 hx
   rcases List.mem_or_eq_of_mem_set hy with hy | rfl
   ·exact hsome x (h.mem.dom d _ x hd (List.any_eq_true.2 ⟨y,hy,hyx⟩))
   ·exact hsome x (hu x hyx)
  ·exact hsome x (h.mem.dom j b x hj hx)
theorem Sim.push (h : Sim P B O w0 ρ st a w) {v : AV} {u : Value} (hv : rav ρ w v u) (hu : ∀ x,v.ae x = true -> (st.sg.get x).isSome = true) : Sim P B O w0 ρ ⟨st.sl ++ [v],st.sg⟩ { a with tmps := a.tmps.push u } w := by
 refine ⟨h.mem,by simp [h.len],fun i x hi => ?_,fun i x d hi hd => ?_,h.defers,h.fr,h.base,h.pin,h.glo⟩
 ·by_cases hlt : i < st.sl.length
  ·rw [List.getElem?_append_left hlt] at hi
   obtain ⟨u',h1,h2⟩ := h.sl i x hi
   refine ⟨u',?_,h2⟩
   show (a.tmps.push u)[i]? = _
   rw [Array.getElem?_push,if_neg (by rw [h.len]; omega)]
   exact h1
  ·have hi' := (List.getElem?_eq_some_iff.1 hi).1
   have : i = st.sl.length := by simp at hi'; omega
   subst this
   rw [List.getElem?_append_right (Nat.le_refl _)] at hi
   simp at hi
   subst hi
   refine ⟨u,?_,hv⟩
   show (a.tmps.push u)[st.sl.length]? = _
   rw [Array.getElem?_push,if_pos h.len.symm]
 ·by_cases hlt : i < st.sl.length
  ·rw [List.getElem?_append_left hlt] at hi
   exact h.dom i x d hi hd
  ·have hi' := (List.getElem?_eq_some_iff.1 hi).1
   have : i = st.sl.length := by simp at hi'; omega
   subst this
   rw [List.getElem?_append_right (Nat.le_refl _)] at hi
   simp at hi
   subst hi
   exact hu d hd
theorem Sim.pop {sl : List AV} {v : AV} {sg : Sig} {u : Value} (h : Sim P B O w0 ρ ⟨sl ++ [v],sg⟩ { a with tmps := a.tmps.push u } w) : Sim P B O w0 ρ ⟨sl,sg⟩ a w := by
 have hl : a.tmps.size = sl.length := by have := h.len; simpa using this
 refine ⟨h.mem,hl,fun i x hi => ?_,fun i x d hi hd => ?_,h.defers,h.fr,h.base,h.pin,h.glo⟩
 ·have hlt := (List.getElem?_eq_some_iff.1 hi).1
  obtain ⟨u',h1,h2⟩ := h.sl i x (by show (sl ++ [v])[i]? = _; rw [List.getElem?_append_left hlt]; exact hi)
  refine ⟨u',?_,h2⟩
  have h1 : (a.tmps.push u)[i]? = some u' := h1
  rw [Array.getElem?_push,if_neg (by have : i < sl.length := hlt; omega)] at h1
  exact h1
 ·have hlt := (List.getElem?_eq_some_iff.1 hi).1
  exact h.dom i x d (by show (sl ++ [v])[i]? = _; rw [List.getElem?_append_left hlt]; exact hi) hd
theorem Sim.kC (h : Sim P B O w0 ρ st a w) (d q : Nat) : ∃ ρ',Sim P B O w0 ρ' (kC st d q) a w := by
 unfold Lib.kC
 split
 ·rename_i ty0 cs0 hd
  split
  ·rename_i j o n hq
   split
   ·rename_i e t l b hj
    rw [aq]
    split
    ·rename_i hpin
     split
     ·rename_i ty cs' hd'
      obtain ⟨g,vs,hloc,hheap,hall⟩ := h.mem.blk _ _ hd
      obtain ⟨u,hu1,hu2⟩ := hall.get q hq
      have hdom : ∀ x,(AV.one (.sub j 0 n)).ae x = true -> (st.sg.get x).isSome = true := fun x hx => by
       have hx : (j == x) = true := hx
       have := eq_of_beq hx
       subst this
       rw [hj]; rfl
      have h1 := h.push (v := .one (.sub j 0 n)) (u := u) hu2 hdom
      obtain ⟨ρ',h2,hl2⟩ := h1.uP st.sl.length
      have e0 : Lib.dt ⟨st.sl ++ [.one (.sub j 0 n)],st.sg⟩ st.sl.length = ⟨(st.aQ j).sl ++ [.one (.sl j)],(st.aQ j).sg.put j (.arr e t (l.take n) b)⟩ := by
       unfold Lib.dt
       simp only [List.getElem?_append_right (Nat.le_refl _),Nat.sub_self,List.getElem?_cons_zero]
       rw [hj]
       simp only [hpin,cond_true]
       congr 1
       simp only [St.aQ,List.map_append,List.map_cons,List.map_nil]
       rw [List.set_append_right _ _ (by simp)]
       simp
      rw [e0] at h2
      have hslot := h2.sl st.sl.length (.one (.sl j)) (by
       show ((st.aQ j).sl ++ [AV.one (.sl j)])[st.sl.length]? = _
       rw [List.getElem?_append_right (by simp [St.aQ])]
       simp [St.aQ])
      obtain ⟨u',hu3,hu4⟩ := hslot
      have hu3 : (a.tmps.push u)[st.sl.length]? = some u' := hu3
      rw [Array.getElem?_push,if_pos h.len.symm] at hu3
      cases hu3
      have h3 := h2.pop
      have hjd : ¬ j = d := fun e => by rw [e,hd] at hj; cases hj
      have hlocd : ρ'.loc d = .box g := (hl2 d (fun e t l b he => by have he : st.sg.get d = _ := he; rw [hd] at he; cases he)).trans hloc
      have hdd : Sig.get d ((st.aQ j).sg.put j (.arr e t (l.take n) b)) = some (.box ty cs') := by rw [Sig.bg,if_neg hjd]; exact hd'
      have hty : ty = ty0 := by
       have : Sig.get d (st.aQ j).sg = _ := Sig.get_map _ _ _
       rw [hd',hd] at this
       cases this
       rfl
      subst hty
      have h4 := h3.Ol hdd (q := q) (c := .sl j) (fun g' vs' e1 e2 u' hu' => by
       rw [hlocd] at e1; cases e1
       rw [hheap] at e2
       have hvs : vs' = vs := by
        have := Option.some.inj e2
        injection this with h1 h2 h3
        have := congrArg Array.toList h1
        simpa using this.symm
       subst hvs
       rw [hu1] at hu'; cases hu'
       exact hu4) (fun x hx => by
       have hx : (j == x) = true := hx
       have := eq_of_beq hx
       subst this
       rw [Sig.bg,if_pos rfl]; rfl)
      exact ⟨ρ',h4⟩
     ·exact ⟨ρ,h⟩
    ·exact ⟨ρ,h⟩
   ·exact ⟨ρ,h⟩
  ·exact ⟨ρ,h⟩
 ·exact ⟨ρ,h⟩
theorem Sim.eI (d : Nat) : ∀ (k : Nat) {ρ : al} {st : St},Sim P B O w0 ρ st a w -> ∃ ρ',Sim P B O w0 ρ' (eI d k st) a w
 | 0,ρ,st,h => ⟨ρ,h⟩
 | k + 1,ρ,st,h => by
  obtain ⟨ρ1,h1⟩ := Sim.eI d k h
  exact h1.kC d k
theorem Sim.cG : ∀ (l : List ResultVar) {ρ : al} {st : St},Sim P B O w0 ρ st a w -> ∃ ρ',Sim P B O w0 ρ' (cG l st) a w
 | [],ρ,st,h => ⟨ρ,h⟩
 | .tmp _ :: r,ρ,st,h => Sim.cG r h
 | .cell t ty :: r,ρ,st,h => by
  rw [Lib.cG]
  split
  ·split
   ·obtain ⟨ρ1,h1⟩ := Sim.eI _ _ h
    exact Sim.cG r h1
   ·exact Sim.cG r h
  ·exact Sim.cG r h
theorem Sim.ends (h : Sim P B O w0 ρ st a w) (fn : Func) : ∃ ρ',Sim P B O w0 ρ' (st.ends fn) a w := by
 obtain ⟨ρ1,h1⟩ := Sim.e9 (mI st.sl fn.results.toList) h
 exact Sim.cG _ h1
theorem nq {c : Code} {Q : Exit -> Act -> World -> Prop} (I : Nat -> Act -> World -> Prop)
  (round : ∀ n a w,I n a w -> c.wp P (Exit.then (fun a' w' => ∃ m,m < n /\ I m a' w') Q) a w) : ∀ n a w,I n a w -> (Code.loop c).wp P Q a w := by
 intro n a w hI b k cs
 have key : ∀ n a w,I n a w -> ∃ e a' w',Q e a' w' /\ Arrives P (lone (b.at a (.code c :: .inLoop c :: k)) cs w) b k cs e a' w' := by
  intro n
  induction n using Nat.strongRecOn with
  | _ n ih =>
   intro a w hI
   obtain ⟨e,a₁,w₁,hq,harr⟩ := round n a w hI b (.inLoop c :: k) cs
   cases e with
   | normal =>
    obtain ⟨m,hlt,hI₁⟩ := hq
    obtain ⟨e₂,a₂,w₂,hq₂,harr₂⟩ := ih m hlt a₁ w₁ hI₁
    exact ⟨e₂,a₂,w₂,hq₂,.of_steps (Steps.trans harr (.one step_inLoop)) harr₂⟩
   | exit id => exact ⟨_,a₁,w₁,hq,.pass (x := .inLoop c) rfl (fun _ _ => .inl (by simp)) harr⟩
   | goto l => exact ⟨_,a₁,w₁,hq,.pass (x := .inLoop c) rfl (fun _ _ => .inl (by simp)) harr⟩
   | ret => exact ⟨_,a₁,w₁,hq,.pass (x := .inLoop c) rfl (fun _ _ => .inl (by simp)) harr⟩
   | panic ch => exact ⟨_,a₁,w₁,hq,.pass (x := .inLoop c) rfl (fun _ _ => .inl (by simp)) harr⟩
   | outgrown => exact ⟨_,a₁,w₁,hq,.pass (x := .inLoop c) rfl (fun _ _ => .inl (by simp)) harr⟩
 obtain ⟨e,a',w',hq,harr⟩ := key n a w hI
 exact ⟨e,a',w',hq,.of_steps (.one step_loop) harr⟩
def eV (P : Program) (E : Env) (call : aJ) (draw : Env -> aJ -> List Oper -> St -> Bool) : Prop :=
 ∀ (R : Type) (r : R) (B : Nat) (O : Ow) (w0 w : World) (ρ : al) (st : St) (a : Act) (id : Nat) (ops : Array Oper) (k : St -> Option R) (Q : Exit -> Act -> World -> Prop),draw E call ops.toList st = true -> Sim P B O w0 ρ st a w -> aW E call ops.toList ops.toList st k = some r ->
  (∀ ρ' st' a' w',k st' = some r -> Sim P B O w0 ρ' st' a' w' -> Q .normal a' w') -> (Code.region id ops true).wp P Q a w
theorem bt (hE : Env.Ok P E) (hC : cJ P call) {draw : Env -> aJ -> List Oper -> St -> Bool} (hD : eV P E call draw) (fuel : Nat) : ∀ (c : Code) (lt : LT) (st : St) (ρ : al) (a : Act) (w : World) (k : Ex -> St -> Option R) (Q : Exit -> Act -> World -> Prop),af P c lt -> Sim P B O w0 ρ st a w -> ca E call draw fuel c lt st k = some r ->
  (∀ e ρ' st' a' w',k e st' = some r -> Sim P B O w0 ρ' st' a' w' -> Q e.to a' w') -> c.wp P Q a w
 | .skip,lt,st,ρ,a,w,k,Q,hl,h,hk,hn => wp_skip (hn .normal ρ st a w hk h)
 | .label l,lt,st,ρ,a,w,k,Q,hl,h,hk,hn => wp_label (hn .normal ρ st a w hk h)
 | .exit id,lt,st,ρ,a,w,k,Q,hl,h,hk,hn => wp_exit (hn (.exit id) ρ st a w hk h)
 | .ret,lt,st,ρ,a,w,k,Q,hl,h,hk,hn => wp_ret (hn .ret ρ st a w hk h)
 | .goto _,lt,st,ρ,a,w,k,Q,hl,h,hk,hn => by simp only [ca] at hk; cases hk
 | .scope _,lt,st,ρ,a,w,k,Q,hl,h,hk,hn => by simp only [ca] at hk; cases hk
 | .refuse _,lt,st,ρ,a,w,k,Q,hl,h,hk,hn => by simp only [ca] at hk; cases hk
 | .rangeFunc _ _ _ _,lt,st,ρ,a,w,k,Q,hl,h,hk,hn => by simp only [ca] at hk; cases hk
 | .region id ops d,lt,st,ρ,a,w,k,Q,hl,h,hk,hn => by
  simp only [ca] at hk
  have go : (bif !d || draw E call ops.toList st then aW E call ops.toList ops.toList st (k .normal) else none) = some r -> (Code.region id ops d).wp P Q a w := by
   clear hk
   intro hk
   simp only [aq] at hk
   split at hk
   ·rename_i hd
    cases d with
    | false => exact wp_region_list (fo hE hC (fun ρ' st' a' w' hk' h' => hn .normal ρ' st' a' w' hk' h') _ st ρ a w h hk)
    | true => exact hD R r B O w0 w ρ st a id ops (k .normal) Q (by simpa using hd) h hk (fun ρ' st' a' w' hk' h' => hn .normal ρ' st' a' w' hk' h')
   ·cases hk
  cases lt with
  | sum ss gs F =>
   simp only at hk
   split at hk
   ·rename_i v hv
    rw [aL.run_bind,Option.bind_eq_some_iff] at hk
    obtain ⟨q,hq,hk⟩ := hk
    simp only [af] at hl
    obtain ⟨ρP,hP⟩ := h.sF hl.1 hv
    exact hl.2 B O w0 w ρP a v q.1 q.2 Q hq hP fun ρ' a' w' h' => hn _ ρ' _ a' w' hk h'
   ·cases hk
  | none => exact go hk
  | node p q => exact go hk
 | .seq x y,lt,st,ρ,a,w,k,Q,hl,h,hk,hn => by
  simp only [ca] at hk
  refine wp_seq (bt hE hC hD fuel x lt.l st ρ a w _ _ hl.1 h hk fun e ρ' st' a' w' hk' h' => ?_)
  cases e with
  | normal => exact bt hE hC hD fuel y lt.r st' ρ' a' w' k Q hl.2 h' hk' hn
  | exit i => exact hn (.exit i) ρ' st' a' w' hk' h'
  | ret => exact hn .ret ρ' st' a' w' hk' h'
 | .cond c x y,lt,st,ρ,a,w,k,Q,hl,h,hk,hn => by
  simp only [ca] at hk
  have go : af P x lt.l -> af P y lt.r -> (match au st.sl c with
    | .one (.bool v) => (match v with
     | true => ca E call draw fuel x lt.l st k
     | false => ca E call draw fuel y lt.r st k)
    | _ => none) = some r -> (Code.cond c x y).wp P Q a w := by
   intro hl1 hl2 hk
   split at hk
   ·rename_i v hv
    have hc := (h.eval c).1
    rw [hv] at hc
    have hc : a.eval c = .bool v := hc
    cases v with
    | true => exact wp_cond_true hc (bt hE hC hD fuel x lt.l st ρ a w k Q hl1 h hk hn)
    | false => exact wp_cond_false hc (bt hE hC hD fuel y lt.r st ρ a w k Q hl2 h hk hn)
   ·cases hk
  cases lt with
  | sum ss gs F =>
   simp only at hk
   split at hk
   ·rename_i v hv
    rw [aL.run_bind,Option.bind_eq_some_iff] at hk
    obtain ⟨q,hq,hk⟩ := hk
    simp only [af] at hl
    obtain ⟨ρP,hP⟩ := h.sF hl.1 hv
    exact hl.2 B O w0 w ρP a v q.1 q.2 Q hq hP fun ρ' a' w' h' => hn _ ρ' _ a' w' hk h'
   ·cases hk
  | none => exact go hl.1 hl.2 hk
  | node p q => exact go hl.1 hl.2 hk
 | .block id b,lt,st,ρ,a,w,k,Q,hl,h,hk,hn => by
  simp only [ca] at hk
  refine wp_block (bt hE hC hD fuel b lt.l st ρ a w _ _ hl h hk fun e ρ' st' a' w' hk' h' => ?_)
  cases e with
  | normal => exact hn .normal ρ' st' a' w' hk' h'
  | exit i =>
   simp only [aq,beq_iff_eq] at hk'
   show (if i = id then Q .normal a' w' else Q (.exit i) a' w')
   split at hk'
   ·rename_i hi; rw [if_pos hi]; exact hn .normal ρ' st' a' w' hk' h'
   ·rename_i hi; rw [if_neg hi]; exact hn (.exit i) ρ' st' a' w' hk' h'
  | ret => exact hn .ret ρ' st' a' w' hk' h'
 | .loop b,lt,st,ρ,a,w,k,Q,hl,h,hk,hn => by
  simp only [ca] at hk
  have go : af P b lt.l -> dV (ca E call draw fuel b lt.l) (.mask (st.sl.map (·.fb)) (st.sg.map (·.1))) fuel st k = some r -> (Code.loop b).wp P Q a w := by
   intro hl0 hk
   refine nq (fun n a w => ∃ ρ st',Sim P B O w0 ρ st' a w /\ dV (ca E call draw fuel b lt.l) (.mask (st.sl.map (·.fb)) (st.sg.map (·.1))) n st' k = some r) (fun n a w hI => ?_) fuel a w ⟨ρ,st,h,hk⟩
   obtain ⟨ρ1,st1,h1,hk1⟩ := hI
   cases n with
   | zero => simp only [dV] at hk1; cases hk1
   | succ n =>
    simp only [dV] at hk1
    refine bt hE hC hD fuel b lt.l _ ρ1 a w _ _ hl0 h1 hk1 fun e ρ' st' a' w' hk' h' => ?_
    simp only [aq] at hk'
    split at hk'
    ·rename_i hl'
     simp only [beq_iff_eq] at hl'
     obtain ⟨ρm,hm⟩ := h'.nz (z := .mask (st.sl.map (·.fb)) (st.sg.map (·.1))) hl'.symm
     obtain ⟨ρo,ho⟩ := h'.out (z := .mask (st.sl.map (·.fb)) (st.sg.map (·.1))) hl'.symm
     cases e with
     | normal => exact ⟨n,Nat.lt_succ_self n,ρm,_,hm,hk'⟩
     | exit i => exact hn (.exit i) ρm _ a' w' hk' hm
     | ret => exact hn .ret ρo _ a' w' hk' ho
    ·cases hk'
  cases lt with
  | sum ss gs F =>
   simp only at hk
   split at hk
   ·rename_i v hv
    rw [aL.run_bind,Option.bind_eq_some_iff] at hk
    obtain ⟨q,hq,hk⟩ := hk
    simp only [af] at hl
    obtain ⟨ρP,hP⟩ := h.sF hl.1 hv
    exact hl.2 B O w0 w ρP a v q.1 q.2 Q hq hP fun ρ' a' w' h' => hn _ ρ' _ a' w' hk h'
   ·cases hk
  | none => exact go hl hk
  | node x y => exact go hl hk
theorem Ai (hE : Env.Ok P E) (hC : cJ P call) {draw : Env -> aJ -> List Oper -> St -> Bool} (hD : eV P E call draw) (fuel : Nat) {b : Code} {lt : LT} (hl0 : af P b lt) {z : Nz} (N : Nat) (st : St) (ρ : al) (a : Act) (w : World) (k : Ex -> St -> Option R) (Q : Exit -> Act -> World -> Prop) (h : Sim P B O w0 ρ st a w)
  (hk : dV (ca E call draw fuel b lt) z N st k = some r) (hn : ∀ e ρ' st' a' w',k e st' = some r -> Sim P B O w0 ρ' st' a' w' -> Q e.to a' w') : (Code.loop b).wp P Q a w := by
 refine nq (fun n a w => ∃ ρ st',Sim P B O w0 ρ st' a w /\ dV (ca E call draw fuel b lt) z n st' k = some r) (fun n a w hI => ?_) N a w ⟨ρ,st,h,hk⟩
 obtain ⟨ρ1,st1,h1,hk1⟩ := hI
 cases n with
 | zero => simp only [dV] at hk1; cases hk1
 | succ n =>
  simp only [dV] at hk1
  refine bt hE hC hD fuel b lt _ ρ1 a w _ _ hl0 h1 hk1 fun e ρ' st' a' w' hk' h' => ?_
  simp only [aq] at hk'
  split at hk'
  ·rename_i hl'
   simp only [beq_iff_eq] at hl'
   obtain ⟨ρm,hm⟩ := h'.nz hl'.symm
   obtain ⟨ρo,ho⟩ := h'.out hl'.symm
   cases e with
   | normal => exact ⟨n,Nat.lt_succ_self n,ρm,_,hm,hk'⟩
   | exit i => exact hn (.exit i) ρm _ a' w' hk' hm
   | ret => exact hn .ret ρo _ a' w' hk' ho
  ·cases hk'
end
end Go.Proofs.YtcddhifkfakcjaaGreat.Lib
namespace Go.Proofs.YtcddhifkfakcjaaGreat.Lib
open Go Go.RowKit
set_option linter.unusedVariables false
set_option linter.unusedSimpArgs false
def Lh (tmps : Array Value) : ResultVar -> Sem Value
 | .tmp t => pure (tmps.getD t undef)
 | .cell p t => do loadVar t (← asAddr (tmps.getD p undef))
def pack : List Value -> Value
 | [u] => u | us => .tuple us.toArray
section
variable {P : Program} {E : Env} {B : Nat} {O : Ow} {w0 w w' : World} {ρ ρ' : al} {a : Act} {R : Type} {r : R} {sg sg' : Sig} {st : St} {call : aJ}
theorem mP (h : Mem B O ρ sg w) {vs : List AV} {us : List Value} {res : AV} {out : Sig} (hr : aF (rav ρ w) vs us) (hl : rf sg vs = some (res,out)) :
  ∃ ρ',rav ρ' w res (pack us) /\ Mem B O ρ' out w /\ (∀ d,res.ae d = true -> (out.get d).isSome = true) := by
 unfold rf at hl
 split at hl
 ·rename_i v
  obtain ⟨u,rfl,hr1⟩ := hr.single
  split at hl
  ·rename_i g cs hp
   split at hl
   ·rename_i cs1 out1 js hc
    simp only [aq] at hl
    split at hl
    ·rename_i hj
     split at hl
     ·rename_i v1 hv
      simp only [Option.some.injEq,Prod.mk.injEq] at hl
      obtain ⟨rfl,rfl⟩ := hl
      obtain ⟨vs0,a1,a2⟩ := zI (fq hr1 hp)
      obtain ⟨b1,b2,b3⟩ := ez h a1 hc
      obtain ⟨L,c1,c2⟩ := pQ h b2 hj
      have hrp := a2 _ _ (b1 L c1)
      rcases eU hv with ⟨rfl,rfl⟩ | ⟨rfl,c,rfl,rfl⟩
      ·exact ⟨_,hrp,c2,b3⟩
      ·obtain ⟨c',hc',hrp⟩ := hrp
       cases hc'
       exact ⟨_,hrp,c2,fun d hd => b3 d (by simpa [AV.ae] using hd)⟩
     ·cases hl
    ·cases hl
   ·cases hl
  ·cases hl
 ·rename_i hne
  split at hl
  ·rename_i ps out1 js ht
   simp only [aq] at hl
   split at hl
   ·rename_i hj
    simp only [Option.some.injEq,Prod.mk.injEq] at hl
    obtain ⟨rfl,rfl⟩ := hl
    obtain ⟨b1,b2,b3⟩ := fY h hr ht
    obtain ⟨L,c1,c2⟩ := pQ h b2 hj
    refine ⟨⟨L,ρ.ok⟩,?_,c2,b3⟩
    have hus : pack us = .tuple us.toArray := by
     unfold pack
     split
     ·rename_i u
      obtain ⟨v,rest,rfl⟩ : ∃ v rest,vs = v :: rest := by cases hr; exact ⟨_,_,rfl⟩
      cases hr with
      | cons _ h2 => cases h2; exact absurd rfl (hne _)
     ·rfl
    rw [hus]
    exact ⟨us,rfl,b1 L c1⟩
   ·cases hl
  ·cases hl
theorem cS (hE : Env.Ok P E) (h : Sim P B O w0 ρ st a w) : ∀ {rs : List ResultVar} {vs : List AV},fP E st rs = some vs ->
  ∃ us : List Value,aF (rav ρ w) vs us /\ (rs.mapM (Lh a.tmps)).run P w = .ok us w /\ ∀ v ∈ vs,∀ d,v.ae d = true -> (st.sg.get d).isSome = true
 | [],vs,hr => by
  simp only [fP,Option.some.injEq] at hr
  subst hr
  exact ⟨[],.nil,rfl,fun v hv => by cases hv⟩
 | x :: rs,vs,hr => by
  simp only [fP] at hr
  split at hr
  ·rename_i v vs1 hv hvs
   simp only [Option.some.injEq] at hr
   subst hr
   obtain ⟨us,h1,h2,h2u⟩ := cS hE h hvs
   have one : ∃ u : Value,rav ρ w v u /\ (Lh a.tmps x).run P w = .ok u w /\ ∀ d,v.ae d = true -> (st.sg.get d).isSome = true := by
    unfold MA at hv
    split at hv
    ·rename_i t
     simp only [Option.some.injEq] at hv
     subst hv
     exact ⟨a.eval (.tmp t),(h.eval (.tmp t)).1,rfl,(h.eval (.tmp t)).2⟩
    ·rename_i p t
     split at hv
     ·rename_i j i c ti hp ht
      simp only [aq] at hv
      split at hv
      ·rename_i hz
       have hx := (h.eval (.tmp p)).1
       simp only [au] at hx
       rw [hp] at hx
       have hn : 0 < ti.sz := by simpa [Nat.pos_iff_ne_zero] using hz
       obtain ⟨cs,ad,us0,hk,hu,hl,hr,hc,hd⟩ := jo (kk := fun cs => Cell.ofElem ti.agg cs) h.mem hv hx hn
       have hu : a.tmps.getD p undef = .pointer (some ad) := hu
       rcases eU hk with ⟨hg,rfl⟩ | ⟨hg,c,rfl,rfl⟩
       ·refine ⟨.agg us0.toArray,⟨us0,rfl,hr⟩,?_,fun d hd' => hd d hd'⟩
        have := s6 (hE.ti _ _ ht) hl hc (v := .agg us0.toArray) (.inl ⟨hg,rfl⟩)
        show (do loadVar t (← asAddr (a.tmps.getD p undef)) : Sem Value).run P w = _
        rw [hu]
        simp only [asAddr,Sem.run_bind,Sem.run_pure,Result.andThen_ok,this]
       ·obtain ⟨u,rfl,hr1⟩ := hr.single
        refine ⟨u,hr1,?_,fun d hd' => hd d (by simpa [AV.ae] using hd')⟩
        have := s6 (hE.ti _ _ ht) hl hc (v := u) (.inr ⟨hg,rfl⟩)
        show (do loadVar t (← asAddr (a.tmps.getD p undef)) : Sem Value).run P w = _
        rw [hu]
        simp only [asAddr,Sem.run_bind,Sem.run_pure,Result.andThen_ok,this]
      ·cases hv
     ·cases hv
   obtain ⟨u,h3,h4,h4u⟩ := one
   refine ⟨u :: us,.cons h3 h1,?_,fun x hx => ?_⟩
   ·rw [List.mapM_cons,Sem.run_bind,h4,Result.andThen_ok,Sem.run_bind,h2]
    rfl
   ·rcases List.mem_cons.1 hx with rfl | hx
    ·exact h4u
    ·exact h2u x hx
  ·cases hr
theorem eO {fn : Func} {tmps : Array Value} {us : List Value} {w : World} (h : (fn.results.toList.mapM (Lh tmps)).run P w = .ok us w) :
  (results fn tmps).run P w = .ok (pack us) w := by
 show (do let vs ← fn.results.mapM (Lh tmps); pure (if h : vs.size = 1 then vs[0] else .tuple vs) : Sem Value).run P w = _
 rw [Sem.run_bind,Array.mapM_eq_mapM_toList,Sem.run_map,h]
 simp only [Result.andThen_ok,Sem.run_pure]
 congr 1
 match us with
 | [] => rfl
 | [u] => rfl
 | u :: v :: us =>
  rw [dif_neg (by simp)]
  rfl
theorem Ab (hE : Env.Ok P E) (hC : cJ P call) {draw : Env -> aJ -> List Oper -> St -> Bool} (hD : eV P E call draw) {fuel : Nat} {f : FuncId} {fn : Func} {c : Code} {lt : LT} {args : List AV} {res : AV} {out : Sig} (hf : P.funcs[f]? = some fn) (hb : fn.body = some c) (hlt : af P c lt)
  (hk : Ie E call draw fuel fn c lt args [] = some (res,out)) {ρ0 : al} {vs : List Value} (hokb : ∀ b g,ρ0.ok b g -> g < w.heap.size) (hokm : ∀ g,ρ0.ok false g -> ρ0.ok true g) (hgl : GH P ρ0 w) (hr : aF (rav ρ0 w) args vs) (hu : ∀ v ∈ args,∀ d,v.ae d = false) :
  Calls P f vs.toArray w fun e w' => ∃ v ρ',e = .returned v /\ rav ρ' w' res v /\ Mem w.heap.size ⟨fun _ => False,ρ0.ok,ρ0.loc⟩ ρ' out w' /\ (∀ d,res.ae d = true -> (out.get d).isSome = true) /\ Below w.heap.size w w' := by
 unfold Ie at hk
 refine calls_of_wp hf hb ?_
 have hlen := hr.length
 have h0 : Sim P w.heap.size ⟨fun _ => False,ρ0.ok,ρ0.loc⟩ w ρ0 ⟨args ++ List.replicate (fn.ntmps - args.length) (.one .und),[]⟩ { tmps := vs.toArray ++ Array.replicate (fn.ntmps - vs.toArray.size) undef,defers := [] } w := by
  refine ⟨⟨(fun j b hj => by cases hj),(fun i j g hi => by cases hi),(fun j g hj => by cases hj),hokb,(fun b g hg j hj => by cases hj),hokm,fun b g hg => .inl hg,fun b g hg => hg,(fun j b d hj => by cases hj)⟩,by simp [hlen],fun i v hi => ?_,fun i v d hi hd => ?_,rfl,da.refl _ _ _,Nat.le_refl _,fun _ _ => rfl,fun G hG => ⟨(hgl G hG).1,hokb _ _ (hgl G hG).1,fun h => h,(hgl G hG).2⟩⟩
  ·rcases Nat.lt_or_ge i args.length with hlt | hge
   ·rw [List.getElem?_append_left hlt] at hi
    obtain ⟨u,h1,h2⟩ := hr.get i hi
    exact ⟨u,by rw [Array.getElem?_append_left (by simpa [← hlen] using hlt)]; simpa using h1,h2⟩
   ·rw [List.getElem?_append_right hge,List.getElem?_replicate] at hi
    split at hi
    ·rename_i hlt
     cases hi
     refine ⟨undef,?_,trivial⟩
     rw [Array.getElem?_append_right (by simpa [← hlen] using hge),Array.getElem?_replicate,if_pos (by simpa [← hlen] using hlt)]
    ·cases hi
  ·rcases Nat.lt_or_ge i args.length with hlt | hge
   ·rw [List.getElem?_append_left hlt] at hi
    rw [hu v (List.mem_of_getElem? hi) d] at hd
    cases hd
   ·rw [List.getElem?_append_right hge,List.getElem?_replicate] at hi
    split at hi
    ·cases hi; cases hd
    ·cases hi
 refine bt hE hC hD fuel c lt _ ρ0 _ w _ _ hlt h0 hk fun e ρ' st' a' w' hk' h' => ?_
 have fin : (match fP E (st'.ends fn) fn.results.toList with | some vs => (match gA E fn.resultTypes.toList (st'.ends fn).sg vs with | (sg,vs) => rf sg vs) | none => none) = some (res,out) -> a'.defers = [] /\ ∃ v,(results fn a'.tmps).run P w' = .ok v w' /\ ∃ v_1 ρ',Ending.returned v = .returned v_1 /\ rav ρ' w' res v_1 /\ Mem w.heap.size ⟨fun _ => False,ρ0.ok,ρ0.loc⟩ ρ' out w' /\ (∀ d,res.ae d = true -> (out.get d).isSome = true) /\ Below w.heap.size w w' := by
  intro hk
  split at hk
  ·rename_i avs hres
   obtain ⟨ρe,he⟩ := h'.ends fn
   obtain ⟨us,h1,h2,hus⟩ := cS hE he hres
   generalize hon : gA E fn.resultTypes.toList (st'.ends fn).sg avs = on at hk
   obtain ⟨sgn,avn⟩ := on
   obtain ⟨ρn,hMn,h1n,_⟩ := lh he.mem h1 hus hon
   obtain ⟨ρ2,h3,h4,h5⟩ := mP hMn h1n hk
   exact ⟨h'.defers,_,eO h2,_,ρ2,rfl,h3,h4,h5,⟨h'.fr.os,h'.fr.tape,h'.fr.output,h'.fr.size,fun k hk => h'.fr.block k hk (fun h => h)⟩⟩
  ·cases hk
 cases e with
 | normal => exact fin hk'
 | ret => exact fin hk'
 | exit i => cases hk'
theorem db (hE : Env.Ok P E) {draw : Env -> aJ -> List Oper -> St -> Bool} (hD : ∀ call,cJ P call -> eV P E call draw) : ∀ n,cJ P (ev E draw n)
 | 0 => by
  intro f args res out h
  cases h
 | n + 1 => by
  have ih := db hE hD n
  intro f args res out h ρ0 w vs h1 h2 hgl h3 h4
  simp only [ev] at h
  split at h
  ·rename_i fn hfn
   split at h
   ·rename_i c hb
    obtain ⟨hf,hn⟩ := hE.fn f fn hfn
    exact ⟨⟨fn,hf,by rw [hb]; rfl,hn⟩,Ab hE ih (hD _ ih) hf hb (hE.lt f fn c hfn hb) h h1 h2 hgl h3 h4⟩
   ·cases h
  ·cases h
theorem px : ∀ {sg0 : Sig} {upd : Sig},kept sg sg0 = some upd -> ∀ i b',upd.get i = some b' -> (∃ b,sg0.get i = some b /\ b.Alike b') /\ (∀ e t l q,b' = .arr e t l q -> t.flat = true) /\ PIN <= i /\ sg.get i = some b'
 | [],upd,h,i,b',hi => by
  simp only [kept,Option.some.injEq] at h
  subst h
  cases hi
 | (j,b) :: r,upd,h,i,b',hi => by
  simp only [kept] at h
  split at h
  ·rename_i e0 t0 l0 q0 e t l q hg
   simp only [aq] at h
   split at h
   ·rename_i hc
    simp only [Bool.and_eq_true,Nat.ble_eq] at hc
    split at h
    ·rename_i out hout
     cases h
     simp only [Sig.get,aq,beq_iff_eq] at hi ⊢
     split at hi
     ·rename_i hji
      subst hji
      cases hi
      exact ⟨⟨_,if_pos rfl,_,_,_,_,rfl⟩,fun e t l q he => by cases he; exact hc.1,hc.2,hg⟩
     ·rename_i hji
      obtain ⟨h1,h2⟩ := px hout i b' hi
      simp only [if_neg hji]
      exact ⟨h1,h2⟩
    ·cases h
   ·cases h
  ·rename_i e0 t0 l0 e t l hg
   simp only [aq] at h
   split at h
   ·rename_i hc
    simp only [Nat.ble_eq] at hc
    split at h
    ·rename_i out hout
     cases h
     simp only [Sig.get,aq,beq_iff_eq] at hi ⊢
     split at hi
     ·rename_i hji
      subst hji
      cases hi
      exact ⟨⟨_,if_pos rfl,_,_,_,rfl⟩,fun e t l q he => (by cases he),hc,hg⟩
     ·rename_i hji
      obtain ⟨h1,h2⟩ := px hout i b' hi
      simp only [if_neg hji]
      exact ⟨h1,h2⟩
    ·cases h
   ·cases h
  ·cases h
theorem zd (hE : Env.Ok P E) (hC : cJ P call) {draw : Env -> aJ -> List Oper -> St -> Bool} (hD : eV P E call draw) {fuel : Nat} {f : FuncId} {fn : Func} {c : Code} {lt : LT} {st0 : St} {res : AV} {upd : Sig} (hf : P.funcs[f]? = some fn) (hb : fn.body = some c) (hlt : af P c lt)
  (hk : D3 E call draw fuel fn c lt st0 = some (res,upd)) (h : Sim P B O w ρ st0 a w) :
  Calls P f a.tmps w fun e w' => ∃ u,e = .returned u /\ rav ρ w' res u /\
   (∀ i b',upd.get i = some b' -> (∃ b,st0.sg.get i = some b /\ b.Alike b') /\ eZ ρ w' i b') /\
   w'.os = w.os /\ w'.tape = w.tape /\ w'.output = w.output /\ w.heap.size <= w'.heap.size /\ ∀ g,g < w.heap.size -> (∀ j,¬ aP ρ st0.sg j g) -> w'.heap[g]? = w.heap[g]? := by
 unfold D3 at hk
 refine calls_of_wp hf hb ?_
 have h0 : Sim P w.heap.size ⟨fun g => ∃ j,aP ρ st0.sg j g,ρ.ok,ρ.loc⟩ w ρ ⟨st0.sl ++ List.replicate (fn.ntmps - st0.sl.length) (.one .und),st0.sg⟩ { tmps := a.tmps ++ Array.replicate (fn.ntmps - a.tmps.size) undef,defers := [] } w := by
  refine ⟨⟨h.mem.blk,h.mem.inj,fun j g hj => .inr ⟨j,hj⟩,h.mem.okb,h.mem.oko,h.mem.okm,fun b g hg => .inl hg,fun b g hg => hg,h.mem.dom⟩,by simp [h.len],fun i v hi => ?_,fun i v d hi hd => ?_,rfl,da.refl _ _ _,Nat.le_refl _,fun _ _ => rfl,h.RB⟩
  ·rcases Nat.lt_or_ge i st0.sl.length with hlt | hge
   ·rw [List.getElem?_append_left hlt] at hi
    obtain ⟨u,h1,h2⟩ := h.sl i v hi
    exact ⟨u,by rw [Array.getElem?_append_left (by rw [h.len]; exact hlt)]; exact h1,h2⟩
   ·rw [List.getElem?_append_right hge,List.getElem?_replicate] at hi
    split at hi
    ·rename_i hlt
     cases hi
     refine ⟨undef,?_,trivial⟩
     rw [Array.getElem?_append_right (by rw [h.len]; exact hge),Array.getElem?_replicate,if_pos (by rw [h.len]; exact hlt)]
    ·cases hi
  ·rcases Nat.lt_or_ge i st0.sl.length with hlt | hge
   ·rw [List.getElem?_append_left hlt] at hi
    exact h.dom i v d hi hd
   ·rw [List.getElem?_append_right hge,List.getElem?_replicate] at hi
    split at hi
    ·cases hi; cases hd
    ·cases hi
 refine bt hE hC hD fuel c lt _ ρ _ w _ _ hlt h0 hk fun e ρ' st' a' w' hk' h' => ?_
 have fin : (match fP E st' fn.results.toList with
   | some vs => (match vs with
    | [v] => bif v.plain then (match kept st'.sg st0.sg with | some out => some (v,out) | none => none) else none
    | _ => none)
   | none => none) = some (res,upd) -> a'.defers = [] /\ ∃ v,(results fn a'.tmps).run P w' = .ok v w' /\ ∃ u,Ending.returned v = .returned u /\ rav ρ w' res u /\
   (∀ i b',upd.get i = some b' -> (∃ b,st0.sg.get i = some b /\ b.Alike b') /\ eZ ρ w' i b') /\
   w'.os = w.os /\ w'.tape = w.tape /\ w'.output = w.output /\ w.heap.size <= w'.heap.size /\ ∀ g,g < w.heap.size -> (∀ j,¬ aP ρ st0.sg j g) -> w'.heap[g]? = w.heap[g]? := by
  intro hk
  split at hk
  ·rename_i avs hres
   obtain ⟨us,h1,h2,_⟩ := cS hE h' hres
   split at hk
   ·rename_i v
    simp only [aq] at hk
    split at hk
    ·rename_i hpl
     split at hk
     ·rename_i out hkept
      simp only [Option.some.injEq,Prod.mk.injEq] at hk
      obtain ⟨rfl,rfl⟩ := hk
      obtain ⟨u,rfl,hr⟩ := h1.single
      refine ⟨h'.defers,_,eO h2,u,rfl,kW hpl hr,fun i b' hi => ?_,h'.fr.os,h'.fr.tape,h'.fr.output,h'.fr.size,fun g hg hn => h'.fr.block g hg (fun ⟨j,hj⟩ => hn j hj)⟩
      obtain ⟨h3,h4,h5,h6⟩ := px hkept i b' hi
      refine ⟨h3,?_⟩
      have hr := h'.mem.blk i _ h6
      obtain ⟨b0,_,hal⟩ := h3
      cases b' with
      | arr e t l q =>
       obtain ⟨va,gg,xs,d1,d2,d3⟩ := hr
       exact ⟨va,gg,xs,(h'.pin i h5).symm.trans d1,⟨d2.1,fun j p hp => iL (h4 _ _ _ _ rfl) (d2.2 j p hp)⟩,d3⟩
      | nst e t l =>
       obtain ⟨va,gg,hd,xs,d1,d2⟩ := hr
       exact ⟨va,gg,hd,xs,(h'.pin i h5).symm.trans d1,d2⟩
      | box ty cs => cases b0 <;> first | exact hal.elim | (obtain ⟨_,_,_,_,h⟩ := hal; cases h) | (obtain ⟨_,_,_,h⟩ := hal; cases h)
      | fro e t l q => cases b0 <;> first | exact hal.elim | (obtain ⟨_,_,_,_,h⟩ := hal; cases h) | (obtain ⟨_,_,_,h⟩ := hal; cases h)
     ·cases hk
    ·cases hk
   ·cases hk
  ·cases hk
 cases e with
 | normal => exact fin hk'
 | ret => exact fin hk'
 | exit i => cases hk'
theorem GG (hE : Env.Ok P E) {draw : Env -> aJ -> List Oper -> St -> Bool} (hD : ∀ call,cJ P call -> eV P E call draw) {f : FuncId} {m : Mrk} (hwf : mo m.ss m.gs) (hfn : ∃ fn c,E.fn.lookup f = some fn /\ fn.body = some c)
  (h : ∀ v res upd,(m.F v).run some = some (res,upd) -> ∃ n,Bw E draw n f (ar m.ss m.gs v) = some (res,upd)) : dE P f m := by
 obtain ⟨fn,c,hl,hb⟩ := hfn
 obtain ⟨hf,hn⟩ := hE.fn f fn hl
 refine ⟨hwf,⟨fn,hf,by rw [hb]; rfl,hn⟩,fun v res upd hv B O ρ a w hS => ?_⟩
 obtain ⟨n,hv⟩ := h v res upd hv
 have hC := db hE hD n
 unfold Bw at hv
 rw [show E.find f = some fn from hl] at hv
 simp only [hb] at hv
 exact zd hE hC (hD _ hC) hf hb (hE.lt f fn c hl hb) hv hS
theorem uK (hE : Env.Ok P E) {draw : Env -> aJ -> List Oper -> St -> Bool} (hD : ∀ call,cJ P call -> eV P E call draw) {b : Code} {lt : LT} (hlt : af P b lt) {ss : List SP} {gs : List (Nat × GP)} {F : StT ss gs -> aL (Ex × St)} (n fuel : Nat) (z : Nz)
  (h : ∀ v e st',(F v).run some = some (e,st') -> ∃ N : Nat,dV (ca E (ev E draw n) draw fuel b lt) z N (ar ss gs v) (fun e st => some (e,st)) = some (e,st')) : aH P b ss gs F := by
 intro B O w0 w ρ a v e st' Q hF hS hn
 obtain ⟨N,hv⟩ := h v e st' hF
 have hC := db hE hD n
 refine Ai (R := Ex × St) (r := (e,st')) hE hC (hD _ hC) fuel hlt N (ar ss gs v) ρ a w (fun e st => some (e,st)) Q hS hv fun e1 ρ1 st1 a1 w1 hk h1 => ?_
 cases hk
 exact hn ρ1 a1 w1 h1
theorem Gn (hE : Env.Ok P E) {draw : Env -> aJ -> List Oper -> St -> Bool} (hD : ∀ call,cJ P call -> eV P E call draw) {f : FuncId} {p : Prim}
  (h : ∀ v res out,(p.F v).run some = some (res,out) -> ∃ n,ev E draw n f (SPs.bld (R := Unit) p.ss v).1 [] = some (res,out)) : gG P f p := by
 intro v res out hF
 obtain ⟨n,hn⟩ := h v res out hF
 exact db hE hD n f _ res out hn
end
end Go.Proofs.YtcddhifkfakcjaaGreat.Lib
namespace Go.Proofs.YtcddhifkfakcjaaGreat.Lib
open Go Go.RowKit
set_option linter.unusedVariables false
set_option linter.unusedSimpArgs false
def wQ (sg sg0 : Sig) (vs : List AV) : Option (AV × Sig) :=
 let js := Eh sg ((sg0.map (·.1)).filter (Nat.ble PIN ·)) vs
 bif Mj sg js && js.all (fun q => Nat.blt q.2 PIN || q.1 == q.2) then (match JY (vs.map (·.ren (look js))) with
  | some res => some (res,sg.sel (look js) js)
  | none => none) else none
def Ch (E : Env) (call : aJ) (draw : Env -> aJ -> List Oper -> St -> Bool) (fuel : Nat) (fn : Func) (c : Code) (lt : LT) (st : St) : Option (AV × Sig) :=
 ca E call draw fuel c lt ⟨st.sl ++ List.replicate (fn.ntmps - st.sl.length) (.one .und),st.sg⟩ fun e st' => match e with
  | .exit _ => none
  | _ => (match fP E (st'.ends fn) fn.results.toList with
   | some vs => (match gA E fn.resultTypes.toList (st'.ends fn).sg vs with | (sg,vs) => wQ sg st.sg vs)
   | none => none)
def D2 (E : Env) (draw : Env -> aJ -> List Oper -> St -> Bool) (n : Nat) (f : FuncId) (st : St) : Option (AV × Sig) :=
 match E.find f with
 | some fn => (match fn.body with
  | some c => Ch E (ev E draw n) draw n fn c (E.GF f) st
  | none => none)
 | none => none
section
variable {P : Program} {E : Env} {B : Nat} {O : Ow} {w0 w w' : World} {ρ : al} {a : Act} {R : Type} {r : R} {sg sg' : Sig} {st : St} {call : aJ}
theorem nZ : ∀ {vs : List AV} {us : List Value} {ps : List (Bool × List Cell)},aF (rav ρ w) vs us -> vs.mapM iO = some ps -> aF (rp ρ w) ps us /\ ∀ d,(ps.any fun p => p.2.any (·.ae d)) = true -> ∃ v ∈ vs,v.ae d = true
 | [],us,ps,h,hp => by
  cases h
  simp only [List.mapM_nil,pure,Option.some.injEq] at hp
  subst hp
  exact ⟨.nil,fun d hd => by cases hd⟩
 | v :: vs,us,ps,h,hp => by
  cases h with
  | @cons _ u _ us h0 h1 =>
  rw [List.mapM_cons] at hp
  simp only [bind,Option.bind_eq_some_iff,pure,Option.some.injEq] at hp
  obtain ⟨p,hp,ps',hps,rfl⟩ := hp
  obtain ⟨a1,a2⟩ := nZ h1 hps
  obtain ⟨g,cs⟩ := p
  refine ⟨.cons (fq h0 hp) a1,fun d hd => ?_⟩
  rw [List.any_cons,Bool.or_eq_true] at hd
  rcases hd with hd | hd
  ·refine ⟨v,List.mem_cons_self,?_⟩
   cases v with
   | one c =>
    simp only [iO,Option.some.injEq,Prod.mk.injEq] at hp
    obtain ⟨rfl,rfl⟩ := hp
    simpa [AV.ae] using hd
   | agg l =>
    simp only [iO,Option.some.injEq,Prod.mk.injEq] at hp
    obtain ⟨rfl,rfl⟩ := hp
    exact hd
   | tup l => cases hp
  ·obtain ⟨x,hx,hd⟩ := a2 d hd
   exact ⟨x,List.mem_cons_of_mem _ hx,hd⟩
theorem zD {vs : List AV} {us : List Value} {res : AV} (h : aF (rav ρ w) vs us) (hp : JY vs = some res) : rav ρ w res (pack us) /\ ∀ d,res.ae d = true -> ∃ v ∈ vs,v.ae d = true := by
 unfold JY at hp
 split at hp
 ·cases h
  cases hp
  exact ⟨⟨[],rfl,.nil⟩,fun d hd => by cases hd⟩
 ·rename_i v
  obtain ⟨u,rfl,h9⟩ := h.single
  split at hp
  ·rename_i p hq
   cases hp
   obtain ⟨g,cs⟩ := p
   refine ⟨AG (fq h9 hq),fun d hd => ⟨v,List.mem_cons_self,?_⟩⟩
   obtain ⟨_,h2⟩ := nZ (ρ := ρ) (w := w) (vs := [v]) (us := [u]) (ps := [(g,cs)]) (.cons h9 .nil) (by simp [List.mapM_cons,hq])
   obtain ⟨x,hx,hd⟩ := h2 d (by simpa using uH hd)
   rw [List.mem_singleton] at hx
   subst hx
   exact hd
  ·cases hp
 ·rename_i h1 h2
  split at hp
  ·rename_i ps hq
   cases hp
   obtain ⟨a1,a2⟩ := nZ h hq
   refine ⟨?_,a2⟩
   match us,h with
   | [],h => cases h; exact absurd rfl h1
   | [u],h => obtain ⟨v,rfl⟩ : ∃ v,vs = [v] := (by cases h with | cons _ h => cases h; exact ⟨_,rfl⟩); exact absurd rfl (h2 v)
   | u :: u' :: us,h => exact ⟨_,rfl,a1⟩
  ·cases hp
theorem w4 (hE : Env.Ok P E) (hC : cJ P call) {draw : Env -> aJ -> List Oper -> St -> Bool} (hD : eV P E call draw) {fuel : Nat} {f : FuncId} {fn : Func} {c : Code} {lt : LT} {st0 : St} {res : AV} {fin : Sig} (hf : P.funcs[f]? = some fn) (hb : fn.body = some c) (hlt : af P c lt)
  (hk : Ch E call draw fuel fn c lt st0 = some (res,fin)) (h : Sim P B O w ρ st0 a w) : Calls P f a.tmps w (yP st0.sg ρ w res fin) := by
 unfold Ch at hk
 refine calls_of_wp hf hb ?_
 have h0 : Sim P w.heap.size ⟨fun g => ∃ j,aP ρ st0.sg j g,ρ.ok,ρ.loc⟩ w ρ ⟨st0.sl ++ List.replicate (fn.ntmps - st0.sl.length) (.one .und),st0.sg⟩ { tmps := a.tmps ++ Array.replicate (fn.ntmps - a.tmps.size) undef,defers := [] } w := by
  refine ⟨⟨h.mem.blk,h.mem.inj,fun j g hj => .inr ⟨j,hj⟩,h.mem.okb,h.mem.oko,h.mem.okm,fun b g hg => .inl hg,fun b g hg => hg,h.mem.dom⟩,by simp [h.len],fun i v hi => ?_,fun i v d hi hd => ?_,rfl,da.refl _ _ _,Nat.le_refl _,fun _ _ => rfl,h.RB⟩
  ·rcases Nat.lt_or_ge i st0.sl.length with hlt | hge
   ·rw [List.getElem?_append_left hlt] at hi
    obtain ⟨u,h1,h2⟩ := h.sl i v hi
    exact ⟨u,by rw [Array.getElem?_append_left (by rw [h.len]; exact hlt)]; exact h1,h2⟩
   ·rw [List.getElem?_append_right hge,List.getElem?_replicate] at hi
    split at hi
    ·rename_i hlt
     cases hi
     refine ⟨undef,?_,trivial⟩
     rw [Array.getElem?_append_right (by rw [h.len]; exact hge),Array.getElem?_replicate,if_pos (by rw [h.len]; exact hlt)]
    ·cases hi
  ·rcases Nat.lt_or_ge i st0.sl.length with hlt | hge
   ·rw [List.getElem?_append_left hlt] at hi
    exact h.dom i v d hi hd
   ·rw [List.getElem?_append_right hge,List.getElem?_replicate] at hi
    split at hi
    ·cases hi; cases hd
    ·cases hi
 refine bt hE hC hD fuel c lt _ ρ _ w _ _ hlt h0 hk fun e ρ' st' a' w' hk' h' => ?_
 have fin : (match fP E (st'.ends fn) fn.results.toList with
   | some vs => (match gA E fn.resultTypes.toList (st'.ends fn).sg vs with | (sg,vs) => wQ sg st0.sg vs)
   | none => none) = some (res,fin) -> a'.defers = [] /\ ∃ v,(results fn a'.tmps).run P w' = .ok v w' /\ yP st0.sg ρ w res fin (Ending.returned v) w' := by
  intro hk
  split at hk
  ·rename_i avs hres
   obtain ⟨ρe,he⟩ := h'.ends fn
   obtain ⟨us,h1,h2,hus⟩ := cS hE he hres
   generalize hon : gA E fn.resultTypes.toList (st'.ends fn).sg avs = on at hk
   obtain ⟨sgn,avn⟩ := on
   obtain ⟨ρn,hMn,h1n,hpn⟩ := lh he.mem h1 hus hon
   simp only at hk
   unfold wQ at hk
   simp only [aq] at hk
   split at hk
   ·rename_i hc
    split at hk
    ·rename_i res' hp
     simp only [Option.some.injEq,Prod.mk.injEq] at hk
     obtain ⟨rfl,rfl⟩ := hk
     generalize Eh sgn ((st0.sg.map (·.1)).filter (Nat.ble PIN ·) ) avn = js at hc hp ⊢
     simp only [Mj,Bool.and_eq_true,List.all_eq_true,Bool.or_eq_true,Nat.blt_eq,beq_iff_eq] at hc
     obtain ⟨⟨hj,hjs0⟩,hpin⟩ := hc
     have hjs : ∀ j i,(j,i) ∈ js -> (sgn.get j).isSome = true := fun j i hji => hjs0 (j,i) hji
     have hl : ∀ j i,look js j = some i -> (⟨dz ρn js,ρn.ok⟩ : al).loc i = ρn.loc j := fun j i hi => cy hj (bV hi)
     have hM := hMn.sel hj hjs (ρ' := ⟨dz ρn js,ρn.ok⟩) (fun j i hji => cy hj hji) rfl
     obtain ⟨a1,a2⟩ := zD (h1n.b9 (·.ren (look js)) fun x u _ hx => qI hl rfl hx) hp
     refine ⟨h'.defers,_,eO h2,_,⟨dz ρn js,ρn.ok⟩,rfl,a1,hM,fun i hi hs => ?_,fun d hd => ?_,h'.fr.os,h'.fr.tape,h'.fr.output,h'.fr.size,fun g hg hn => h'.fr.block g hg (fun ⟨j,hj⟩ => hn j hj)⟩
     ·obtain ⟨b,hb⟩ := Option.isSome_iff_exists.1 hs
      obtain ⟨j,_,hji,_⟩ := kJ hj hb
      rcases hpin (j,i) hji with h0 | h0
      ·simp only at h0; omega
      ·simp only at h0
       subst h0
       exact (cy hj hji).trans ((hpn j hi).trans (he.pin j hi))
     ·obtain ⟨v,hv,hd⟩ := a2 d hd
      obtain ⟨x,_,rfl⟩ := List.mem_map.1 hv
      obtain ⟨j,h3,_⟩ := wK hd
      exact iP (bV h3) (hjs j d (bV h3))
    ·cases hk
   ·cases hk
  ·cases hk
 cases e with
 | normal => exact fin hk'
 | ret => exact fin hk'
 | exit i => cases hk'
theorem JC (hE : Env.Ok P E) {draw : Env -> aJ -> List Oper -> St -> Bool} (hD : ∀ call,cJ P call -> eV P E call draw) {f : FuncId} {m : Gen} (hwf : mo m.ss m.gs) (hfn : ∃ fn c,E.fn.lookup f = some fn /\ fn.body = some c)
  (h : ∀ v res fin,(m.F v).run some = some (res,fin) -> ∃ n,D2 E draw n f (ar m.ss m.gs v) = some (res,fin)) : bD P f m := by
 obtain ⟨fn,c,hl,hb⟩ := hfn
 obtain ⟨hf,hn⟩ := hE.fn f fn hl
 refine ⟨hwf,⟨fn,hf,by rw [hb]; rfl,hn⟩,fun v res fin hv B O ρ a w hS => ?_⟩
 obtain ⟨n,hv⟩ := h v res fin hv
 have hC := db hE hD n
 unfold D2 at hv
 rw [show E.find f = some fn from hl] at hv
 simp only [hb] at hv
 exact w4 hE hC (hD _ hC) hf hb (hE.lt f fn c hl hb) hv hS
end
end Go.Proofs.YtcddhifkfakcjaaGreat.Lib
namespace Go.Proofs.YtcddhifkfakcjaaGreat.Lib
open Go Go.RowKit
set_option linter.unusedVariables false
set_option linter.unusedSimpArgs false
def lv (E : Env) (call : aJ) (sg : Sig) (dst : Option Nat) (f : AV) (args : List AV) : Option (AV × Sig) :=
 match f with
 | .one (.fn g caps) => (match dj E sg args with
  | some (args,own) => (eY sg args some).bind fun args => (v8 E call g (args ++ caps.map fun c => .one (.eptr c.1 c.2 0 true))).bind fun r =>
   bif !own || (r.1.dT && r.2.all (·.2.dT)) then (match dst with
    | some d => bif r.2.all (fun q => sg.free (q.1 + d)) then some (r.1.shift d,r.2.shift d) else none
    | none => some (.one .und,[])) else none
  | none => none)
 | _ => none
def kF (E : Env) (sg : Sig) (dst : Option Nat) (t : TypeId) (n : Nat) (ps : List (Nat × AV)) : Option (AV × Sig) :=
 match dst,E.ti.lookup t with
 | some d,some { td := .slice e,.. } => (match E.ti.lookup e with
  | some { ty := some τ,.. } => bif τ.flat && sg.free d && (n == ps.length) && Nat.ble (n * τ.sz) 16777216 then
    (match bB false τ ps 0 with
    | some l => some (.one (.sl d),[(d,.arr e τ l false)])
    | none => none) else none
  | _ => none)
 | _,_ => none
def hop (E : Env) (call : aJ) (sg : Sig) (ρ : Operand -> AV) (o : Oper) : Option (AV × Sig) :=
 match o.op with
 | .store _ _ _ => none
 | .call c => (match c.callee,c.args.toList,c.argTypes.toList with
  | .builtin .append,[_,_],[_,_] => none
  | .builtin .clear,[_],[_] => none
  | .value f,args,_ => lv E call sg o.dst (ρ f) (args.map ρ)
  | _,_,_ => qop E sg ρ o.dst o.op fun v add => some (v,add))
 | .buildSlice t n ps => kF E sg o.dst t n (ps.toList.map fun p => (p.1,ρ p.2))
 | _ => qop E sg ρ o.dst o.op fun v add => some (v,add)
def tst (all : List Oper) (o : Oper) : List Operand :=
 match o.guard with
 | none => []
 | some (j,_) => (match (all[j]?).bind (·.dst) with | some t => [.tmp t] | none => [])
def opn (all : List Oper) (o : Oper) : List Operand := tst all o ++ o.op.operands.toList
def bT (o : Oper) : Bool := match o.op with | .store _ _ _ => true | _ => false
def hst (E : Env) (sg : Sig) (t : TypeId) (p v : AV) : Option (AV × Sig) :=
 match p,v.cells?,E.ti.lookup t with
 | .one (.ptr j i c),some cs,some ti => bif cs.length == ti.sz then (match sg.get j with
  | some (.box ty old) => (match i with
   | 0 => bif Nat.ble (c + ti.sz) old.length then some (.one .und,[(j,.box ty (old.take c ++ cs ++ old.drop (c + ti.sz)))]) else none
   | _ => none)
  | _ => none) else none
 | _,_,_ => none
def sop (E : Env) (call : aJ) (sg : Sig) (ρ : Operand -> AV) (o : Oper) : Option (AV × Sig) :=
 match o.op with
 | .store t a v => hst E sg t (ρ a) (ρ v)
 | _ => hop E call sg ρ o
def HY : Bool -> Sig -> Sig -> Sig
 | true,new,sg => (match new with | [(j,b)] => sg.put j b | _ => sg)
 | false,new,sg => new ++ sg
def aft (o : Oper) (p : AV × Sig) (s : St) : St := St.put o.dst p.1 ⟨s.sl,HY (bT o) p.2 s.sg⟩
def gop (E : Env) (call : aJ) (all : List Oper) (sg : Sig) (ρ : Operand -> AV) (o : Oper) : Option (AV × Sig) :=
 match o.guard with
 | none => sop E call sg ρ o
 | some (j,want) => (match (all[j]?).bind (·.dst) with
  | some t => (match ρ (.tmp t) with
   | .one (.bool v) => bif v == want then hop E call sg ρ o else some (.tup [],[])
   | .tup [] => some (.tup [],[])
   | _ => none)
  | none => none)
def Jl (E : Env) (f : Operand) : Bool :=
 match E.gen with
 | [] => true
 | q :: l => (match f with | .func g => (q :: l).all fun p => !(p.1 == g) | _ => false)
theorem qk {sg : Sig} {args : List AV} {g : FuncId} : ∀ {l : List (FuncId × Gen)},(l.all fun p => !(p.1 == g)) = true -> iJ sg args g l = none
 | [],_ => rfl
 | (f,m) :: l,h => by
  simp only [List.all_cons,Bool.and_eq_true,Bool.not_eq_true'] at h
  simp only [iJ,h.1,cond_false]
  exact qk h.2
theorem rY {E : Env} {f : Operand} (h : Jl E f = true) {R : Type} (st : St) (dst : Option Nat) (args : List AV) (k : St -> Option R) (other : Option R) :
  (match E.gen with | [] => other | _ :: _ => kc E st dst (au st.sl f) args k other) = other := by
 unfold Jl at h
 cases hg : E.gen with
 | nil => rfl
 | cons q l =>
  rw [hg] at h
  simp only at h
  split at h
  ·rename_i g
   simp only [kc,au,hg,qk h]
  ·cases h
def dc (E : Env) (o : Oper) : Bool :=
 true && (match o.op with
 | .store _ a _ => o.guard.isNone && (match a with | .tmp _ => true | _ => false)
 | .call c => (match c.callee,c.args.toList,c.argTypes.toList with
  | .builtin .append,[_,_],[_,_] => false
  | .builtin .clear,[_],[_] => false
  | .value f,_,_ => o.dst.isSome && ((C3 E f).isNone && Jl E f)
  | _,_,_ => true)
 | .buildSlice t _ _ => (match E.ti.lookup t with
  | some { td := .slice e,.. } => (match E.ti.lookup e with
   | some { ty := some τ,.. } => τ.flat
   | _ => false)
  | _ => false)
 | _ => true)
section par
variable {R : Type} {r : R}
theorem mc {op : BinOp} {k : IntKind} {x y : Int} {kk : Cell -> Option R} (h : kr op k x y kk = some r) : ∃ c,(∀ {S : Type} (f : Cell -> Option S),kr op k x y f = f c) /\ kk c = some r := by
 cases op <;> simp only [kr] at h ⊢
 case quo =>
  split at h
  ·cases h
  ·rename_i h0; exact ⟨_,fun f => by rw [if_neg h0],h⟩
 case rem =>
  split at h
  ·cases h
  ·rename_i h0; exact ⟨_,fun f => by rw [if_neg h0],h⟩
 case shl =>
  split at h
  ·cases h
  ·rename_i h0; exact ⟨_,fun f => by rw [if_neg h0],h⟩
 case shr =>
  split at h
  ·cases h
  ·rename_i h0; exact ⟨_,fun f => by rw [if_neg h0],h⟩
 all_goals first | cases h | exact ⟨_,fun f => rfl,h⟩
theorem Dx {op : BinOp} {x y : ByteArray} {kk : Cell -> Option R} (h : tc op x y kk = some r) : ∃ c,(∀ {S : Type} (f : Cell -> Option S),tc op x y f = f c) /\ kk c = some r := by
 cases op <;> simp only [tc] at h ⊢
 case add =>
  split at h
  ·rename_i h0; exact ⟨_,fun f => by rw [if_pos h0],h⟩
  ·cases h
 all_goals first | cases h | exact ⟨_,fun f => rfl,h⟩
theorem xY {op : BinOp} {x y : Cell} {kk : Cell -> Option R} (h : gQ op x y kk = some r) : ∃ c,(∀ {S : Type} (f : Cell -> Option S),gQ op x y f = f c) /\ kk c = some r := by
 unfold gQ at h
 split at h
 ·split at h
  ·obtain ⟨c,h1,h2⟩ := mc h; exact ⟨c,fun f => h1 f,h2⟩
  ·obtain ⟨c,h1,h2⟩ := mc h; exact ⟨c,fun f => h1 f,h2⟩
  ·rename_i n1 n2
   split at h
   ·rename_i hk
    obtain ⟨c,h1,h2⟩ := mc h
    refine ⟨c,fun f => ?_,h2⟩
    rw [← h1 f]
    unfold gQ
    cases op <;> first | (exact absurd rfl n1; done) | (exact absurd rfl n2; done) | (simp only [if_pos hk]; done) | rfl
   ·cases h
 ·obtain ⟨c,h1,h2⟩ := Dx h; exact ⟨c,fun f => h1 f,h2⟩
 ·cases h
theorem Cz {op : UnOp} {x : Cell} {kk : Cell -> Option R} (h : rG op x kk = some r) : ∃ c,(∀ {S : Type} (f : Cell -> Option S),rG op x f = f c) /\ kk c = some r := by
 unfold rG at h
 split at h
 ·exact ⟨_,fun f => rfl,h⟩
 ·exact ⟨_,fun f => rfl,h⟩
 ·cases h
def dL (sg sg' : Sig) (U : Nat -> Bool) : Prop := ∀ j b,U j = true -> sg.get j = some b -> sg'.get j = some b
theorem Af {sg : Sig} {x : Cell} {kk : Int -> Option R} (h : fj sg x kk = some r) : ∃ n,(∀ {S : Type} (f : Int -> Option S) (sg' : Sig),dL sg sg' (fun j => x.ae j) -> fj sg' x f = f n) /\ kk n = some r := by
 unfold fj at h
 split at h
 ·exact ⟨_,fun f _ _ => rfl,h⟩
 ·exact ⟨_,fun f _ _ => rfl,h⟩
 ·exact ⟨_,fun f _ _ => rfl,h⟩
 ·exact ⟨_,fun f _ _ => rfl,h⟩
 ·rename_i j
  split at h
  ·rename_i e t l b hj
   exact ⟨_,fun f sg' ha => by simp only [fj,ha j _ (by simp [Cell.ae]) hj],h⟩
  ·rename_i e t l b hj
   exact ⟨_,fun f sg' ha => by simp only [fj,ha j _ (by simp [Cell.ae]) hj],h⟩
  ·cases h
 ·rename_i j
  split at h
  ·rename_i e t l hj
   exact ⟨_,fun f sg' ha => by simp only [fj,ha j _ (by simp [Cell.ae]) hj],h⟩
  ·cases h
 ·cases h
theorem DE {sg : Sig} {n : Nat} {x : Cell} {i : Int} {kk : Cell -> Option R} (h : gF sg n x i kk = some r) : ∃ c,(∀ {S : Type} (f : Cell -> Option S) (sg' : Sig),dL sg sg' (fun j => x.ae j) -> gF sg' n x i f = f c) /\ kk c = some r := by
 unfold gF at h
 split at h
 ·simp only [aq] at h
  split at h
  ·rename_i h0
   split at h
   ·rename_i h1
    split at h
    ·rename_i y hy
     exact ⟨_,fun f _ _ => by simp only [gF,h0,cond_true,if_pos h1,hy],h⟩
    ·cases h
   ·cases h
  ·cases h
 ·rename_i j
  split at h
  ·rename_i e t l b hj
   simp only [aq] at h
   split at h
   ·rename_i h0
    split at h
    ·rename_i h1
     split at h
     ·rename_i h2
      exact ⟨_,fun f sg' ha => by simp only [gF,ha j _ (by simp [Cell.ae]) hj,h0,cond_true,if_pos h1,if_pos h2],h⟩
     ·cases h
    ·cases h
   ·cases h
  ·rename_i e t l b hj
   simp only [aq] at h
   split at h
   ·rename_i h0
    split at h
    ·rename_i h1
     split at h
     ·rename_i y hy
      exact ⟨_,fun f sg' ha => by simp only [gF,ha j _ (by simp [Cell.ae]) hj,h0,cond_true,if_pos h1,hy],h⟩
     ·cases h
    ·cases h
   ·cases h
  ·cases h
 ·rename_i j
  split at h
  ·rename_i e t l hj
   simp only [aq] at h
   split at h
   ·rename_i h0
    split at h
    ·rename_i h1
     split at h
     ·rename_i h2
      exact ⟨_,fun f sg' ha => by simp only [gF,ha j _ (by simp [Cell.ae]) hj,h0,cond_true,if_pos h1,if_pos h2],h⟩
     ·cases h
    ·cases h
   ·cases h
  ·cases h
 ·rename_i j off len
  split at h
  ·rename_i e t l b hj
   simp only [aq] at h
   split at h
   ·rename_i h0
    split at h
    ·rename_i h1
     split at h
     ·rename_i h2
      split at h
      ·rename_i h3
       exact ⟨_,fun f sg' ha => by simp only [gF,ha j _ (by simp [Cell.ae]) hj,h0,cond_true,if_pos h1,if_pos h2,if_pos h3],h⟩
      ·cases h
     ·cases h
    ·cases h
   ·cases h
  ·cases h
 ·cases h
theorem uj {sg : Sig} {n : Nat} {x : Cell} {lo hi : Option Int} {kk : Cell -> Option R} (h : cQ sg n x lo hi kk = some r) : ∃ c,(∀ {S : Type} (f : Cell -> Option S) (sg' : Sig),dL sg sg' (fun j => x.ae j) -> cQ sg' n x lo hi f = f c) /\ kk c = some r := by
 unfold cQ at h
 split at h
 ·obtain ⟨p,q,_,_,h3,h4,_⟩ := cR h
  exact ⟨_,fun f _ _ => by simp only [cQ]; exact h4 _,h3⟩
 ·obtain ⟨p,q,_,_,h3,h4,_⟩ := cR h
  exact ⟨_,fun f _ _ => by simp only [cQ]; exact h4 _,h3⟩
 ·rw [aq] at h
  split at h
  ·rename_i h0
   obtain ⟨p,q,_,_,h3,h4,_⟩ := cR h
   exact ⟨_,fun f _ _ => by simp only [cQ,h0,cond_true]; exact h4 _,h3⟩
  ·cases h
 ·rename_i j
  split at h
  ·rename_i hj
   rw [aq] at h
   split at h
   ·rename_i h0
    obtain ⟨p,q,_,_,h3,h4,_⟩ := cR h
    exact ⟨_,fun f sg' ha => by simp only [cQ,ha j _ (by simp [Cell.ae]) hj,h0,cond_true]; exact h4 _,h3⟩
   ·cases h
  ·rename_i hj
   rw [aq] at h
   split at h
   ·rename_i h0
    obtain ⟨p,q,_,_,h3,h4,_⟩ := cR h
    exact ⟨_,fun f sg' ha => by simp only [cQ,ha j _ (by simp [Cell.ae]) hj,h0,cond_true]; exact h4 _,h3⟩
   ·cases h
  ·cases h
 ·cases h
theorem ta {ρ ρ' : Operand -> AV} {x : Option Operand} (h : ∀ y,x = some y -> ρ' y = ρ y) : eK ρ' x = eK ρ x := by
 cases x with
 | none => rfl
 | some y => simp only [eK,h y rfl]
theorem tY {sg : Sig} {n : Nat} {p : Cell} {kk : List Cell -> Option R} (h : loadCells sg n p kk = some r) : ∃ cs,(∀ {S : Type} (f : List Cell -> Option S) (sg' : Sig),dL sg sg' (fun j => p.ae j) -> loadCells sg' n p f = f cs) /\ kk cs = some r := by
 unfold loadCells at h
 split at h
 ·split at h
  ·rename_i cs hw
   exact ⟨_,fun f _ _ => by simp only [loadCells,hw],h⟩
  ·cases h
 ·rename_i j i c
  split at h
  ·rename_i ty cs hj
   split at h
   ·split at h
    ·rename_i cs hw
     exact ⟨_,fun f sg' ha => by simp only [loadCells,ha j _ (by simp [Cell.ae]) hj,hw],h⟩
    ·cases h
   ·cases h
  ·rename_i e t l b hj
   split at h
   ·rename_i x hx
    split at h
    ·rename_i cs hw
     exact ⟨_,fun f sg' ha => by simp only [loadCells,ha j _ (by simp [Cell.ae]) hj,hx,hw],h⟩
    ·cases h
   ·cases h
  ·cases h
 ·rename_i j i c
  split at h
  ·rename_i e t l hj
   split at h
   ·rename_i x hx
    split at h
    ·rename_i cs hw
     exact ⟨_,fun f sg' ha => by simp only [loadCells,ha j _ (by simp [Cell.ae]) hj,hx,hw],h⟩
    ·cases h
   ·cases h
  ·cases h
 ·cases h
end par
end Go.Proofs.YtcddhifkfakcjaaGreat.Lib
namespace Go.Proofs.YtcddhifkfakcjaaGreat.Lib
open Go Go.RowKit
set_option linter.unusedVariables false
set_option linter.unusedSimpArgs false
section par
variable {R : Type} {r : R}
def Qk (E : Env) (sg : Sig) (ρ : Operand -> AV) (dst : Option Nat) (op : Op) (p : AV × Sig) : Prop :=
 (∀ {S : Type} (f : AV -> Sig -> Option S) (sg' : Sig) (ρ' : Operand -> AV),(∀ x ∈ op.operands.toList,ρ' x = ρ x) -> (∀ x ∈ op.operands.toList,dL sg sg' (fun j => (ρ x).ae j)) -> (∀ q ∈ p.2,sg'.get q.1 = none) -> qop E sg' ρ' dst op f = f p.1 p.2) /\ ∀ q ∈ p.2,sg.get q.1 = none
theorem nt {sg sg' : Sig} {ρ ρ' : Operand -> AV} : ∀ {xs : List Operand} {js : List Nat},jf sg ρ xs = some js -> (∀ x ∈ xs,ρ' x = ρ x) -> (∀ x ∈ xs,dL sg sg' (fun j => (ρ x).ae j)) -> jf sg' ρ' xs = some js
 | [],js,h,_,_ => h
 | x :: xs,js,h,h1,ha => by
  simp only [jf] at h ⊢
  rw [h1 x List.mem_cons_self]
  have ha0 := ha x List.mem_cons_self
  split at h
  ·rename_i j hx
   rw [hx] at ha0
   split at h
   ·rename_i ty cs hj
    split at h
    ·rename_i l hl
     simp only [ha0 j _ (by simp [AV.ae,Cell.ae]) hj,nt hl (fun x hx => h1 x (List.mem_cons_of_mem _ hx)) (fun x hx => ha x (List.mem_cons_of_mem _ hx))]
     exact h
    ·cases h
   ·cases h
  ·cases h
theorem xV {E : Env} {sg : Sig} {ρ : Operand -> AV} {dst : Option Nat} {op : Op} {k : AV -> Sig -> Option R} (h : qop E sg ρ dst op k = some r) : ∃ p,Qk E sg ρ dst op p /\ k p.1 p.2 = some r := by
 cases op <;> simp only [qop] at h <;> try (cases h; done)
 case move x => exact ⟨(ρ x,[]),⟨fun f sg' ρ' h1 _ _ => by simp only [qop]; rw [h1 x (by simp [Op.operands])],fun q hq => by cases hq⟩,h⟩
 case assign x => exact ⟨(ρ x,[]),⟨fun f sg' ρ' h1 _ _ => by simp only [qop]; rw [h1 x (by simp [Op.operands])],fun q hq => by cases hq⟩,h⟩
 case pick c x y =>
  split at h
  ·rename_i p q hp hq
   split at h
   ·rename_i v hv
    exact ⟨(.one (.bool (bif v then p else q)),[]),⟨fun f sg' ρ' h1 _ _ => by
     simp only [qop]
     rw [h1 x (by simp [Op.operands]),h1 y (by simp [Op.operands]),h1 c (by simp [Op.operands]),hp,hq]
     simp only [hv],fun q hq => by cases hq⟩,h⟩
   ·cases h
  ·rename_i n1
   split at h
   ·rename_i hv
    exact ⟨(ρ x,[]),⟨fun f sg' ρ' h1 _ _ => by
     simp only [qop]
     rw [h1 x (by simp [Op.operands]),h1 y (by simp [Op.operands]),h1 c (by simp [Op.operands])]
     simp only [hv],fun q hq => by cases hq⟩,h⟩
   ·rename_i hv
    exact ⟨(ρ y,[]),⟨fun f sg' ρ' h1 _ _ => by
     simp only [qop]
     rw [h1 x (by simp [Op.operands]),h1 y (by simp [Op.operands]),h1 c (by simp [Op.operands])]
     simp only [hv],fun q hq => by cases hq⟩,h⟩
   ·cases h
 case alloc t =>
  split at h
  ·rename_i d td sz by_ τ ht
   simp only [aq] at h
   split at h
   ·rename_i hn
    exact ⟨(_,_),⟨fun f sg' ρ' h1 _ hf => by
     have := Sig.a8.2 ⟨hf _ List.mem_cons_self,(Sig.a8.1 hn).2⟩
     simp only [qop,ht,this,cond_true],fun q hq => by rw [List.mem_singleton.1 hq]; exact (Sig.a8.1 hn).1⟩,h⟩
   ·cases h
  ·cases h
 case box t x =>
  split at h
  ·rename_i d i cs ht hc
   simp only [aq] at h
   split at h
   ·rename_i hn
    simp only [Bool.and_eq_true,Sig.a8] at hn
    exact ⟨(_,_),⟨fun f sg' ρ' h1 _ hf => by
     have := Sig.a8.2 ⟨hf _ List.mem_cons_self,hn.1.2⟩
     simp only [qop,ht,h1 x (by simp [Op.operands]),hc,this,hn.2,Bool.and_self,cond_true],fun q hq => by rw [List.mem_singleton.1 hq]; exact hn.1.1⟩,h⟩
   ·cases h
  ·cases h
 case load t x =>
  split at h
  ·rename_i p i hp ht
   simp only [aq] at h
   split at h
   ·rename_i hz
    obtain ⟨cs,h2,h3⟩ := tY h
    split at h3
    ·rename_i v hv
     exact ⟨(v,[]),⟨fun f sg' ρ' h1 ha _ => by
      have ha := ha x (by simp [Op.operands])
      rw [hp] at ha
      simp only [qop,h1 x (by simp [Op.operands]),hp,ht,hz,cond_true]
      rw [h2 _ sg' ha]
      simp only [hv],fun q hq => by cases hq⟩,h3⟩
    ·cases h3
   ·cases h
  ·cases h
 case nilCheck x =>
  split at h <;> first
   | (rename_i hp; exact ⟨(_,[]),⟨fun f sg' ρ' h1 _ _ => by simp only [qop,h1 x (by simp [Op.operands]),hp],fun q hq => by cases hq⟩,h⟩)
   | cases h
 case binOp op t x y t' =>
  split at h
  ·rename_i p q hp hq
   simp only [aq] at h
   split at h
   ·rename_i hb
    split at h
    ·exact ⟨(_,[]),⟨fun f sg' ρ' h1 _ _ => by simp only [qop,h1 x (by simp [Op.operands]),h1 y (by simp [Op.operands]),hp,hq,hb,cond_true],fun q hq => by cases hq⟩,h⟩
    ·exact ⟨(_,[]),⟨fun f sg' ρ' h1 _ _ => by simp only [qop,h1 x (by simp [Op.operands]),h1 y (by simp [Op.operands]),hp,hq,hb,cond_true],fun q hq => by cases hq⟩,h⟩
    ·cases h
   ·cases h
  ·rename_i c d n1 hc hd
   obtain ⟨e,h2,h3⟩ := xY h
   refine ⟨(.one e,[]),⟨fun f sg' ρ' h1 _ _ => ?_,fun q hq => by cases hq⟩,h3⟩
   simp only [qop,h1 x (by simp [Op.operands]),h1 y (by simp [Op.operands]),hc,hd]
   exact h2 _
  ·rename_i cs ds hc hd
   simp only [aq] at h
   split at h
   ·rename_i hq
    split at h
    ·rename_i fs sz by_ ty ht
     split at h
     ·rename_i b hb
      split at h
      ·exact ⟨(_,[]),⟨fun f sg' ρ' h1 _ _ => by simp only [qop,h1 x (by simp [Op.operands]),h1 y (by simp [Op.operands]),hc,hd,hq,cond_true,ht,hb],fun q hq => by cases hq⟩,h⟩
      ·exact ⟨(_,[]),⟨fun f sg' ρ' h1 _ _ => by simp only [qop,h1 x (by simp [Op.operands]),h1 y (by simp [Op.operands]),hc,hd,hq,cond_true,ht,hb],fun q hq => by cases hq⟩,h⟩
      ·cases h
     ·cases h
    ·cases h
   ·cases h
  ·cases h
 case unOp op t x =>
  split at h
  ·rename_i c hc
   obtain ⟨e,h2,h3⟩ := Cz h
   refine ⟨(.one e,[]),⟨fun f sg' ρ' h1 _ _ => ?_,fun q hq => by cases hq⟩,h3⟩
   simp only [qop,h1 x (by simp [Op.operands]),hc]
   exact h2 _
  ·cases h
 case makeSlice t x y =>
  split at h
  ·rename_i d e sz by_ ty n m ht hx hy
   split at h
   ·rename_i td sz' by' τ he
    simp only [aq] at h
    split at h
    ·rename_i hn
     split at h
     ·rename_i h0
      split at h
      ·rename_i h1'
       split at h
       ·rename_i h2'
        simp only [Bool.and_eq_true,Sig.a8] at hn
        split at h
        ·rename_i h3'
         exact ⟨(_,[(d,_)]),⟨fun f sg' ρ' h1 _ hf => by
          have := Sig.a8.2 ⟨hf _ List.mem_cons_self,hn.1.2⟩
          simp only [qop,ht,h1 x (by simp [Op.operands]),h1 y (by simp [Op.operands]),hx,hy,he,this,hn.2,Bool.and_self,cond_true,if_pos h0,if_pos h1',if_pos h2',aq,if_pos h3']
          rfl,fun q hq => by rw [List.mem_singleton.1 hq]; exact hn.1.1⟩,h⟩
        ·rename_i h3'
         exact ⟨(_,[(d,_)]),⟨fun f sg' ρ' h1 _ hf => by
          have := Sig.a8.2 ⟨hf _ List.mem_cons_self,hn.1.2⟩
          simp only [qop,ht,h1 x (by simp [Op.operands]),h1 y (by simp [Op.operands]),hx,hy,he,this,hn.2,Bool.and_self,cond_true,if_pos h0,if_pos h1',if_pos h2',aq,if_neg h3']
          rfl,fun q hq => by rw [List.mem_singleton.1 hq]; exact hn.1.1⟩,h⟩
       ·cases h
      ·cases h
     ·cases h
    ·cases h
   ·cases h
  ·cases h
 case fieldAddr t x f =>
  split at h
  ·rename_i p fs sz by_ ty hp ht
   split at h
   ·rename_i ft off hf
    split at h
    ·exact ⟨(_,[]),⟨fun g sg' ρ' h1 _ _ => by simp only [qop,h1 x (by simp [Op.operands]),hp,ht,hf],fun q hq => by cases hq⟩,h⟩
    ·exact ⟨(_,[]),⟨fun g sg' ρ' h1 _ _ => by simp only [qop,h1 x (by simp [Op.operands]),hp,ht,hf],fun q hq => by cases hq⟩,h⟩
    ·exact ⟨(_,[]),⟨fun g sg' ρ' h1 _ _ => by simp only [qop,h1 x (by simp [Op.operands]),hp,ht,hf],fun q hq => by cases hq⟩,h⟩
    ·cases h
   ·cases h
  ·cases h
 case field t x f =>
  split at h
  ·rename_i cs fs sz by_ ty hp ht
   split at h
   ·rename_i ft off hf
    split at h
    ·rename_i ti hft
     split at h
     ·rename_i cs' hw
      split at h
      ·rename_i v hv
       exact ⟨(v,[]),⟨fun g sg' ρ' h1 _ _ => by simp only [qop,h1 x (by simp [Op.operands]),hp,ht,hf,hft,hw,hv],fun q hq => by cases hq⟩,h⟩
      ·cases h
     ·cases h
    ·cases h
   ·cases h
  ·cases h
 case indexAddr t x i =>
  split at h
  ·rename_i c ik n e sz by_ ty hp hi ht
   split at h
   ·rename_i ie he
    obtain ⟨p,h2,h3⟩ := DE h
    refine ⟨(.one p,[]),⟨fun f sg' ρ' h1 ha _ => ?_,fun q hq => by cases hq⟩,h3⟩
    have ha := ha x (by simp [Op.operands])
    rw [hp] at ha
    simp only [qop,h1 x (by simp [Op.operands]),h1 i (by simp [Op.operands]),hp,hi,ht,he]
    exact h2 _ sg' ha
   ·cases h
  ·cases h
 case index t x i =>
  split at h
  ·rename_i s ik n hp hi
   simp only [aq] at h
   split at h
   ·rename_i hs
    split at h
    ·rename_i h0
     split at h
     ·rename_i b hb
      exact ⟨(_,[]),⟨fun f sg' ρ' h1 _ _ => by simp only [qop,h1 x (by simp [Op.operands]),h1 i (by simp [Op.operands]),hp,hi,hs,cond_true,if_pos h0,hb],fun q hq => by cases hq⟩,h⟩
     ·cases h
    ·cases h
   ·cases h
  ·cases h
 case slice t x lo hi mx =>
  split at h
  ·have hlo : ∀ {ρ' : Operand -> AV},(∀ y ∈ (Op.slice t x lo hi none).operands.toList,ρ' y = ρ y) -> eK ρ' lo = eK ρ lo /\ eK ρ' hi = eK ρ hi := fun hh =>
    ⟨ta fun y hy => hh y (by simp [Op.operands,hy]),ta fun y hy => hh y (by simp [Op.operands,hy])⟩
   split at h
   ·rename_i s sz by_ l u hp ht hl hu
    obtain ⟨p,q,_,_,h3,h4,_⟩ := cR h
    exact ⟨(.one (.str (s.extract p q)),[]),⟨fun f sg' ρ' h1 _ _ => by
     simp only [qop,h1 x (by simp [Op.operands]),(hlo h1).1,(hlo h1).2,hp,ht,hl,hu]; exact h4 _,fun q hq => by cases hq⟩,h3⟩
   ·rename_i c e sz by_ ty l u hp ht hl hu
    split at h
    ·rename_i ie he
     obtain ⟨p,h2,h3⟩ := uj h
     refine ⟨(.one p,[]),⟨fun f sg' ρ' h1 ha _ => ?_,fun q hq => by cases hq⟩,h3⟩
     have ha := ha x (by simp [Op.operands])
     rw [hp] at ha
     simp only [qop,h1 x (by simp [Op.operands]),(hlo h1).1,(hlo h1).2,hp,ht,hl,hu,he]
     exact h2 _ sg' ha
    ·cases h
   ·cases h
  ·cases h
 case convert src dst x =>
  split at h
  ·rename_i q n si sz by_ k' hv hs hd
   exact ⟨(_,[]),⟨fun f' sg' ρ' h1 _ _ => by simp only [qop,h1 x (by simp [Op.operands]),hv,hs,hd],fun q hq => by cases hq⟩,h⟩
  ·rename_i q n si sz by_ hv hs hd
   exact ⟨(_,[]),⟨fun f' sg' ρ' h1 _ _ => by simp only [qop,h1 x (by simp [Op.operands]),hv,hs,hd],fun q hq => by cases hq⟩,h⟩
  ·rename_i c e sz1 by1 ty1 sz2 by2 hn1 hv hs hd
   split at h
   ·rename_i sz3 by3 he
    split at h
    ·rename_i l hl
     refine ⟨(_,[]),⟨fun f' sg' ρ' h1 ha _ => ?_,fun q hq => by cases hq⟩,h⟩
     have ha := ha x (by simp [Op.operands])
     rw [hv] at ha
     have hl' : bytesOf sg' c = some l := by
      unfold bytesOf at hl ⊢
      split at hl
      ·exact hl
      ·exact hl
      ·exact hl
      ·rename_i j
       split at hl
       ·rename_i hj; rw [ha j _ (by simp [AV.ae,Cell.ae]) hj]; exact hl
       ·rename_i hj; rw [ha j _ (by simp [AV.ae,Cell.ae]) hj]; exact hl
       ·cases hl
      ·cases hl
     cases c with
     | int q n => cases hl
     | _ => simp only [qop,h1 x (by simp [Op.operands]),hv,hs,hd,he,hl']
    ·cases h
   ·cases h
  ·rename_i s sz1 by1 e sz2 by2 ty2 hv hs hn1
   split at h
   ·rename_i d sz3 by3 he
    simp only [aq] at h
    split at h
    ·rename_i hn
     split at h
     ·rename_i hle
      rw [Sig.a8] at hn
      exact ⟨(_,_),⟨fun f sg' ρ' h1 _ hf => by
       have := Sig.a8.2 ⟨hf _ List.mem_cons_self,hn.2⟩
       simp only [qop,h1 x (by simp [Op.operands]),hv,hs,hn1,he,this,cond_true,if_pos hle],fun q hq => by rw [List.mem_singleton.1 hq]; exact hn.1⟩,h⟩
     ·cases h
    ·cases h
   ·cases h
  ·cases h
 case build t ps =>
  split at h
  ·rename_i fs sz by_ τ ht
   split at h
   ·rename_i cs hf
    refine ⟨(.agg cs,[]),⟨fun f' sg' ρ' h1 _ _ => ?_,fun q hq => by cases hq⟩,h⟩
    have : (ps.toList.map fun p => (p.1,ρ' p.2)) = ps.toList.map fun p => (p.1,ρ p.2) := by
     apply List.map_congr_left
     intro p hp
     rw [h1 p.2 (by simp only [Op.operands,Array.toList_map]; exact List.mem_map.2 ⟨p,hp,rfl⟩)]
    simp only [qop,ht,this,hf]
   ·cases h
  ·cases h
 case makeFunc fn first captured =>
  split at h
  ·rename_i f hf
   split at h
   ·rename_i js hjs
    refine ⟨(.one (Kt f js),[]),⟨fun f' sg' ρ' h1 ha _ => ?_,fun q hq => by cases hq⟩,h⟩
    have : jf sg' ρ' captured.toList = some js := nt hjs (fun x hx => h1 x (by simp [Op.operands]; exact .inr (by simpa using hx))) (fun x hx => ha x (by simp [Op.operands]; exact .inr (by simpa using hx)))
    simp only [qop,hf,this]
   ·cases h
  ·cases h
 case extract x i =>
  split at h
  ·rename_i ps hp
   split at h
   ·rename_i g cs hi
    split at h
    ·rename_i v hv
     exact ⟨(v,[]),⟨fun f sg' ρ' h1 _ _ => by simp only [qop,h1 x (by simp [Op.operands]),hp,hi,hv],fun q hq => by cases hq⟩,h⟩
    ·cases h
   ·cases h
  ·cases h
 case call c =>
  have hops : ∀ x ∈ c.args.toList,x ∈ (Op.call c).operands.toList := by
   intro x hx
   simp only [Op.operands,Call.operands,Array.toList_append,List.mem_append]
   exact .inr hx
  split at h
  ·rename_i x t ts hc ha hat
   have hx := hops x (by rw [ha]; simp)
   split at h
   ·rename_i s sz by_ hp ht
    exact ⟨(_,[]),⟨fun f sg' ρ' h1 _ _ => by simp only [qop,hc,ha,hat,h1 x hx,hp,ht],fun q hq => by cases hq⟩,h⟩
   ·rename_i cl e sz by_ ty hp ht
    obtain ⟨n,h2,h3⟩ := Af h
    refine ⟨(.one (.int .i64 n),[]),⟨fun f sg' ρ' h1 hag _ => ?_,fun q hq => by cases hq⟩,h3⟩
    have hag := hag x hx
    rw [hp] at hag
    simp only [qop,hc,ha,hat,h1 x hx,hp,ht]
    exact h2 _ sg' hag
   ·cases h
  ·rename_i ts x y hc ha
   have hx := hops x (by rw [ha]; simp)
   have hy := hops y (by rw [ha]; simp)
   split at h
   ·rename_i q p q' p' hp hp'
    split at h
    ·rename_i hq
     exact ⟨(_,[]),⟨fun f sg' ρ' h1 _ _ => by simp only [qop,hc,ha,h1 x hx,h1 y hy,hp,hp',if_pos hq],fun q hq => by cases hq⟩,h⟩
    ·cases h
   ·cases h
  ·rename_i ts x y hc ha
   have hx := hops x (by rw [ha]; simp)
   have hy := hops y (by rw [ha]; simp)
   split at h
   ·rename_i q p q' p' hp hp'
    split at h
    ·rename_i hq
     exact ⟨(_,[]),⟨fun f sg' ρ' h1 _ _ => by simp only [qop,hc,ha,h1 x hx,h1 y hy,hp,hp',if_pos hq],fun q hq => by cases hq⟩,h⟩
    ·cases h
   ·cases h
  ·cases h
end par
end Go.Proofs.YtcddhifkfakcjaaGreat.Lib
namespace Go.Proofs.YtcddhifkfakcjaaGreat.Lib
open Go Go.RowKit
set_option linter.unusedVariables false
set_option linter.unusedSimpArgs false
section
variable {E : Env} {call : aJ} {R : Type} {r : R} {sg sg' : Sig}
theorem mz : ∀ {t : Ty} {b : Bool} (b' : Bool) {cs : List Cell} {p : t.T × List Cell},t.flat = true -> t.parse b cs = some p -> t.parse b' cs = some p /\ ∃ pre,cs = pre ++ p.2 /\ pre.all Cell.plain = true
 | .int k,b,b',cs,p,hf,h => by
  cases cs with
  | nil => simp [Ty.parse] at h
  | cons c r =>
   cases c <;> simp only [Ty.parse] at h <;> try (cases h; done)
   rename_i k' n
   split at h
   ·rename_i hk; subst hk; cases h; exact ⟨by simp [Ty.parse],[.int k' n],rfl,rfl⟩
   ·cases h
 | .bool,b,b',cs,p,hf,h => by
  cases cs with
  | nil => simp [Ty.parse] at h
  | cons c r =>
   cases c <;> simp only [Ty.parse] at h <;> try (cases h; done)
   rename_i x
   cases h; exact ⟨by simp [Ty.parse],[.bool x],rfl,rfl⟩
 | .str,b,b',cs,p,hf,h => by
  cases cs with
  | nil => simp [Ty.parse] at h
  | cons c r =>
   cases c <;> simp only [Ty.parse] at h <;> try (cases h; done)
   rename_i x
   cases h; exact ⟨by simp [Ty.parse],[.str x],rfl,rfl⟩
 | .sl e t,b,b',cs,p,hf,h => by cases hf
 | .nul f,b,b',cs,p,hf,h => by cases hf
 | .pair x y,b,b',cs,p,hf,h => by
  simp only [Ty.flat,Bool.and_eq_true] at hf
  simp only [Ty.parse,Option.bind_eq_some_iff] at h ⊢
  obtain ⟨p1,h1,p2,h2,h3⟩ := h
  obtain ⟨g1,pre1,e1,a1⟩ := mz b' hf.1 h1
  obtain ⟨g2,pre2,e2,a2⟩ := mz b' hf.2 h2
  cases h3
  refine ⟨⟨p1,g1,p2,g2,rfl⟩,pre1 ++ pre2,by rw [e1,e2,List.append_assoc],by rw [List.all_append,a1,a2]; rfl⟩
theorem ur {t : Ty} {b : Bool} (b' : Bool) {cs : List Cell} {x : t.T} (hf : t.flat = true) (h : t.read b cs = some x) : t.read b' cs = some x /\ cs.all Cell.plain = true := by
 unfold Ty.read at h ⊢
 split at h
 ·rename_i y hy
  cases h
  obtain ⟨h1,pre,h2,h3⟩ := mz b' hf hy
  rw [h1]
  refine ⟨rfl,?_⟩
  rw [h2,List.append_nil]
  exact h3
 ·cases h
theorem jb (sg : Sig) : ∀ {cs : List Cell},cs.all Cell.plain = true -> settle sg cs = some (sg,cs)
 | [],_ => rfl
 | c :: cs,h => by
  simp only [List.all_cons,Bool.and_eq_true] at h
  have ih := jb sg h.2
  cases c <;> first | (simp only [settle,ih]; done) | (cases h.1)
theorem eH : ∀ {cs cs' : List Cell} {sg sg' : Sig},settle sg cs = some (sg',cs') -> cs'.all Cell.plain = true -> sg' = sg /\ cs' = cs
 | [],cs',sg,sg',h,_ => by simp only [settle] at h; cases h; exact ⟨rfl,rfl⟩
 | c :: cs,cs',sg,sg',h,hp => by
  have key : ∀ d sg1,(match settle sg1 cs with | some (sg,cs) => some (sg,d :: cs) | none => none) = some (sg',cs') -> d.plain = true /\ (∃ cs1,cs' = d :: cs1 /\ settle sg1 cs = some (sg',cs1) /\ cs1.all Cell.plain = true) := by
   intro d sg1 h
   split at h
   ·rename_i sg2 cs2 h2
    cases h
    simp only [List.all_cons,Bool.and_eq_true] at hp
    exact ⟨hp.1,cs2,rfl,h2,hp.2⟩
   ·cases h
  cases c <;> simp only [settle] at h
  case sl j =>
   split at h
   ·obtain ⟨h1,_⟩ := key _ _ h; cases h1
   ·obtain ⟨h1,_⟩ := key _ _ h; cases h1
   ·cases h
  case sub j o n =>
   split at h
   ·obtain ⟨h1,_⟩ := key _ _ h; cases h1
   ·obtain ⟨h1,_⟩ := key _ _ h; cases h1
   ·cases h
  all_goals
   obtain ⟨h1,cs1,rfl,h2,h3⟩ := key _ _ h
   obtain ⟨rfl,rfl⟩ := eH h2 h3
   exact ⟨rfl,rfl⟩
theorem yc {v v' : AV} {cs : List Cell} (h : cm sg v = some (sg',v')) (hc : v'.cells? = some cs) (hp : cs.all Cell.plain = true) : sg' = sg /\ v' = v := by
 unfold cm at h
 split at h
 ·split at h
  ·rename_i sg2 c hs
   cases h
   simp only [AV.cells?,aq] at hc
   split at hc
   ·cases hc
    obtain ⟨h1,h2⟩ := eH hs hp
    cases h2
    exact ⟨h1,rfl⟩
   ·cases hc
  ·cases h
 ·split at h
  ·rename_i sg2 cs2 hs
   cases h
   simp only [AV.cells?,aq] at hc
   split at hc
   ·cases hc
    obtain ⟨h1,h2⟩ := eH hs hp
    subst h2
    exact ⟨h1,rfl⟩
   ·cases hc
  ·cases h
 ·cases h; cases hc
theorem tE {v : AV} {cs : List Cell} (hc : v.cells? = some cs) (hp : cs.all Cell.plain = true) : cm sg v = some (sg,v) := by
 cases v with
 | one c =>
  simp only [AV.cells?,aq] at hc
  split at hc
  ·cases hc
   simp only [cm,jb sg hp]
  ·cases hc
 | agg cs' =>
  simp only [AV.cells?,aq] at hc
  split at hc
  ·cases hc
   simp only [cm,jb sg hp]
  ·cases hc
 | tup vs => cases hc
theorem eW {τ : Ty} (hf : τ.flat = true) : ∀ {ps ps' : List (Nat × AV)} {sg sg' : Sig} {b : Bool} {n : Nat} {l : List τ.T},bR sg ps = some (sg',ps') -> bB b τ ps' n = some l -> sg' = sg /\ ps' = ps /\ bB false τ ps n = some l
 | [],ps',sg,sg',b,n,l,h,hr => by
  simp only [bR] at h
  cases h
  simp only [bB] at hr
  exact ⟨rfl,rfl,by simp only [bB]; exact hr⟩
 | (i,v) :: r,ps',sg,sg',b,n,l,h,hr => by
  simp only [bR] at h
  split at h
  ·rename_i sg1 v1 hv
   split at h
   ·rename_i sg2 ps2 hps
    cases h
    simp only [bB,aq] at hr
    split at hr
    ·rename_i hi
     split at hr
     ·rename_i cs hc
      split at hr
      ·rename_i x hx
       split at hr
       ·rename_i xs hxs
        cases hr
        obtain ⟨hx',hpl⟩ := ur false hf hx
        obtain ⟨rfl,rfl⟩ := yc hv hc hpl
        obtain ⟨rfl,rfl,h3⟩ := eW hf hps hxs
        refine ⟨rfl,rfl,?_⟩
        simp only [bB,hi,cond_true,hc,hx',h3]
       ·cases hr
      ·cases hr
     ·cases hr
    ·cases hr
   ·cases h
  ·cases h
theorem gy {τ : Ty} (hf : τ.flat = true) : ∀ {ps : List (Nat × AV)} {n : Nat} {l : List τ.T},bB false τ ps n = some l -> bR sg ps = some (sg,ps)
 | [],n,l,_ => rfl
 | (i,v) :: r,n,l,hr => by
  simp only [bB,aq] at hr
  split at hr
  ·split at hr
   ·rename_i cs hc
    split at hr
    ·rename_i x hx
     split at hr
     ·rename_i xs hxs
      obtain ⟨_,hpl⟩ := ur false hf hx
      simp only [bR,tE hc hpl,gy hf hxs]
     ·cases hr
    ·cases hr
   ·cases hr
  ·cases hr
theorem jn : ∀ {js : List Nat} {l : List ((t : Ty) × t.T)},dI E sg js = some l -> (dL sg sg' fun j => js.contains j) -> dI E sg' js = some l
 | [],l,h,_ => h
 | j :: js,l,h,ha => by
  simp only [dI] at h ⊢
  split at h
  ·rename_i ty cs hj
   rw [ha j _ (by simp) hj]
   simp only
   split at h
   ·split at h
    ·split at h
     ·rename_i l' hl
      rw [jn hl (fun i b hi => ha i b (by simp only [List.contains_cons,hi,Bool.or_true]))]
      exact h
     ·cases h
    ·cases h
   ·cases h
  ·cases h
theorem kl {c : Cell} {p : Cell × Bool} (h : dX E sg c = some p) (ha : dL sg sg' fun j => c.ae j) : dX E sg' c = some p := by
 cases c <;> simp only [dX] at h ⊢ <;> try exact h
 case sl j =>
  split at h
  ·rename_i hj; rw [ha j _ (by simp [Cell.ae]) hj]; exact h
  ·rename_i hj; rw [ha j _ (by simp [Cell.ae]) hj]; exact h
  ·cases h
 case sub j o n =>
  split at h
  ·rename_i hj; rw [ha j _ (by simp [Cell.ae]) hj]; exact h
  ·rename_i hj; rw [ha j _ (by simp [Cell.ae]) hj]; exact h
  ·cases h
 case nl j =>
  split at h
  ·rename_i hj; rw [ha j _ (by simp [Cell.ae]) hj]; exact h
  ·cases h
 case fnp f js =>
  split at h
  ·rename_i l hl
   rw [jn hl (fun i b hi => ha i b hi)]; exact h
  ·cases h
theorem ju : ∀ {cs : List Cell} {p : List Cell × Bool},cE E sg cs = some p -> (dL sg sg' fun j => cs.any (·.ae j)) -> cE E sg' cs = some p
 | [],p,h,_ => h
 | c :: cs,p,h,ha => by
  simp only [cE] at h
  split at h
  ·rename_i c' u hc
   split at h
   ·rename_i cs' u' hcs
    simp only [cE,kl hc (fun j b hj => ha j b (by simp [hj])),ju hcs (fun j b hj => ha j b (by simp only [List.any_cons,hj,Bool.or_true]))]
    exact h
   ·cases h
  ·cases h
theorem BB {v : AV} {p : AV × Bool} (h : wC E sg v = some p) (ha : dL sg sg' fun j => v.ae j) : wC E sg' v = some p := by
 cases v with
 | one c =>
  simp only [wC] at h ⊢
  split at h
  ·rename_i hc; rw [kl hc ha]; exact h
  ·cases h
 | agg cs =>
  simp only [wC] at h ⊢
  split at h
  ·rename_i hc; rw [ju hc ha]; exact h
  ·cases h
 | tup vs => cases h
theorem lr : ∀ {vs : List AV} {p : List AV × Bool},dj E sg vs = some p -> (∀ v ∈ vs,dL sg sg' fun j => v.ae j) -> dj E sg' vs = some p
 | [],p,h,_ => h
 | v :: vs,p,h,ha => by
  simp only [dj] at h
  split at h
  ·rename_i v' u hv
   split at h
   ·rename_i vs' u' hvs
    simp only [dj,BB hv (ha v List.mem_cons_self),lr hvs (fun v hv => ha v (List.mem_cons_of_mem _ hv))]
    exact h
   ·cases h
  ·cases h
theorem qe {c : Cell} {k : Cell -> Option R} (h : eb sg c k = some r) : ∃ c',(∀ {S : Type} (f : Cell -> Option S) (sg' : Sig),(dL sg sg' fun j => c.ae j) -> eb sg' c f = f c') /\ k c' = some r := by
 unfold eb at h
 split at h
 ·rename_i j i n
  split at h
  ·rename_i e t l hj
   split at h
   ·rename_i x hx
    split at h
    ·rename_i q hq
     exact ⟨_,fun f sg' ha => by simp only [eb,ha j _ (by simp [Cell.ae]) hj,hx,hq],h⟩
    ·cases h
   ·cases h
  ·cases h
 ·rename_i n1
  refine ⟨c,fun f sg' ha => ?_,h⟩
  cases c <;> first | rfl | exact absurd rfl (n1 _ _ _)
theorem mY : ∀ {cs : List Cell} {k : List Cell -> Option R},df sg cs k = some r -> ∃ cs',(∀ {S : Type} (f : List Cell -> Option S) (sg' : Sig),(dL sg sg' fun j => cs.any (·.ae j)) -> df sg' cs f = f cs') /\ k cs' = some r
 | [],k,h => ⟨[],fun f sg' _ => rfl,h⟩
 | c :: cs,k,h => by
  simp only [df] at h
  obtain ⟨c',h1,h2⟩ := qe h
  obtain ⟨cs',h3,h4⟩ := mY h2
  exact ⟨c' :: cs',fun f sg' ha => by simp only [df,h1 _ sg' (fun j b hj => ha j b (by simp [hj])),h3 _ sg' (fun j b hj => ha j b (by simp only [List.any_cons,hj,Bool.or_true]))],h4⟩
theorem FH {v : AV} {k : AV -> Option R} (h : ln sg v k = some r) : ∃ v',(∀ {S : Type} (f : AV -> Option S) (sg' : Sig),(dL sg sg' fun j => v.ae j) -> ln sg' v f = f v') /\ k v' = some r := by
 cases v with
 | one c =>
  simp only [ln] at h
  obtain ⟨c',h1,h2⟩ := qe (c := c) h
  exact ⟨_,fun f sg' ha => h1 (fun c => f (.one c)) sg' ha,h2⟩
 | agg cs =>
  simp only [ln] at h
  obtain ⟨c',h1,h2⟩ := mY (cs := cs) h
  exact ⟨_,fun f sg' ha => h1 (fun c => f (.agg c)) sg' ha,h2⟩
 | tup ps => cases h
theorem q6 : ∀ {vs : List AV} {k : List AV -> Option R},eY sg vs k = some r -> ∃ vs',(∀ {S : Type} (f : List AV -> Option S) (sg' : Sig),(∀ v ∈ vs,dL sg sg' fun j => v.ae j) -> eY sg' vs f = f vs') /\ k vs' = some r
 | [],k,h => ⟨[],fun f sg' _ => rfl,h⟩
 | v :: vs,k,h => by
  simp only [eY] at h
  obtain ⟨c',h1,h2⟩ := FH h
  obtain ⟨cs',h3,h4⟩ := q6 h2
  exact ⟨c' :: cs',fun f sg' ha => by simp only [eY,h1 _ sg' (ha v List.mem_cons_self),h3 _ sg' (fun v hv => ha v (List.mem_cons_of_mem _ hv))],h4⟩
theorem ng {c : Cell} {k : Cell -> Option R} {S : Type} {f : Cell -> Option S} {q : S -> Option R} (h : ∀ c,k c = (f c).bind q) : eb sg c k = (eb sg c f).bind q := by
 unfold eb
 repeat' (first | rfl | exact h _ | split)
theorem la : ∀ {cs : List Cell} {k : List Cell -> Option R} {S : Type} {f : List Cell -> Option S} {q : S -> Option R},(∀ c,k c = (f c).bind q) -> df sg cs k = (df sg cs f).bind q
 | [],k,S,f,q,h => h []
 | c :: cs,k,S,f,q,h => by
  simp only [df]
  exact ng fun c => la fun cs => h _
theorem Dp {v : AV} {k : AV -> Option R} {S : Type} {f : AV -> Option S} {q : S -> Option R} (h : ∀ c,k c = (f c).bind q) : ln sg v k = (ln sg v f).bind q := by
 cases v with
 | one c => exact ng fun c => h _
 | agg cs => exact la fun c => h _
 | tup ps => rfl
theorem jR : ∀ {vs : List AV} {k : List AV -> Option R} {S : Type} {f : List AV -> Option S} {q : S -> Option R},(∀ c,k c = (f c).bind q) -> eY sg vs k = (eY sg vs f).bind q
 | [],k,S,f,q,h => h []
 | c :: cs,k,S,f,q,h => by
  simp only [eY]
  exact Dp fun c => jR fun cs => h _
theorem lq {c : Cell} {p : Cell × Bool} (h : dX E sg c = some p) {j : Nat} (hj : p.1.ae j = true) : c.ae j = true := by
 cases c <;> simp only [dX] at h
 case inn d i k => cases h; exact hj
 all_goals first
  | (cases h; exact hj; done)
  | (cases h; done)
  | (split at h <;> first | (cases h; cases hj; done) | (cases h; done))
theorem kD : ∀ {cs : List Cell} {p : List Cell × Bool},cE E sg cs = some p -> ∀ {j : Nat},p.1.any (·.ae j) = true -> cs.any (·.ae j) = true
 | [],p,h,j,hj => by cases h; cases hj
 | c :: cs,p,h,j,hj => by
  simp only [cE] at h
  split at h
  ·rename_i c' u hc
   split at h
   ·rename_i cs' u' hcs
    cases h
    simp only [List.any_cons,Bool.or_eq_true] at hj ⊢
    exact hj.imp (fun h => lq hc h) (fun h => kD hcs h)
   ·cases h
  ·cases h
theorem FW {v : AV} {p : AV × Bool} (h : wC E sg v = some p) {j : Nat} (hj : p.1.ae j = true) : v.ae j = true := by
 unfold wC at h
 split at h
 ·split at h
  ·rename_i hc; cases h; exact lq hc hj
  ·cases h
 ·split at h
  ·rename_i hc; cases h; exact kD hc hj
  ·cases h
 ·cases h
theorem nf : ∀ {vs : List AV} {p : List AV × Bool},dj E sg vs = some p -> (∀ v ∈ vs,dL sg sg' fun j => v.ae j) -> ∀ v ∈ p.1,dL sg sg' fun j => v.ae j
 | [],p,h,ha,v,hv => by cases h; cases hv
 | x :: xs,p,h,ha,v,hv => by
  simp only [dj] at h
  split at h
  ·rename_i v1 u hx
   split at h
   ·rename_i vs' u' hvs
    cases h
    rcases List.mem_cons.1 hv with rfl | hv
    ·exact fun j b hj => ha x List.mem_cons_self j b (FW hx hj)
    ·exact nf hvs (fun v hv => ha v (List.mem_cons_of_mem _ hv)) v hv
   ·cases h
  ·cases h
theorem zy {dst : Option Nat} {f : AV} {args : List AV} {p : AV × Sig} (h : lv E call sg dst f args = some p) (ha : ∀ v ∈ args,dL sg sg' fun j => v.ae j) (hf : ∀ q ∈ p.2,sg'.get q.1 = none) : lv E call sg' dst f args = some p := by
 unfold lv at h ⊢
 split at h
 ·rename_i g caps
  split at h
  ·rename_i args' own hl
   rw [lr hl ha]
   rw [Option.bind_eq_some_iff] at h
   obtain ⟨args2,h0,h⟩ := h
   obtain ⟨vs',g1,g2⟩ := q6 h0
   cases g2
   rw [Option.bind_eq_some_iff] at h
   obtain ⟨r,h1,h2⟩ := h
   simp only
   rw [g1 _ sg' (nf hl ha),Option.bind_some,h1]
   simp only [Option.bind_some,aq] at h2 ⊢
   split at h2
   ·rename_i hc
    rw [if_pos hc]
    split at h2
    ·rename_i d
     split at h2
     ·cases h2
      rw [if_pos]
      rw [List.all_eq_true]
      intro q hq
      have := hf (q.1 + d,q.2.shift d) (List.mem_map.2 ⟨q,hq,rfl⟩)
      exact Sig.a8.2 ⟨this,(Sig.a8.1 (List.all_eq_true.1 ‹_› q hq)).2⟩
     ·cases h2
    ·exact h2
   ·cases h2
  ·cases h
 ·cases h
theorem zL {dst : Option Nat} {f : AV} {args : List AV} {p : AV × Sig} (h : lv E call sg dst f args = some p) : ∀ q ∈ p.2,sg.get q.1 = none := by
 unfold lv at h
 split at h
 ·split at h
  ·rw [Option.bind_eq_some_iff] at h
   obtain ⟨_,_,h⟩ := h
   rw [Option.bind_eq_some_iff] at h
   obtain ⟨r,h1,h2⟩ := h
   simp only [aq] at h2
   split at h2
   ·split at h2
    ·rename_i d
     split at h2
     ·rename_i ha
      cases h2
      rw [List.all_eq_true] at ha
      intro q hq
      obtain ⟨q',hq',rfl⟩ := List.mem_map.1 hq
      exact (Sig.a8.1 (ha q' hq')).1
     ·cases h2
    ·cases h2; intro q hq; cases hq
   ·cases h2
  ·cases h
 ·cases h
theorem sO {st : St} {d : Nat} {f : AV} {args : List AV} (k : St -> Option R) : fe E call st (some d) f args k = (lv E call st.sg (some d) f args).bind fun p => k (St.put (some d) p.1 ⟨st.sl,p.2 ++ st.sg⟩) := by
 cases f with
 | one c =>
  cases c with
  | fn g caps =>
   simp only [fe,lv,sL]
   cases hl : dj E st.sg args with
   | none => rfl
   | some q =>
    obtain ⟨args',own⟩ := q
    simp only
    rw [Option.bind_assoc]
    refine jR fun args' => ?_
    simp only [Option.bind_some]
    cases v8 E call g (args' ++ caps.map fun c => .one (.eptr c.1 c.2 0 true)) with
    | none => rfl
    | some q =>
     simp only [Option.bind_some,aq]
     split
     ·split
      ·rfl
      ·rfl
     ·rfl
  | _ => rfl
 | agg _ => rfl
 | tup _ => rfl
theorem zi {dst : Option Nat} {t : TypeId} {n : Nat} {ps : List (Nat × AV)} {p : AV × Sig} (h : kF E sg dst t n ps = some p) (hf : ∀ q ∈ p.2,sg'.get q.1 = none) : kF E sg' dst t n ps = some p := by
 unfold kF at h ⊢
 split at h
 ·split at h
  ·simp only [aq] at h ⊢
   split at h
   ·rename_i hc
    split at h
    ·rename_i l hl
     cases h
     have := hf _ List.mem_cons_self
     simp only [Bool.and_eq_true,Sig.a8] at hc ⊢
     rw [if_pos ⟨⟨⟨hc.1.1.1,this,hc.1.1.2.2⟩,hc.1.2⟩,hc.2⟩]
    ·cases h
   ·cases h
  ·cases h
 ·cases h
theorem xO {dst : Option Nat} {t : TypeId} {n : Nat} {ps : List (Nat × AV)} {p : AV × Sig} (h : kF E sg dst t n ps = some p) : ∀ q ∈ p.2,sg.get q.1 = none := by
 unfold kF at h
 split at h
 ·split at h
  ·simp only [aq] at h
   split at h
   ·rename_i hc
    split at h
    ·cases h
     simp only [Bool.and_eq_true,Sig.a8] at hc
     intro q hq
     rw [List.mem_singleton.1 hq]
     exact hc.1.1.2.1
    ·cases h
   ·cases h
  ·cases h
 ·cases h
end
end Go.Proofs.YtcddhifkfakcjaaGreat.Lib
namespace Go.Proofs.YtcddhifkfakcjaaGreat.Lib
open Go Go.RowKit
set_option linter.unusedVariables false
set_option linter.unusedSimpArgs false
section
variable {E : Env} {call : aJ} {R : Type} {r : R}
theorem zE {sg : Sig} {ρ : Operand -> AV} {o : Oper} {p : AV × Sig} (h : qop E sg ρ o.dst o.op (fun v add => some (v,add)) = some p) : Qk E sg ρ o.dst o.op p := by
 obtain ⟨p',h1,h2⟩ := xV h
 cases h2
 exact h1
inductive Way (c : Call) : Prop
 | app (s x : Operand) (t t' : TypeId) : c.callee = .builtin .append -> c.args.toList = [s,x] -> c.argTypes.toList = [t,t'] -> Way c
 | clr (x : Operand) (t : TypeId) : c.callee = .builtin .clear -> c.args.toList = [x] -> c.argTypes.toList = [t] -> Way c
 | val (f : Operand) : c.callee = .value f -> Way c
 | q : (∀ (E : Env) (call : aJ) (R : Type) (o : Oper) (st : St) (k : St -> Option R),o.op = .call c -> exec E call o st k = qop E st.sg (au st.sl) o.dst (.call c) fun v add => k (St.put o.dst v ⟨st.sl,add ++ st.sg⟩)) ->
   (∀ (E : Env) (call : aJ) (sg : Sig) (ρ : Operand -> AV) (o : Oper),o.op = .call c -> hop E call sg ρ o = qop E sg ρ o.dst (.call c) fun v add => some (v,add)) -> Way c
theorem way (c : Call) : Way c := by
 have other : (∀ s x t t',¬ (c.callee = .builtin .append /\ c.args.toList = [s,x] /\ c.argTypes.toList = [t,t'])) -> (∀ x t,¬ (c.callee = .builtin .clear /\ c.args.toList = [x] /\ c.argTypes.toList = [t])) -> (∀ f,c.callee ≠ .value f) -> Way c := by
  intro h1 h3 h2
  refine .q (fun E call R o st k ho => ?_) (fun E call sg ρ o ho => ?_)
  ·unfold exec
   rw [ho]
   simp only
   split
   ·rename_i hc ha ht; exact absurd ⟨hc,ha,ht⟩ (h1 _ _ _ _)
   ·rename_i hc ha ht; exact absurd ⟨hc,ha,ht⟩ (h3 _ _)
   ·rename_i hc; exact absurd hc (h2 _)
   ·rfl
  ·unfold hop
   rw [ho]
   simp only
   split
   ·rename_i hc ha ht; exact absurd ⟨hc,ha,ht⟩ (h1 _ _ _ _)
   ·rename_i hc ha ht; exact absurd ⟨hc,ha,ht⟩ (h3 _ _)
   ·rename_i hc; exact absurd hc (h2 _)
   ·rfl
 by_cases h2 : ∃ f,c.callee = .value f
 ·obtain ⟨f,hf⟩ := h2
  exact .val f hf
 ·by_cases h1 : ∃ s x t t',c.callee = .builtin .append /\ c.args.toList = [s,x] /\ c.argTypes.toList = [t,t']
  ·obtain ⟨s,x,t,t',a1,a2,a3⟩ := h1
   exact .app s x t t' a1 a2 a3
  ·by_cases h3 : ∃ x t,c.callee = .builtin .clear /\ c.args.toList = [x] /\ c.argTypes.toList = [t]
   ·obtain ⟨x,t,a1,a2,a3⟩ := h3
    exact .clr x t a1 a2 a3
   ·exact other (fun s x t t' h => h1 ⟨s,x,t,t',h⟩) (fun x t h => h3 ⟨x,t,h⟩) (fun f hf => h2 ⟨f,hf⟩)
theorem PD {t : TypeId} (h : (match E.ti.lookup t with
   | some { td := .slice e,.. } => (match E.ti.lookup e with
    | some { ty := some τ,.. } => τ.flat
    | _ => false)
   | _ => false) = true) : ∃ e s b y τ s' b' d',E.ti.lookup t = some ⟨.slice e,s,b,y⟩ /\ E.ti.lookup e = some ⟨d',s',b',some τ⟩ /\ τ.flat = true := by
 split at h
 ·rename_i e s b y ht
  split at h
  ·rename_i d' s' b' τ he
   exact ⟨e,s,b,y,τ,s',b',d',ht,he,h⟩
  ·cases h
 ·cases h
theorem zq {o : Oper} {st : St} {p : AV × Sig} (ho : dc E o = true) (h : hop E call st.sg (au st.sl) o = some p) (k : St -> Option R) : exec E call o st k = k (St.put o.dst p.1 ⟨st.sl,p.2 ++ st.sg⟩) := by
 have quiet : qop E st.sg (au st.sl) o.dst o.op (fun v add => some (v,add)) = some p -> qop E st.sg (au st.sl) o.dst o.op (fun v add => k (St.put o.dst v ⟨st.sl,add ++ st.sg⟩)) = k (St.put o.dst p.1 ⟨st.sl,p.2 ++ st.sg⟩) := fun h =>
  let hq := zE h
  hq.1 _ st.sg _ (fun _ _ => rfl) (fun _ _ j b _ hj => hj) hq.2
 unfold dc at ho
 cases hop' : o.op with
 | store t a v => unfold hop at h; rw [hop'] at h; cases h
 | call c =>
  rcases way c with ⟨s,x,t,t',h1,h2,h3⟩ | ⟨x,t,h1,h2,h3⟩ | ⟨f,h1⟩ | ⟨h1,h2⟩
  ·unfold hop at h
   rw [hop'] at h
   simp only [h1,h2,h3] at h
   cases h
  ·unfold hop at h
   rw [hop'] at h
   simp only [h1,h2,h3] at h
   cases h
  ·rw [hop'] at ho
   simp only [h1] at ho
   unfold hop at h
   rw [hop'] at h
   simp only [h1] at h
   unfold exec
   rw [hop']
   simp only [h1]
   simp only [Bool.and_eq_true] at ho
   have hmk := Option.isNone_iff_eq_none.1 ho.2.2.1
   simp only [hmk]
   refine (rY ho.2.2.2 st o.dst _ k _).trans ?_
   obtain ⟨d,hd⟩ := Option.isSome_iff_exists.1 ho.2.1
   rw [hd] at h ⊢
   rw [sO,h]
   rfl
  ·rw [h1 E call R o st k hop',← hop']
   rw [h2 E call st.sg _ o hop',← hop'] at h
   exact quiet h
 | buildSlice t n ps =>
  unfold hop at h
  rw [hop'] at h
  simp only at h
  unfold exec
  rw [hop']
  simp only
  unfold kF at h
  split at h
  ·rename_i d e s b y hd ht
   split at h
   ·rename_i d' s' b' τ he
    simp only [aq] at h
    split at h
    ·rename_i hc
     split at h
     ·rename_i l hl
      cases h
      simp only [Bool.and_eq_true] at hc
      rw [iM ht he hc.1.1.1,gy hc.1.1.1 hl]
      simp only [hd,ht,he,hc.1.1.2,hc.1.2,hc.2,Bool.and_self,cond_true,hl]
      rfl
     ·cases h
    ·cases h
   ·cases h
  ·cases h
 | _ => (unfold exec; unfold hop at h; rw [hop'] at h ⊢; simp only at h ⊢; rw [← hop'] at h ⊢; exact quiet h)
theorem A3 {o : Oper} {st : St} {k : St -> Option R} (ho : dc E o = true) (hns : bT o = false) (h : exec E call o st k = some r) : ∃ p,hop E call st.sg (au st.sl) o = some p /\ (∀ q ∈ p.2,st.sg.get q.1 = none) /\ k (St.put o.dst p.1 ⟨st.sl,p.2 ++ st.sg⟩) = some r := by
 have quiet : qop E st.sg (au st.sl) o.dst o.op (fun v add => k (St.put o.dst v ⟨st.sl,add ++ st.sg⟩)) = some r -> ∃ p,qop E st.sg (au st.sl) o.dst o.op (fun v add => some (v,add)) = some p /\ (∀ q ∈ p.2,st.sg.get q.1 = none) /\ k (St.put o.dst p.1 ⟨st.sl,p.2 ++ st.sg⟩) = some r := fun h => by
  obtain ⟨p,h1,h2⟩ := xV h
  exact ⟨p,h1.1 _ st.sg _ (fun _ _ => rfl) (fun _ _ j b _ hj => hj) h1.2,h1.2,h2⟩
 unfold dc at ho
 cases hop' : o.op with
 | store t a v => simp [bT,hop'] at hns
 | call c =>
  rcases way c with ⟨s,x,t,t',h1,h2,h3⟩ | ⟨x,t,h1,h2,h3⟩ | ⟨f,h1⟩ | ⟨h1,h2⟩
  ·rw [hop'] at ho
   simp [h1,h2,h3] at ho
  ·rw [hop'] at ho
   simp [h1,h2,h3] at ho
  ·rw [hop'] at ho
   simp only [h1] at ho
   unfold exec at h
   rw [hop'] at h
   simp only [h1] at h
   simp only [Bool.and_eq_true] at ho
   have hmk := Option.isNone_iff_eq_none.1 ho.2.2.1
   simp only [hmk] at h
   have h := (rY ho.2.2.2 st o.dst _ k _).symm.trans h
   obtain ⟨d,hd⟩ := Option.isSome_iff_exists.1 ho.2.1
   rw [hd,sO,Option.bind_eq_some_iff] at h
   obtain ⟨p,h2,h3⟩ := h
   refine ⟨p,?_,zL h2,by rw [hd]; exact h3⟩
   unfold hop
   rw [hop']
   simp only [h1,hd]
   exact h2
  ·rw [h1 E call R o st k hop',← hop'] at h
   rw [h2 E call st.sg _ o hop',← hop']
   exact quiet h
 | buildSlice t n ps =>
  rw [hop'] at ho
  simp only [Bool.and_eq_true] at ho
  obtain ⟨e,s,b,y,τ,s',b',d',ht,he,hf⟩ := PD ho.2
  unfold exec at h
  rw [hop'] at h
  simp only at h
  rw [iM ht he hf] at h
  split at h
  ·rename_i sg1 ps1 hs
   split at h
   ·rename_i d e2 s2 b2 y2 hd ht2
    rw [ht] at ht2
    cases ht2
    split at h
    ·rename_i d3 s3 b3 τ3 he3
     rw [he] at he3
     cases he3
     simp only [aq] at h
     split at h
     ·rename_i hc
      have fin : ∀ bb l,bB bb τ ps1 0 = some l -> k ⟨st.sl.set d (.one (.sl d)),(d,.arr e τ l bb) :: sg1⟩ = some r -> bb = false -> ∃ p,hop E call st.sg (au st.sl) o = some p /\ (∀ q ∈ p.2,st.sg.get q.1 = none) /\ k (St.put o.dst p.1 ⟨st.sl,p.2 ++ st.sg⟩) = some r := by
       intro bb l hl hk hb
       subst hb
       obtain ⟨rfl,rfl,h3⟩ := eW hf hs hl
       have hh : hop E call st.sg (au st.sl) o = some (.one (.sl d),[(d,.arr e τ l false)]) := by
        unfold hop
        rw [hop']
        simp only [Bool.and_eq_true] at hc
        simp only [kF,hd,ht,he,hf,hc.1.1,hc.1.2,hc.2,Bool.and_self,cond_true,h3]
       exact ⟨_,hh,(by
        unfold hop at hh
        rw [hop'] at hh
        exact xO hh),by rw [hd]; exact hk⟩
      split at h
      ·rename_i l hl
       exact fin _ l hl h rfl
      ·rename_i hn
       split at h
       ·rename_i l hl
        obtain ⟨rfl,rfl,h3⟩ := eW hf hs hl
        rw [hn] at h3
        cases h3
       ·cases h
     ·cases h
    ·cases h
   ·cases h
  ·cases h
 | _ => (unfold exec at h; unfold hop; rw [hop'] at h ⊢; simp only at h ⊢; rw [← hop'] at h ⊢; exact quiet h)
theorem FZ {o : Oper} {sg sg' : Sig} {ρ ρ' : Operand -> AV} {p : AV × Sig} (h : hop E call sg ρ o = some p) (h1 : ∀ x ∈ o.op.operands.toList,ρ' x = ρ x)
  (h2 : ∀ x ∈ o.op.operands.toList,dL sg sg' fun j => (ρ x).ae j) (hf : ∀ q ∈ p.2,sg'.get q.1 = none) : hop E call sg' ρ' o = some p := by
 have quiet : qop E sg ρ o.dst o.op (fun v add => some (v,add)) = some p -> qop E sg' ρ' o.dst o.op (fun v add => some (v,add)) = some p := fun h =>
  (zE h).1 _ sg' ρ' h1 h2 hf
 cases hop' : o.op with
 | store t a v => unfold hop at h; rw [hop'] at h; cases h
 | call c =>
  rcases way c with ⟨s,x,t,t',g1,g2,g3⟩ | ⟨x,t,g1,g2,g3⟩ | ⟨f,g1⟩ | ⟨g1,g2⟩
  ·unfold hop at h
   rw [hop'] at h
   simp only [g1,g2,g3] at h
   cases h
  ·unfold hop at h
   rw [hop'] at h
   simp only [g1,g2,g3] at h
   cases h
  ·unfold hop at h ⊢
   rw [hop'] at h h1 h2 ⊢
   simp only [g1] at h ⊢
   have ha : ∀ x ∈ c.args.toList,x ∈ (Op.call c).operands.toList := by
    intro x hx
    simp only [Op.operands,Call.operands,Array.toList_append,List.mem_append]
    exact .inr hx
   have hfm : f ∈ (Op.call c).operands.toList := by
    simp only [Op.operands,Call.operands,Array.toList_append,List.mem_append,g1]
    exact .inl (by simp)
   rw [h1 f hfm,List.map_congr_left (fun x hx => h1 x (ha x hx))]
   refine zy h (fun v hv => ?_) hf
   obtain ⟨x,hx,rfl⟩ := List.mem_map.1 hv
   exact h2 x (ha x hx)
  ·rw [g2 E call sg _ o hop',← hop'] at h
   rw [g2 E call sg' _ o hop',← hop']
   exact quiet h
 | buildSlice t n ps =>
  unfold hop at h ⊢
  rw [hop'] at h h1 ⊢
  simp only at h ⊢
  rw [List.map_congr_left (g := fun p => (p.1,ρ p.2)) (fun q hq => by rw [h1 q.2 (by simp only [Op.operands]; exact List.mem_map.2 ⟨q,by simpa using hq,rfl⟩)])]
  exact zi h hf
 | _ => (unfold hop at h ⊢; rw [hop'] at h ⊢; simp only at h ⊢; rw [← hop'] at h ⊢; exact quiet h)
theorem AU {sg : Sig} {t : TypeId} {x v : AV} {p : AV × Sig} (h : hst E sg t x v = some p) : ∃ j c b b',x = .one (.ptr j 0 c) /\ sg.get j = some b /\ p = (.one .und,[(j,b')]) /\ (∀ sg' : Sig,sg'.get j = some b -> hst E sg' t x v = some p) := by
 unfold hst at h
 split at h
 ·rename_i j i c cs ti hv ht
  simp only [aq] at h
  split at h
  ·rename_i hl
   split at h
   ·rename_i ty old hj
    split at h
    ·split at h
     ·rename_i hle
      cases h
      exact ⟨j,c,_,_,rfl,hj,rfl,fun sg' hj' => by simp only [hst,hv,ht,hl,hj',hle,cond_true]⟩
     ·cases h
    ·cases h
   ·cases h
  ·cases h
 ·cases h
theorem EJ {o : Oper} {st : St} {t : TypeId} {a v : Operand} {p : AV × Sig} (ho : o.op = .store t a v) (h : hst E st.sg t (au st.sl a) (au st.sl v) = some p) (k : St -> Option R) : exec E call o st k = k (aft o p st) := by
 unfold hst at h
 split at h
 ·rename_i j i c cs ti hx hv ht
  simp only [aq] at h
  split at h
  ·rename_i hl
   split at h
   ·rename_i ty old hj
    split at h
    ·split at h
     ·rename_i hle
      cases h
      unfold exec
      rw [ho]
      simp only [lO,hx,hv,ht,hl,hj,hle,cond_true,aft,bT,ho,HY]
     ·cases h
    ·cases h
   ·cases h
  ·cases h
 ·cases h
theorem rC {sg : Sig} {ρ : Operand -> AV} {o : Oper} (hns : bT o = false) : sop E call sg ρ o = hop E call sg ρ o := by
 unfold sop
 split
 ·rename_i ho; simp [bT,ho] at hns
 ·rfl
theorem kv {o : Oper} {p : AV × Sig} {s : St} (hns : bT o = false) : aft o p s = St.put o.dst p.1 ⟨s.sl,p.2 ++ s.sg⟩ := by
 unfold aft; rw [hns]; rfl
theorem PY {o : Oper} (h : bT o = true) : ∃ t a v,o.op = .store t a v := by
 unfold bT at h
 split at h
 ·rename_i t a v ho; exact ⟨t,a,v,ho⟩
 ·cases h
theorem nc {o : Oper} (h : bT o = true) (ho : dc E o = true) : ∃ t u v,o.op = .store t (.tmp u) v /\ o.guard = none := by
 obtain ⟨t,a,v,h1⟩ := PY h
 unfold dc at ho
 rw [h1] at ho
 simp only [Bool.true_and,Bool.and_eq_true,Option.isNone_iff_eq_none] at ho
 cases a with
 | tmp u => exact ⟨t,u,v,h1,ho.1⟩
 | _ => cases ho.2
theorem F6 {all : List Oper} {o : Oper} (hns : bT o = false) {sg sg' : Sig} {ρ ρ' : Operand -> AV} {p : AV × Sig} (h : gop E call all sg ρ o = some p) (h1 : ∀ x ∈ opn all o,ρ' x = ρ x)
  (h2 : ∀ x ∈ opn all o,dL sg sg' fun j => (ρ x).ae j) (hf : ∀ q ∈ p.2,sg'.get q.1 = none) : gop E call all sg' ρ' o = some p := by
 have hh : hop E call sg ρ o = some p -> hop E call sg' ρ' o = some p := fun h => FZ h (fun x hx => h1 x (List.mem_append_right _ hx)) (fun x hx => h2 x (List.mem_append_right _ hx)) hf
 unfold gop at h ⊢
 simp only [rC hns] at h ⊢
 split at h
 ·exact hh h
 ·rename_i j want hg
  split at h
  ·rename_i t ht
   have ht' : ρ' (.tmp t) = ρ (.tmp t) := h1 _ (List.mem_append_left _ (by unfold tst; rw [hg]; simp only [ht]; exact List.mem_singleton.2 rfl))
   rw [ht']
   split at h
   ·rename_i v hv
    simp only [aq] at h ⊢
    split at h
    ·rename_i hvw; rw [if_pos hvw]; exact hh h
    ·rename_i hvw; rw [if_neg hvw]; exact h
   ·exact h
   ·cases h
  ·cases h
theorem kV {sl : List AV} {t : Nat} {v : AV} (h : sl[t]? = some v) : au sl (.tmp t) = v := by
 simp only [au,List.getD_eq_getElem?_getD,h]
 rfl
theorem Ou {all : List Oper} {o : Oper} {l : List Oper} {st : St} {k : St -> Option R} (ho : dc E o = true) (hs : bT o = true -> (gop E call all st.sg (au st.sl) o).isSome = true) (h : aW E call all (o :: l) st k = some r) :
  ∃ p,gop E call all st.sg (au st.sl) o = some p /\ (bT o = false -> ∀ q ∈ p.2,st.sg.get q.1 = none) /\ aW E call all l (aft o p st) k = some r := by
 by_cases hns : bT o = true
 ·
  obtain ⟨t,u,v,h1,hg⟩ := nc hns ho
  obtain ⟨p,hp⟩ := Option.isSome_iff_exists.1 (hs hns)
  have hp2 := hp
  unfold gop sop at hp2
  simp only [hg,h1] at hp2
  simp only [aW,hg] at h
  rw [EJ h1 hp2] at h
  exact ⟨p,hp,(fun h => by rw [hns] at h; cases h),h⟩
 have hns : bT o = false := by simpa using hns
 simp only [aW] at h
 split at h
 ·rename_i hg
  obtain ⟨p,h1,h2,h3⟩ := A3 ho hns h
  exact ⟨p,by unfold gop; simp only [hg,rC hns]; exact h1,fun _ => h2,by rw [kv hns]; exact h3⟩
 ·rename_i j want hg
  split at h
  ·rename_i t ht
   split at h
   ·rename_i v hv
    have run : ∀ b,v = b -> (b == want) = true -> exec E call o st (fun st => aW E call all l st k) = some r -> ∃ p,gop E call all st.sg (au st.sl) o = some p /\ (bT o = false -> ∀ q ∈ p.2,st.sg.get q.1 = none) /\ aW E call all l (aft o p st) k = some r := by
     intro b hb hw h
     subst hb
     obtain ⟨p,h1,h2,h3⟩ := A3 ho hns h
     exact ⟨p,by unfold gop; simp only [hg,ht,kV hv,hw,cond_true]; exact h1,fun _ => h2,by rw [kv hns]; exact h3⟩
    have skip : ∀ b,v = b -> (b == want) = false -> aW E call all l (st.put o.dst (.tup [])) k = some r -> ∃ p,gop E call all st.sg (au st.sl) o = some p /\ (bT o = false -> ∀ q ∈ p.2,st.sg.get q.1 = none) /\ aW E call all l (aft o p st) k = some r := by
     intro b hb hw h
     subst hb
     exact ⟨(.tup [],[]),by unfold gop; simp only [hg,ht,kV hv,hw,cond_false],(fun _ q hq => by cases hq),by rw [kv hns]; exact h⟩
    cases v with
    | true =>
     simp only [mT hv,aq] at h
     split at h
     ·rename_i h1; exact run true rfl (by rw [h1]; rfl) h
     ·rename_i h1
      have h2 : want = false := by simpa using h1
      exact skip true rfl (by rw [h2]; rfl) h
    | false =>
     simp only [mT hv,aq] at h
     split at h
     ·rename_i h1; exact skip false rfl (by rw [h1]; rfl) h
     ·rename_i h1
      have h2 : want = false := by simpa using h1
      exact run false rfl (by rw [h2]; rfl) h
   ·rename_i hv
    exact ⟨(.tup [],[]),by unfold gop; simp only [hg,ht,kV hv],(fun _ q hq => by cases hq),by rw [kv hns]; exact h⟩
   ·cases h
  ·cases h
end
end Go.Proofs.YtcddhifkfakcjaaGreat.Lib
namespace Go.Proofs.YtcddhifkfakcjaaGreat.Lib
open Go Go.RowKit
set_option linter.unusedVariables false
set_option linter.unusedSimpArgs false
section
variable {P : Program} {E : Env} {call : aJ} {R : Type} {r : R} {W : Nat -> Nat -> Bool} {G : List Oper}
def txt (E : Env) (call : aJ) (G l : List Oper) (st : St) : Nat -> St
 | 0 => st
 | j + 1 => match l[j]? with
  | some o => (match gop E call G (txt E call G l st j).sg (au (txt E call G l st j).sl) o with
   | some p => aft o p (txt E call G l st j)
   | none => txt E call G l st j)
  | none => txt E call G l st j
def Val (E : Env) (call : aJ) (G l : List Oper) (st : St) (j : Nat) (o : Oper) (p : AV × Sig) : Prop :=
 l[j]? = some o /\ dc E o = true /\ gop E call G (txt E call G l st j).sg (au (txt E call G l st j).sl) o = some p /\ (bT o = false -> ∀ q ∈ p.2,(txt E call G l st j).sg.get q.1 = none)
theorem Val.uniq {l : List Oper} {st : St} {j : Nat} {o o' : Oper} {p p' : AV × Sig} (h : Val E call G l st j o p) (h' : Val E call G l st j o' p') : o = o' /\ p = p' := by
 have h1 : o = o' := Option.some.inj (h.1.symm.trans h'.1)
 subst h1
 exact ⟨rfl,Option.some.inj (h.2.2.1.symm.trans h'.2.2.1)⟩
theorem Val.succ {l : List Oper} {st : St} {j : Nat} {o : Oper} {p : AV × Sig} (h : Val E call G l st j o p) : txt E call G l st (j + 1) = aft o p (txt E call G l st j) := by
 simp only [txt,h.1,h.2.2.1]
theorem tk {l : List Oper} {st : St} {k : St -> Option R} : ∀ n,n <= l.length -> (l.take n).all (dc E) = true -> (∀ j o,j < n -> l[j]? = some o -> bT o = true -> (gop E call G (txt E call G l st j).sg (au (txt E call G l st j).sl) o).isSome = true) -> aW E call G l st k = some r ->
  aW E call G (l.drop n) (txt E call G l st n) k = some r /\ ∀ j,j < n -> ∃ o p,Val E call G l st j o p
 | 0,_,_,_,h => ⟨h,fun j hj => by omega⟩
 | n + 1,hn,hh,hst,h => by
  have hlt : n < l.length := by omega
  have hh' : (l.take n).all (dc E) = true := by
   rw [List.all_eq_true] at hh ⊢
   intro o ho
   exact hh o (by rw [List.take_add_one]; exact List.mem_append_left _ ho)
  have ho : dc E l[n] = true := by
   rw [List.all_eq_true] at hh
   refine hh _ ?_
   rw [List.mem_take_iff_getElem]
   exact ⟨n,by omega,rfl⟩
  obtain ⟨h1,h2⟩ := tk n (by omega) hh' (fun j o hj => hst j o (by omega)) h
  rw [List.drop_eq_getElem_cons hlt] at h1
  obtain ⟨p,h3,h4,h5⟩ := Ou ho (fun hs => hst n _ (by omega) (List.getElem?_eq_getElem hlt) hs) h1
  have hv : Val E call G l st n l[n] p := ⟨List.getElem?_eq_getElem hlt,ho,h3,h4⟩
  refine ⟨by rw [hv.succ]; exact h5,fun j hj => ?_⟩
  by_cases hjn : j = n
  ·subst hjn; exact ⟨_,_,hv⟩
  ·exact h2 j (by omega)
theorem rv {a b : Sig} {i : Nat} {x : Blk} (h : (a ++ b).get i = some x) (hf : ∀ q ∈ a,b.get q.1 = none) : Sig.get i a = some x ∨ (Sig.get i a = none /\ Sig.get i b = some x) := by
 rw [Sig.get_append] at h
 cases ha : Sig.get i a with
 | none => rw [ha] at h; exact .inr ⟨rfl,by simpa using h⟩
 | some y => rw [ha] at h; exact .inl (by simpa using h)
theorem DU (o : Oper) (p : AV × Sig) (s : St) : (aft o p s).sg = HY (bT o) p.2 s.sg := by
 unfold aft; cases o.dst <;> rfl
theorem y9 (o : Oper) (p : AV × Sig) (s : St) (t : Nat) : (aft o p s).sl[t]? = if o.dst = some t then (if t < s.sl.length then some p.1 else none) else s.sl[t]? := by
 unfold aft
 cases hd : o.dst with
 | none => simp [St.put]
 | some d =>
  simp only [St.put,List.getElem?_set,Option.some.injEq]
  split
  ·rename_i hdt; subst hdt; split <;> rfl
  ·rfl
theorem Fq (o : Oper) (p : AV × Sig) (s : St) : (aft o p s).sl.length = s.sl.length := by
 unfold aft; cases o.dst <;> simp [St.put]
structure kE (E : Env) (call : aJ) (G l : List Oper) (st : St) (n : Nat) (W : Nat -> Nat -> Bool) : Prop where
 one : ∀ j k o o' p p' i,j < n -> k < n -> Val E call G l st j o p -> Val E call G l st k o' p' -> bT o = true -> bT o' = true -> (Sig.get i p.2).isSome = true -> (Sig.get i p'.2).isSome = true -> j = k
 made : ∀ j k o o' p p' i,j < n -> k < n -> Val E call G l st j o p -> Val E call G l st k o' p' -> bT o = true -> bT o' = false -> (Sig.get i p.2).isSome = true -> (Sig.get i p'.2).isSome = true -> k < j /\ W j k = true
 free : ∀ j m o o' p i t v,j < n -> m < n -> j ≠ m -> Val E call G l st j o p -> l[m]? = some o' -> bT o = true -> (Sig.get i p.2).isSome = true -> .tmp t ∈ opn G o' -> (txt E call G l st m).sl[t]? = some v -> v.ae i = false
 shape : ∀ j o p,j < n -> Val E call G l st j o p -> bT o = true -> ∃ i b,p.2 = [(i,b)] /\ ((txt E call G l st j).sg.get i).isSome = true
def Made (E : Env) (call : aJ) (G l : List Oper) (st : St) (n : Nat) (L : Nat -> Prop) (i : Nat) (b : Blk) : Prop :=
 st.sg.get i = some b ∨ ∃ j o p,j < n /\ L j /\ Val E call G l st j o p /\ bT o = false /\ Sig.get i p.2 = some b
def dQ (E : Env) (call : aJ) (G l : List Oper) (st : St) (n : Nat) (L : Nat -> Prop) (i : Nat) (b : Blk) : Prop :=
 ∃ j o p,j < n /\ L j /\ Val E call G l st j o p /\ bT o = true /\ Sig.get i p.2 = some b
structure Part (E : Env) (call : aJ) (G l : List Oper) (st : St) (n : Nat) (L : Nat -> Prop) (s : St) : Prop where
 len : s.sl.length = st.sl.length
 wr : ∀ j o p t,j < n -> L j -> Val E call G l st j o p -> o.dst = some t -> t < st.sl.length -> s.sl[t]? = some p.1
 un : ∀ t,(∀ j o,j < n -> L j -> l[j]? = some o -> o.dst ≠ some t) -> s.sl[t]? = st.sl[t]?
 sg : ∀ i b,s.sg.get i = some b ↔ dQ E call G l st n L i b ∨ ((∀ b',¬ dQ E call G l st n L i b') /\ Made E call G l st n L i b)
theorem Part.start {l : List Oper} {st : St} {n : Nat} {L : Nat -> Prop} (hL : ∀ j,j < n -> ¬ L j) : Part E call G l st n L st :=
 ⟨rfl,fun j o p t hj hl => absurd hl (hL j hj),fun t _ => rfl,fun i b => ⟨fun h => .inr ⟨fun b' ⟨j,o,p,hj,hl,_⟩ => hL j hj hl,.inl h⟩,fun h => by
  rcases h with ⟨j,o,p,hj,hl,_⟩ | ⟨_,h | ⟨j,o,p,hj,hl,_⟩⟩
  ·exact absurd hl (hL j hj)
  ·exact h
  ·exact absurd hl (hL j hj)⟩⟩
theorem Part.step {l : List Oper} {st s : St} {n j : Nat} {L L' : Nat -> Prop} {o : Oper} {p : AV × Sig} (SO : kE E call G l st n W) (h : Part E call G l st n L s) (hj : j < n) (hn : ¬ L j) (hv : Val E call G l st j o p) (hL : ∀ i,L' i ↔ L i ∨ i = j)
  (hu : ∀ i o' t,i < n -> l[i]? = some o' -> o'.dst = some t -> o.dst = some t -> i = j) (hf : bT o = false -> ∀ q ∈ p.2,s.sg.get q.1 = none)
  (hbe : bT o = false -> ∀ k o' p' i,k < n -> L k -> Val E call G l st k o' p' -> bT o' = true -> (Sig.get i p.2).isSome = true -> Sig.get i p'.2 = none) : Part E call G l st n L' (aft o p s) := by
 refine ⟨by rw [Fq,h.len],fun i o' p' t hi hl' hv' ht hlt => ?_,fun t ht => ?_,fun i b => ?_⟩
 ·rw [y9]
  split
  ·rename_i hd
   have hij := hu i o' t hi hv'.1 ht hd
   subst hij
   obtain ⟨_,rfl⟩ := hv.uniq hv'
   rw [if_pos (by rw [h.len]; exact hlt)]
  ·rename_i hd
   rcases (hL i).1 hl' with hl | rfl
   ·exact h.wr i o' p' t hi hl hv' ht hlt
   ·obtain ⟨rfl,_⟩ := hv.uniq hv'
    exact absurd ht hd
 ·rw [y9,if_neg (ht j o hj ((hL j).2 (.inr rfl)) hv.1)]
  exact h.un t fun i o' hi hl ho => ht i o' hi ((hL i).2 (.inl hl)) ho
 ·rw [DU]
  have stored_old : ∀ i b,dQ E call G l st n L i b -> dQ E call G l st n L' i b := fun i b ⟨k,o',p',h1,h2,h3⟩ => ⟨k,o',p',h1,(hL k).2 (.inl h2),h3⟩
  have made_old : ∀ i b,Made E call G l st n L i b -> Made E call G l st n L' i b := fun i b h => h.imp id fun ⟨k,o',p',h1,h2,h3⟩ => ⟨k,o',p',h1,(hL k).2 (.inl h2),h3⟩
  cases hs : bT o with
  | true =>
   obtain ⟨i0,b0,hp,_⟩ := SO.shape j o p hj hv hs
   rw [hp]
   show (s.sg.put i0 b0).get i = some b ↔ _
   rw [Sig.bg]
   have new : dQ E call G l st n L' i0 b0 := ⟨j,o,p,hj,(hL j).2 (.inr rfl),hv,hs,by rw [hp]; simp [Sig.get]⟩
   have only : ∀ b',dQ E call G l st n L' i0 b' -> b' = b0 := by
    rintro b' ⟨k,o',p',h1,h2,h3,h4,h5⟩
    have hjk := SO.one j k o o' p p' i0 hj h1 hv h3 hs h4 (by rw [hp]; simp [Sig.get]) (by rw [h5]; rfl)
    subst hjk
    obtain ⟨rfl,rfl⟩ := hv.uniq h3
    rw [hp] at h5
    simp [Sig.get] at h5
    exact h5.symm
   by_cases hi : i0 = i
   ·subst hi
    rw [if_pos rfl]
    constructor
    ·intro hb; cases hb; exact .inl new
    ·rintro (hb | ⟨hb,_⟩)
     ·rw [only b hb]
     ·exact absurd new (hb b0)
   ·rw [if_neg hi,h.sg]
    have back : ∀ b',dQ E call G l st n L' i b' -> dQ E call G l st n L i b' := by
     rintro b' ⟨k,o',p',h1,h2,h3,h4,h5⟩
     rcases (hL k).1 h2 with h2 | rfl
     ·exact ⟨k,o',p',h1,h2,h3,h4,h5⟩
     ·obtain ⟨rfl,rfl⟩ := hv.uniq h3
      rw [hp] at h5
      simp only [Sig.get,beq_eq_false_iff_ne.2 hi,cond_false] at h5
      cases h5
    have backM : ∀ b',Made E call G l st n L' i b' -> Made E call G l st n L i b' := by
     rintro b' (h1 | ⟨k,o',p',h1,h2,h3,h4,h5⟩)
     ·exact .inl h1
     ·rcases (hL k).1 h2 with h2 | rfl
      ·exact .inr ⟨k,o',p',h1,h2,h3,h4,h5⟩
      ·obtain ⟨rfl,rfl⟩ := hv.uniq h3
       rw [hs] at h4; cases h4
    constructor
    ·rintro (h1 | ⟨h1,h2⟩)
     ·exact .inl (stored_old i b h1)
     ·exact .inr ⟨fun b' hb' => h1 b' (back b' hb'),made_old i b h2⟩
    ·rintro (h1 | ⟨h1,h2⟩)
     ·exact .inl (back b h1)
     ·exact .inr ⟨fun b' hb' => h1 b' (stored_old i b' hb'),backM b h2⟩
  | false =>
   have hf := hf hs
   have backS : ∀ b',dQ E call G l st n L' i b' -> dQ E call G l st n L i b' := by
    rintro b' ⟨k,o',p',h1,h2,h3,h4,h5⟩
    rcases (hL k).1 h2 with h2 | rfl
    ·exact ⟨k,o',p',h1,h2,h3,h4,h5⟩
    ·obtain ⟨rfl,rfl⟩ := hv.uniq h3
     rw [hs] at h4; cases h4
   show (p.2 ++ s.sg).get i = some b ↔ _
   constructor
   ·intro hb
    rcases rv hb hf with hb | ⟨_,hb⟩
    ·refine .inr ⟨fun b' hb' => ?_,.inr ⟨j,o,p,hj,(hL j).2 (.inr rfl),hv,hs,hb⟩⟩
     obtain ⟨k,o',p',h1,h2,h3,h4,h5⟩ := backS b' hb'
     rw [hbe hs k o' p' i h1 h2 h3 h4 (by rw [hb]; rfl)] at h5
     cases h5
    ·rcases (h.sg i b).1 hb with h1 | ⟨h1,h2⟩
     ·exact .inl (stored_old i b h1)
     ·exact .inr ⟨fun b' hb' => h1 b' (backS b' hb'),made_old i b h2⟩
   ·intro hb
    have old : s.sg.get i = some b -> (p.2 ++ s.sg).get i = some b := by
     intro hs
     rw [Sig.get_append]
     cases ha : Sig.get i p.2 with
     | none => simpa using hs
     | some y =>
      have := hf _ (Sig.get_mem ha)
      rw [hs] at this
      cases this
    rcases hb with hb | ⟨h1,hb | ⟨k,o',p',h2,h3,h4,h5,h6⟩⟩
    ·exact old ((h.sg i b).2 (.inl (backS b hb)))
    ·exact old ((h.sg i b).2 (.inr ⟨fun b' hb' => h1 b' (stored_old i b' hb'),.inl hb⟩))
    ·rcases (hL k).1 h3 with h3 | rfl
     ·exact old ((h.sg i b).2 (.inr ⟨fun b' hb' => h1 b' (stored_old i b' hb'),.inr ⟨k,o',p',h2,h3,h4,h5,h6⟩⟩))
     ·obtain ⟨rfl,rfl⟩ := hv.uniq h4
      rw [Sig.get_append,h6]
      rfl
theorem jP {l : List Oper} {st : St} {n : Nat} (hv : ∀ j,j < n -> ∃ o p,Val E call G l st j o p) (hsh : ∀ j o p,j < n -> Val E call G l st j o p -> bT o = true -> ∃ i b,p.2 = [(i,b)] /\ ((txt E call G l st j).sg.get i).isSome = true) {i : Nat} : ∀ {a b : Nat},a <= b -> b <= n -> ((txt E call G l st a).sg.get i).isSome = true -> ((txt E call G l st b).sg.get i).isSome = true := by
 intro a b hab
 induction b with
 | zero =>
  intro _ h; have : a = 0 := by omega
  subst this; exact h
 | succ b ih =>
  intro hb h
  by_cases hab' : a = b + 1
  ·subst hab'; exact h
  ·have h0 := ih (by omega) (by omega) h
   obtain ⟨o,p,hp⟩ := hv b (by omega)
   rw [hp.succ,DU]
   cases hs : bT o with
   | true =>
    obtain ⟨i0,b0,hp0,_⟩ := hsh b o p (by omega) hp hs
    rw [hp0]
    show ((Sig.put i0 b0 _).get i).isSome = true
    rw [Sig.bg]
    split
    ·rfl
    ·exact h0
   | false =>
    show (Sig.get i (p.2 ++ _)).isSome = true
    rw [Sig.get_append]
    cases ha : Sig.get i p.2 with
    | none => simpa using h0
    | some y => rfl
theorem nr {l : List Oper} {st : St} {j i : Nat} {o : Oper} {p : AV × Sig} (hp : Val E call G l st j o p) (hs : bT o = false) (hi : (Sig.get i p.2).isSome = true) : ((txt E call G l st (j + 1)).sg.get i).isSome = true := by
 rw [hp.succ,DU,hs]
 show (Sig.get i (p.2 ++ _)).isSome = true
 rw [Sig.get_append]
 obtain ⟨b,hb⟩ := Option.isSome_iff_exists.1 hi
 rw [hb]; rfl
def Km (n : Nat) (ops : Array Oper) : Bool :=
 (List.range n).all fun j => (List.range n).all fun k => match ops[j]?,ops[k]? with
  | some oj,some ok => (match ok.dst with
   | some t => (j == k || oj.dst != some t) && (!((opn ops.toList oj).any fun x => match x with | .tmp u => u == t | _ => false) || (decide (k < j) && Region.waitsFor .any ops j k) || (decide (j < k) && Region.waitsFor .any ops k j))
   | none => true)
  | _,_ => true
def gE (n : Nat) (ops : Array Oper) : Bool :=
 (List.range n).all fun j => match ops[j]? with
  | some o => o.after.toList.all fun e => !Region.binds .any e || Nat.blt e.on j
  | none => true
def kH (n m : Nat) : Array Bool := (List.replicate n true ++ List.replicate m false).toArray
def JB (l : List Oper) (n j : Nat) (o : Oper) : Bool :=
 match o.op with
 | .store _ (.tmp t) _ => (List.range n).any (fun k => decide (k < j) && Region.waitsFor .any l.toArray j k && (match l[k]? with | some ok => (match ok.op with | .alloc _ => ok.guard.isNone && ok.dst == some t | _ => false) | none => false)) &&
   (List.range n).all (fun m => m == j || (match l[m]? with | some om => !((opn l om).any fun x => match x with | .tmp u => u == t | _ => false) | none => true))
 | _ => true
def Fo (l : List Oper) (n : Nat) : Bool := (List.range n).all fun j => match l[j]? with | some o => JB l n j o | none => true
def runN (E : Env) (call : aJ) (l : List Oper) (st : St) : Nat -> Option St
 | 0 => some st
 | j + 1 => (match runN E call l st j with
  | some s => (match l[j]? with
   | some o => (match gop E call l s.sg (au s.sl) o with | some p => some (aft o p s) | none => none)
   | none => none)
  | none => none)
def H0 (t : Nat) (sl : List AV) (skip : Nat) : Bool := (List.range sl.length).all fun u => u == skip || !((sl.getD u (.one .und)).ae t)
def Ii (l : List Oper) (n : Nat) (st s : St) : Bool :=
 (l.take n).all fun o => match o.op with
 | .store _ (.tmp t) _ => H0 t st.sl st.sl.length && H0 t s.sl t
 | _ => true
def Lr (E : Env) (call : aJ) (l : List Oper) (st : St) (n : Nat) : Bool :=
 (l.take n).all (fun o => !bT o) || (match runN E call l st n with | some s => Ii l n st s | none => false)
def Kj (E : Env) (l : List Oper) (n : Nat) : Bool :=
 Nat.blt n l.length && (l.take n).all (dc E) && Region.sinkB .any l.toArray n && Region.chainB .any l.toArray n && Km n l.toArray && gE n l.toArray && Region.seqB .any l.toArray (l.length - n) n (kH n (l.length - n)) && Fo l n
def cO (E : Env) (call : aJ) (l : List Oper) (st : St) : Bool := (List.range l.length).any fun i => Kj E l (l.length - 1 - i) && Lr E call l st (l.length - 1 - i)
structure HeadW (E : Env) (G l : List Oper) (n : Nat) (W : Nat -> Nat -> Bool) : Prop where
 ok : (l.take n).all (dc E) = true
 uniq : ∀ j k oj ok t,j < n -> k < n -> l[j]? = some oj -> l[k]? = some ok -> oj.dst = some t -> ok.dst = some t -> j = k
 reads : ∀ j k oj ok t,j < n -> k < n -> l[j]? = some oj -> l[k]? = some ok -> ok.dst = some t -> .tmp t ∈ opn G oj -> (k < j /\ W j k = true) ∨ (j < k /\ W k j = true)
structure zl (E : Env) (l : List Oper) (n : Nat) : Prop where
 lt : n < l.length
 ok : (l.take n).all (dc E) = true
 sink : Region.sinkB .any l.toArray n = true
 chain : Region.chainB .any l.toArray n = true
 uniq : ∀ j k oj ok t,j < n -> k < n -> l[j]? = some oj -> l[k]? = some ok -> oj.dst = some t -> ok.dst = some t -> j = k
 reads : ∀ j k oj ok t,j < n -> k < n -> l[j]? = some oj -> l[k]? = some ok -> ok.dst = some t -> .tmp t ∈ opn l oj -> (k < j /\ Region.waitsFor .any l.toArray j k = true) ∨ (j < k /\ Region.waitsFor .any l.toArray k j = true)
 edges : ∀ j o,j < n -> l[j]? = some o -> ∀ e ∈ o.after,Region.binds .any e = true -> e.on < j
 seq : Region.seqB .any l.toArray (l.length - n) n (kH n (l.length - n)) = true
 sto : Fo l n = true
theorem zl.w {E : Env} {l : List Oper} {n : Nat} (H : zl E l n) : HeadW E l l n (Region.waitsFor .any l.toArray) := ⟨H.ok,H.uniq,H.reads⟩
theorem JZ {l : List Oper} {n : Nat} (h : Kj E l n = true) : zl E l n := by
 simp only [Kj,Bool.and_eq_true,Nat.blt_eq] at h
 obtain ⟨⟨⟨⟨⟨⟨⟨h1,h2⟩,h3⟩,h4⟩,h5⟩,h6⟩,h7⟩,h8⟩ := h
 simp only [Km,List.all_eq_true,List.mem_range] at h5
 refine ⟨h1,h2,h3,h4,fun j k oj ok t hj hk h8 h9 h10 h11 => ?_,fun j k oj ok t hj hk h8 h9 h10 h11 => ?_,fun j o hj h8 e he hb => ?_,h7,h8⟩
 ·have := h5 j hj k hk
  simp only [List.getElem?_toArray,h8,h9,h11,h10,Bool.and_eq_true,Bool.or_eq_true,beq_iff_eq,bne_iff_ne,ne_eq,not_true_eq_false,or_false] at this
  exact this.1
 ·have := h5 j hj k hk
  simp only [List.getElem?_toArray,h8,h9,h10,Bool.and_eq_true,Bool.or_eq_true,decide_eq_true_eq,Bool.not_eq_true'] at this
  rcases this.2 with (h | h) | h
  ·rw [List.any_eq_false] at h
   exact absurd (h _ h11) (by simp)
  ·exact .inl h
  ·exact .inr h
 ·simp only [gE,List.all_eq_true,List.mem_range] at h6
  have := h6 j hj
  simp only [List.getElem?_toArray,h8,List.all_eq_true] at this
  have := this e (by simpa using he)
  simpa [hb] using this
theorem kM {l : List Oper} {st : St} : ∀ m,(txt E call G l st m).sl.length = st.sl.length
 | 0 => rfl
 | m + 1 => by
  simp only [txt]
  split
  ·split
   ·rw [Fq,kM m]
   ·exact kM m
  ·exact kM m
theorem xD {l : List Oper} {st : St} {n : Nat} (H : HeadW E G l n W) (hv : ∀ j,j < n -> ∃ o p,Val E call G l st j o p) {w : Nat} {o : Oper} {p : AV × Sig} {t : Nat} (hp : Val E call G l st w o p) (hw : w < n) (hd : o.dst = some t) (ht : t < st.sl.length) : ∀ m,w < m -> m <= n -> (txt E call G l st m).sl[t]? = some p.1
 | 0,h,_ => by omega
 | m + 1,h,hm => by
  obtain ⟨o',p',hp'⟩ := hv m (by omega)
  rw [hp'.succ,y9]
  by_cases hwm : w = m
  ·subst hwm
   obtain ⟨rfl,rfl⟩ := hp.uniq hp'
   rw [if_pos hd,if_pos (by rw [kM]; exact ht)]
  ·rw [if_neg (fun hd' => hwm (H.uniq w m o o' t hw (by omega) hp.1 hp'.1 hd hd'))]
   exact xD H hv hp hw hd ht m (by omega) (by omega)
theorem Ip {l : List Oper} {st : St} {n : Nat} (hv : ∀ j,j < n -> ∃ o p,Val E call G l st j o p) {t : Nat} : ∀ m,m <= n -> (∀ w o,w < m -> l[w]? = some o -> o.dst ≠ some t) -> (txt E call G l st m).sl[t]? = st.sl[t]?
 | 0,_,_ => rfl
 | m + 1,hm,h => by
  obtain ⟨o',p',hp'⟩ := hv m (by omega)
  rw [hp'.succ,y9,if_neg (h m o' (by omega) hp'.1)]
  exact Ip hv m (by omega) fun w o hw => h w o (by omega)
theorem jJ {l : List Oper} {st : St} {n : Nat} (H : HeadW E G l n W) (SO : kE E call G l st n W) (hv : ∀ j,j < n -> ∃ o p,Val E call G l st j o p) : ∀ j,j <= n -> Part E call G l st n (· < j) (txt E call G l st j)
 | 0,_ => Part.start (fun j _ h => by omega)
 | j + 1,hj => by
  obtain ⟨o,p,hp⟩ := hv j (by omega)
  rw [hp.succ]
  refine (jJ H SO hv j (by omega)).step (L' := (· < j + 1)) SO (by omega) (by omega) hp (fun i => by omega) (fun i o' t hi h1 h2 h3 => H.uniq i j o' o t hi (by omega) h1 hp.1 h2 h3) hp.2.2.2 (fun hs k o' p' i hk hkj hp' hs' hi => ?_)
  cases hg : Sig.get i p'.2 with
  | none => rfl
  | some b =>
   have := (SO.made k j o' o p' p i hk (by omega) hp' hp hs' hs (by rw [hg]; rfl) hi).1
   omega
theorem wR {sl sl' : List AV} {x : Operand} (h : ∀ t,x = .tmp t -> sl'[t]? = sl[t]?) : au sl' x = au sl x := by
 cases x with
 | tmp t => simp only [au,List.getD_eq_getElem?_getD,h t rfl]
 | _ => rfl
theorem Bm {l : List Oper} {st s : St} {n j : Nat} {L : Nat -> Prop} {o : Oper} {p : AV × Sig} (H : HeadW E G l n W) (SO : kE E call G l st n W) (hv : ∀ j,j < n -> ∃ o p,Val E call G l st j o p) (h : Part E call G l st n L s)
  (hj : j < n) (hp : Val E call G l st j o p) (hn : ¬ L j) (hcl : ∀ a b,a < n -> b < n -> L a -> W a b = true -> L b) (hrd : ∀ k,k < n -> W j k = true -> L k)
  (hdom : ∀ (i : Nat) (v : AV) (d : Nat),s.sl[i]? = some v -> v.ae d = true -> (s.sg.get d).isSome = true) : gop E call G s.sg (au s.sl) o = some p /\ (bT o = false -> ∀ q ∈ p.2,s.sg.get q.1 = none) /\
  (bT o = false -> ∀ k o' p' i,k < n -> L k -> Val E call G l st k o' p' -> bT o' = true -> (Sig.get i p.2).isSome = true -> Sig.get i p'.2 = none) := by
 have hT := jJ H SO hv j (by omega)
 have hN := jJ H SO hv n (Nat.le_refl _)
 have slot : ∀ t,.tmp t ∈ opn G o -> s.sl[t]? = (txt E call G l st j).sl[t]? := by
  intro t ht
  by_cases hw : ∃ k o',k < n /\ l[k]? = some o' /\ o'.dst = some t
  ·obtain ⟨k,o',hk,ho',hd⟩ := hw
   obtain ⟨o2,p2,hp2⟩ := hv k hk
   have : o2 = o' := Option.some.inj (hp2.1.symm.trans ho')
   subst this
   rcases H.reads j k o o2 t hj hk hp.1 hp2.1 hd ht with ⟨hlt,hwt⟩ | ⟨hlt,hwt⟩
   ·by_cases htl : t < st.sl.length
    ·rw [h.wr k o2 p2 t hk (hrd k hk hwt) hp2 hd htl,hT.wr k o2 p2 t hk hlt hp2 hd htl]
    ·rw [List.getElem?_eq_none (by rw [h.len]; exact Nat.le_of_not_lt htl),List.getElem?_eq_none (by rw [hT.len]; exact Nat.le_of_not_lt htl)]
   ·have hnk : ¬ L k := fun hl => hn (hcl k j hk hj hl hwt)
    rw [h.un t fun i oi hi hl ho hdi => hnk (by rw [H.uniq k i o2 oi t hk hi hp2.1 ho hd hdi]; exact hl),hT.un t fun i oi hi hl ho hdi => by
     have := H.uniq k i o2 oi t hk hi hp2.1 ho hd hdi
     omega]
  ·rw [h.un t fun i oi hi hl ho hdi => hw ⟨i,oi,hi,ho,hdi⟩,hT.un t fun i oi hi hl ho hdi => hw ⟨i,oi,hi,ho,hdi⟩]
 have hev : ∀ x ∈ opn G o,au s.sl x = au (txt E call G l st j).sl x := fun x hx => wR fun t ht => slot t (ht ▸ hx)
 have made : bT o = false -> ∀ k o' p' i,k < n -> L k -> Val E call G l st k o' p' -> bT o' = true -> (Sig.get i p.2).isSome = true -> Sig.get i p'.2 = none := by
  intro hs k o' p' i hk hl hp' hs' hi
  cases hg : Sig.get i p'.2 with
  | none => rfl
  | some b => exact absurd (hcl k j hk hj hl (SO.made k j o' o p' p i hk hj hp' hp hs' hs (by rw [hg]; rfl) hi).2) hn
 cases hs : bT o with
 | true =>
  refine ⟨?_,(fun h => by cases h),(fun h => by cases h)⟩
  obtain ⟨ty,u,v,hop',hgd⟩ := nc hs hp.2.1
  have hg := hp.2.2.1
  unfold gop sop at hg ⊢
  simp only [hgd,hop'] at hg ⊢
  have hua : .tmp u ∈ opn G o := List.mem_append_right _ (by rw [hop']; simp [Op.operands])
  have huv : v ∈ opn G o := List.mem_append_right _ (by rw [hop']; simp [Op.operands])
  rw [hev _ hua,hev _ huv]
  obtain ⟨i,c,b,b',hx,hb,rfl,hgo⟩ := AU hg
  refine hgo s.sg ?_
  have no : ∀ M : Nat -> Prop,¬ M j -> ∀ b',¬ dQ E call G l st n M i b' := by
   rintro M hM b2 ⟨k,o',p',h1,h2,h3,h4,h5⟩
   have := SO.one j k o o' _ p' i hj h1 hp h3 hs h4 (by simp [Sig.get]) (by rw [h5]; rfl)
   subst this
   exact hM h2
  rcases (hT.sg i b).1 hb with h1 | ⟨_,h1⟩
  ·exact absurd h1 (no _ (by omega) b)
  ·refine (h.sg i b).2 (.inr ⟨no L hn,?_⟩)
   rcases h1 with h1 | ⟨k,o',p',h1,h2,h3,h4,h5⟩
   ·exact .inl h1
   ·exact .inr ⟨k,o',p',h1,hrd k h1 (SO.made j k o o' _ p' i hj h1 hp h3 hs h4 (by simp [Sig.get]) (by rw [h5]; rfl)).2,h3,h4,h5⟩
 | false =>
 have fresh : ∀ q ∈ p.2,s.sg.get q.1 = none := by
  intro q hq
  have hsome : (Sig.get q.1 p.2).isSome = true := by
   have : ∀ (sg : Sig) (q : Nat × Blk),q ∈ sg -> (sg.get q.1).isSome = true := by
    intro sg
    induction sg with
    | nil => intro q hq; cases hq
    | cons a r ih =>
     intro q hq
     obtain ⟨i,c⟩ := a
     simp only [Sig.get]
     cases hb : (i == q.1) with
     | true => rfl
     | false =>
      rcases List.mem_cons.1 hq with rfl | hq
      ·simp at hb
      ·exact ih q hq
   exact this p.2 q hq
  cases hsg : s.sg.get q.1 with
  | none => rfl
  | some b =>
   have h0 := hp.2.2.2 hs q hq
   rcases (h.sg q.1 b).1 hsg with ⟨k,o',p',h1,h2,h3,h4,h5⟩ | ⟨_,h1 | ⟨k,o',p',h1,h2,h3,h4,h5⟩⟩
   ·rw [made hs k o' p' q.1 h1 h2 h3 h4 hsome] at h5
    cases h5
   ·have := jP hv SO.shape (i := q.1) (Nat.zero_le j) (by omega) (by show (st.sg.get q.1).isSome = true; rw [h1]; rfl)
    rw [h0] at this; cases this
   ·rcases Nat.lt_trichotomy k j with hlt | heq | hgt
    ·have := jP hv SO.shape (i := q.1) (show k + 1 <= j by omega) (by omega) (nr h3 h4 (by rw [h5]; rfl))
     rw [h0] at this; cases this
    ·subst heq; exact absurd h2 hn
    ·have h6 := h3.2.2.2 h4 _ (Sig.get_mem h5)
     have := jP hv SO.shape (i := q.1) (show j + 1 <= k by omega) (by omega) (nr hp hs hsome)
     simp only at h6
     rw [h6] at this; cases this
 refine ⟨F6 hs hp.2.2.1 hev (fun x hx i b hu hb => ?_) fresh,fun _ => fresh,fun _ => made hs⟩
 cases x with
 | tmp t =>
  simp only [au,List.getD_eq_getElem?_getD] at hu
  cases ht : (txt E call G l st j).sl[t]? with
  | none => rw [ht] at hu; cases hu
  | some v =>
   rw [ht] at hu
   have no : ∀ M : Nat -> Prop,∀ b',¬ dQ E call G l st n M i b' := by
    rintro M b2 ⟨k,o',p',h1,h2,h3,h4,h5⟩
    have hkj : k ≠ j := by
     rintro rfl
     obtain ⟨rfl,_⟩ := hp.uniq h3
     rw [hs] at h4; cases h4
    have := SO.free k j o' o p' i t v h1 hj hkj h3 hp.1 h4 (by rw [h5]; rfl) hx ht
    have hu : v.ae i = true := hu
    rw [this] at hu; cases hu
   obtain ⟨b',hb'⟩ := Option.isSome_iff_exists.1 (hdom t v i (by rw [slot t hx]; exact ht) hu)
   have up : ∀ (M : Nat -> Prop) b,Made E call G l st n M i b -> (txt E call G l st n).sg.get i = some b := fun M b hm => (hN.sg i b).2 (.inr ⟨no _,hm.imp id fun ⟨k,o',p',h1,_,h3⟩ => ⟨k,o',p',h1,h1,h3⟩⟩)
   have m1 : (txt E call G l st n).sg.get i = some b := by
    rcases (hT.sg i b).1 hb with h1 | ⟨_,h1⟩
    ·exact absurd h1 (no _ b)
    ·exact up _ b h1
   have m2 : (txt E call G l st n).sg.get i = some b' := by
    rcases (h.sg i b').1 hb' with h1 | ⟨_,h1⟩
    ·exact absurd h1 (no _ b')
    ·exact up _ b' h1
   rw [m1] at m2
   cases m2
   exact hb'
 | const v =>
  exfalso
  have : ∀ v : Value,(Fu v).ae i = false := by
   intro v
   have hc1 : ∀ v c,o8 v = some c -> c.ae i = false := by
    intro v c h
    unfold o8 at h
    split at h <;> first | (cases h; done) | (cases h; rfl) | skip
    ·split at h
     ·cases h; rfl
     ·cases h
   have hcs : ∀ vs cs,iS vs = some cs -> ∀ c ∈ cs,c.ae i = false := by
    intro vs
    induction vs with
    | nil => intro cs h c hc; cases h; cases hc
    | cons a vs ih =>
     intro cs h c hc
     simp only [iS,Option.bind_eq_some_iff,Option.some.injEq] at h
     obtain ⟨c1,h1,cs1,h2,rfl⟩ := h
     rcases List.mem_cons.1 hc with rfl | hc
     ·exact hc1 _ _ h1
     ·exact ih _ h2 _ hc
   unfold Fu
   split
   ·split
    ·rename_i l hl
     simp only [AV.ae]
     rw [List.any_eq_false]
     intro c hc
     simp [hcs _ _ hl c hc]
    ·rfl
   ·split <;> rfl
   ·split
    ·rename_i c hc; exact hc1 _ _ hc
    ·rfl
  have h2 := this v
  simp only [au] at hu
  rw [h2] at hu
  cases hu
 | func f => simp [au,AV.ae,Cell.ae] at hu
 | global g => simp [au,AV.ae,Cell.ae] at hu
theorem nV {l : List Oper} {st : St} : ∀ {n : Nat} {s : St},runN E call l st n = some s -> s = txt E call l l st n /\ ∀ j o,j < n -> l[j]? = some o -> (gop E call l (txt E call l l st j).sg (au (txt E call l l st j).sl) o).isSome = true
 | 0,s,h => by cases h; exact ⟨rfl,fun j o hj => by omega⟩
 | n + 1,s,h => by
  simp only [runN] at h
  split at h
  ·rename_i s0 h0
   obtain ⟨rfl,ih⟩ := nV h0
   split at h
   ·rename_i o ho
    split at h
    ·rename_i p hp
     cases h
     refine ⟨by simp only [txt,ho,hp],fun j o' hj ho' => ?_⟩
     by_cases hjn : j = n
     ·subst hjn
      rw [ho] at ho'; cases ho'
      rw [hp]; rfl
     ·exact ih j o' (by omega) ho'
    ·cases h
   ·cases h
  ·cases h
theorem rh {t k : Nat} {sl : List AV} (h : H0 t sl k = true) {u : Nat} {v : AV} (hu : sl[u]? = some v) (hk : u ≠ k) : v.ae t = false := by
 have hlt := (List.getElem?_eq_some_iff.1 hu).1
 have := List.all_eq_true.1 h u (List.mem_range.2 hlt)
 simp only [Bool.or_eq_true,beq_iff_eq,Bool.not_eq_true',List.getD_eq_getElem?_getD,hu,Option.getD_some] at this
 exact this.resolve_left hk
theorem GN {l : List Oper} {st : St} {j : Nat} {o : Oper} {p : AV × Sig} {T : TypeId} (hp : Val E call l l st j o p) (ho : o.op = .alloc T) (hg : o.guard = none) : ∃ d b,o.dst = some d /\ p = (.one (.ptr d 0 0),[(d,b)]) := by
 have h := hp.2.2.1
 unfold gop sop hop at h
 simp only [hg,ho,qop] at h
 split at h
 ·simp only [aq] at h
  split at h
  ·rename_i d _ _ _ _ hd _ _
   cases h
   exact ⟨d,_,hd,rfl⟩
  ·cases h
 ·cases h
theorem Gk {l : List Oper} {st : St} {n : Nat} (H : zl E l n) (hv : ∀ j,j < n -> ∃ o p,Val E call l l st j o p) (hd : Lr E call l st n = true) : kE E call l l st n (Region.waitsFor .any l.toArray) := by
 have sto : ∀ j o p,j < n -> Val E call l l st j o p -> bT o = true -> ∃ t,(∃ b,p.2 = [(t,b)]) /\ ((txt E call l l st j).sg.get t).isSome = true /\ (∃ k ok pk b,k < j /\ Region.waitsFor .any l.toArray j k = true /\ Val E call l l st k ok pk /\ bT ok = false /\ pk.2 = [(t,b)]) /\
   (∀ m om,m < n -> m ≠ j -> l[m]? = some om -> .tmp t ∉ opn l om) /\ .tmp t ∈ opn l o /\ (∀ (u : Nat) (v : AV),st.sl[u]? = some v -> v.ae t = false) /\ (∀ (u : Nat) (v : AV),(txt E call l l st n).sl[u]? = some v -> u ≠ t -> v.ae t = false) := by
  intro j o p hj hp hs
  obtain ⟨T,t,x,hop',hgd⟩ := nc hs hp.2.1
  have h1 := List.all_eq_true.1 H.sto j (List.mem_range.2 hj)
  rw [hp.1] at h1
  simp only [JB,hop',Bool.and_eq_true,List.any_eq_true,List.mem_range,List.all_eq_true] at h1
  obtain ⟨⟨k,hkn,⟨hkj,hw⟩,hal⟩,hoth⟩ := h1
  simp only [decide_eq_true_eq] at hkj
  obtain ⟨ok,pk,hpk⟩ := hv k hkn
  rw [hpk.1] at hal
  simp only at hal
  split at hal
  ·rename_i Ta hka
   simp only [Bool.and_eq_true,Option.isNone_iff_eq_none,beq_iff_eq] at hal
   obtain ⟨d,bk,hdk,hpk'⟩ := GN hpk hka hal.1
   have : d = t := Option.some.inj (hdk.symm.trans hal.2)
   subst this
   have hg := hp.2.2.1
   unfold gop sop at hg
   simp only [hgd,hop'] at hg
   obtain ⟨i,c,b,b',hx,hb,rfl,_⟩ := AU hg
   have hdl : d < st.sl.length := by
    rcases Nat.lt_or_ge d st.sl.length with h | h
    ·exact h
    ·exfalso
     simp only [au,List.getD_eq_getElem?_getD] at hx
     rw [List.getElem?_eq_none (by rw [kM]; exact h)] at hx
     cases hx
   have hsl := xD H.w hv hpk hkn hdk hdl j hkj (by omega)
   rw [kV hsl,hpk'] at hx
   cases hx
   have hda : Ii l n st (txt E call l l st n) = true := by
    unfold Lr at hd
    rw [Bool.or_eq_true] at hd
    rcases hd with hd | hd
    ·exfalso
     have := List.all_eq_true.1 hd o (List.mem_take_iff_getElem.2 ⟨j,by have := H.lt; omega,by
      have := hp.1
      rw [List.getElem?_eq_some_iff] at this
      exact this.2⟩)
     rw [hs] at this; cases this
    ·split at hd
     ·rename_i s hrun
      rw [(nV hrun).1] at hd
      exact hd
     ·cases hd
   have hdo := List.all_eq_true.1 hda o (List.mem_take_iff_getElem.2 ⟨j,by have := H.lt; omega,by
      have := hp.1
      rw [List.getElem?_eq_some_iff] at this
      exact this.2⟩)
   simp only [hop',Bool.and_eq_true] at hdo
   refine ⟨d,⟨_,rfl⟩,by rw [hb]; rfl,⟨k,ok,pk,bk,hkj,hw,hpk,by unfold bT; rw [hka],by rw [hpk']⟩,fun m om hm hmj hom hmem => ?_,List.mem_append_right _ (by rw [hop']; simp [Op.operands]),fun u v hu => rh hdo.1 hu (by have := (List.getElem?_eq_some_iff.1 hu).1; omega),fun u v hu hne => rh hdo.2 hu hne⟩
   have h2 := hoth m hm
   rw [hom] at h2
   simp only [Bool.or_eq_true,beq_iff_eq,Bool.not_eq_true'] at h2
   rcases h2 with h2 | h2
   ·exact hmj h2
   ·rw [List.any_eq_false] at h2
    exact absurd (h2 _ hmem) (by simp)
  ·cases hal
 have hsh : ∀ j o p,j < n -> Val E call l l st j o p -> bT o = true -> ∃ i b,p.2 = [(i,b)] /\ ((txt E call l l st j).sg.get i).isSome = true := by
  intro j o p hj hp hs
  obtain ⟨t,⟨b,h1⟩,h2,_⟩ := sto j o p hj hp hs
  exact ⟨t,b,h1,h2⟩
 have key : ∀ {i t : Nat} {b : Blk},(Sig.get i [(t,b)]).isSome = true -> i = t := by
  intro i t b h
  simp only [Sig.get] at h
  cases hb : (t == i) with
  | true => exact (eq_of_beq hb).symm
  | false => rw [hb] at h; cases h
 refine ⟨fun j k o o' p p' i hj hk hp hp' hs hs' hi hi' => ?_,fun j k o o' p p' i hj hk hp hp' hs hs' hi hi' => ?_,fun j m o o' p i u v hj hm hjm hp ho' hs hi hu hv' => ?_,hsh⟩
 ·obtain ⟨t,⟨b,h1⟩,_,_,h4,_⟩ := sto j o p hj hp hs
  obtain ⟨t',⟨b',h1'⟩,_,_,_,h5',_⟩ := sto k o' p' hk hp' hs'
  rw [h1] at hi
  rw [h1'] at hi'
  have e1 := key hi
  have e2 := key hi'
  subst e1; subst e2
  by_cases hjk : j = k
  ·exact hjk
  ·exact absurd h5' (h4 k o' hk (Ne.symm hjk) hp'.1)
 ·obtain ⟨t,⟨b,h1⟩,_,⟨k0,ok,pk,bk,g1,g2,g3,g4,g5⟩,_⟩ := sto j o p hj hp hs
  rw [h1] at hi
  have e1 := key hi
  subst e1
  have hk0 : (Sig.get i pk.2).isSome = true := by rw [g5]; simp [Sig.get]
  have fresh : ∀ a ao ap,Val E call l l st a ao ap -> bT ao = false -> (Sig.get i ap.2).isSome = true -> (txt E call l l st a).sg.get i = none := by
   intro a ao ap ha hs0 hi0
   obtain ⟨b0,hb0⟩ := Option.isSome_iff_exists.1 hi0
   exact ha.2.2.2 hs0 _ (Sig.get_mem hb0)
  rcases Nat.lt_trichotomy k k0 with hlt | heq | hgt
  ·have := jP hv hsh (i := i) (show k + 1 <= k0 by omega) (by omega) (nr hp' hs' hi')
   rw [fresh k0 ok pk g3 g4 hk0] at this; cases this
  ·subst heq; exact ⟨g1,g2⟩
  ·have := jP hv hsh (i := i) (show k0 + 1 <= k by omega) (by omega) (nr g3 g4 hk0)
   rw [fresh k o' p' hp' hs' hi'] at this; cases this
 ·obtain ⟨t,⟨b,h1⟩,_,_,h4,_,h6,h7⟩ := sto j o p hj hp hs
  rw [h1] at hi
  have e1 := key hi
  subst e1
  have hut : u ≠ i := by
   rintro rfl
   exact h4 m o' hm (Ne.symm hjm) ho' hu
  have hul : u < st.sl.length := by
   have := (List.getElem?_eq_some_iff.1 hv').1
   rw [kM] at this
   exact this
  by_cases hw : ∃ w ow,w < m /\ l[w]? = some ow /\ ow.dst = some u
  ·obtain ⟨w,ow,hwm,how,hdw⟩ := hw
   obtain ⟨o2,p2,hp2⟩ := hv w (by omega)
   have : o2 = ow := Option.some.inj (hp2.1.symm.trans how)
   subst this
   rw [xD H.w hv hp2 (by omega) hdw hul m hwm (by omega)] at hv'
   cases hv'
   exact h7 u _ (xD H.w hv hp2 (by omega) hdw hul n (by omega) (Nat.le_refl _)) hut
  ·rw [Ip hv m (by omega) fun w ow hwm how hdw => hw ⟨w,ow,hwm,how,hdw⟩] at hv'
   exact h6 u v hv'
end
end Go.Proofs.YtcddhifkfakcjaaGreat.Lib
namespace Go.Proofs.YtcddhifkfakcjaaGreat.Lib
open Go Go.RowKit
set_option linter.unusedVariables false
set_option linter.unusedSimpArgs false
def cnt (listed : Array Bool) : Nat -> Nat
 | 0 => 0
 | n + 1 => cnt listed n + if listed.getD n false = true then 0 else 1
theorem mJ {listed : Array Bool} : ∀ {n : Nat},cnt listed n = 0 -> ∀ i,i < n -> listed.getD i false = true
 | 0,_,i,hi => by omega
 | n + 1,h,i,hi => by
  simp only [cnt] at h
  by_cases hl : listed.getD n false = true
  ·by_cases hin : i = n
   ·subst hin; exact hl
   ·exact mJ (n := n) (by omega) i (by omega)
  ·rw [if_neg hl] at h; omega
theorem Er {listed : Array Bool} : ∀ {n : Nat},cnt listed n ≠ 0 -> ∃ i,i < n /\ listed.getD i false = false /\ ∀ k,k < i -> listed.getD k false = true
 | 0,h => absurd rfl h
 | n + 1,h => by
  by_cases h0 : cnt listed n = 0
  ·refine ⟨n,by omega,?_,fun k hk => mJ h0 k hk⟩
   simp only [cnt,h0,Nat.zero_add] at h
   cases hl : listed.getD n false with
   | false => rfl
   | true => rw [hl] at h; simp at h
  ·obtain ⟨i,h1,h2,h3⟩ := Er h0
   exact ⟨i,by omega,h2,h3⟩
theorem qy {listed : Array Bool} {i : Nat} (hi : i < listed.size) (hu : listed.getD i false = false) : ∀ n,cnt (listed.setIfInBounds i true) n + (if i < n then 1 else 0) = cnt listed n
 | 0 => by simp [cnt]
 | n + 1 => by
  have ih := qy hi hu n
  simp only [cnt]
  by_cases hin : i = n
  ·subst hin
   have h1 : (listed.setIfInBounds i true).getD i false = true := by simp [hi]
   rw [h1,hu]
   simp only [Nat.lt_irrefl,if_false,Nat.add_zero] at ih
   simp [ih]
  ·rw [getD_set_ne false hin]
   by_cases hlt : i < n
   ·rw [if_pos hlt] at ih
    rw [if_pos (show i < n + 1 by omega)]
    omega
   ·rw [if_neg hlt] at ih
    rw [if_neg (show ¬ i < n + 1 by omega)]
    omega
theorem sj (m : Nat) : ∀ n,cnt (Array.replicate m false) n = n
 | 0 => rfl
 | n + 1 => by simp only [cnt,sj m n,getD_replicate_false]; rfl
section
variable {P : Program} {E : Env} {B : Nat} {O : Ow} {w0 w w' : World} {ρ ρ' : al} {a : Act} {R : Type} {r : R} {call : aJ} {G : List Oper}
theorem Sim.same {s s' : St} (h : Sim P B O w0 ρ s a w) (hsl : s'.sl = s.sl) (hsg : ∀ i,s'.sg.get i = s.sg.get i) : Sim P B O w0 ρ s' a w := by
 have ho : ∀ j g,aP ρ s'.sg j g ↔ aP ρ s.sg j g := fun j g => by unfold aP; rw [hsg]
 refine ⟨⟨fun j b hj => h.mem.blk j b (by rw [← hsg]; exact hj),fun i j g h1 h2 => h.mem.inj i j g ((ho _ _).1 h1) ((ho _ _).1 h2),fun j g h1 => h.mem.old j g ((ho _ _).1 h1),h.mem.okb,fun b g hb j h1 => h.mem.oko b g hb j ((ho _ _).1 h1),h.mem.okm,h.mem.okx,h.mem.oky,fun j b d hj hd => ?_⟩,by rw [hsl]; exact h.len,fun i v hi => h.sl i v (by rw [← hsl]; exact hi),fun i v d hi hd => ?_,h.defers,h.fr,h.base,h.pin,h.glo⟩
 ·rw [hsg]; exact h.mem.dom j b d (by rw [← hsg]; exact hj) hd
 ·rw [hsg]; exact h.dom i v d (by rw [← hsl]; exact hi) hd
theorem Part.same {l : List Oper} {st s s' : St} {n : Nat} {L L' : Nat -> Prop} (hv : ∀ j,j < n -> ∃ o p,Val E call G l st j o p) (h : Part E call G l st n L s) (h' : Part E call G l st n L' s') (hL : ∀ j,j < n -> L j) (hL' : ∀ j,j < n -> L' j) : s'.sl = s.sl /\ ∀ i,s'.sg.get i = s.sg.get i := by
 constructor
 ·apply List.ext_getElem?
  intro t
  by_cases hw : ∃ k o',k < n /\ l[k]? = some o' /\ o'.dst = some t
  ·obtain ⟨k,o',hk,ho',hd⟩ := hw
   obtain ⟨o2,p2,hp2⟩ := hv k hk
   have : o2 = o' := Option.some.inj (hp2.1.symm.trans ho')
   subst this
   by_cases htl : t < st.sl.length
   ·rw [h.wr k o2 p2 t hk (hL k hk) hp2 hd htl,h'.wr k o2 p2 t hk (hL' k hk) hp2 hd htl]
   ·rw [List.getElem?_eq_none (by rw [h'.len]; exact Nat.le_of_not_lt htl),List.getElem?_eq_none (by rw [h.len]; exact Nat.le_of_not_lt htl)]
  ·rw [h.un t fun i oi hi hl ho hdi => hw ⟨i,oi,hi,ho,hdi⟩,h'.un t fun i oi hi hl ho hdi => hw ⟨i,oi,hi,ho,hdi⟩]
 ·intro i
  apply Option.ext
  intro b
  rw [h'.sg,h.sg]
  have sw : ∀ (M M' : Nat -> Prop),(∀ j,j < n -> M' j) -> ∀ b,dQ E call G l st n M i b -> dQ E call G l st n M' i b := fun M M' hM b ⟨j,o,p,hj,_,x⟩ => ⟨j,o,p,hj,hM j hj,x⟩
  have mw : ∀ (M M' : Nat -> Prop),(∀ j,j < n -> M' j) -> ∀ b,Made E call G l st n M i b -> Made E call G l st n M' i b := fun M M' hM b h => h.imp id fun ⟨j,o,p,hj,_,x⟩ => ⟨j,o,p,hj,hM j hj,x⟩
  constructor
  ·rintro (h | ⟨h,h2⟩)
   ·exact .inl (sw _ _ hL b h)
   ·exact .inr ⟨fun b' hb' => h b' (sw _ _ hL' b' hb'),mw _ _ hL b h2⟩
  ·rintro (h | ⟨h,h2⟩)
   ·exact .inl (sw _ _ hL' b h)
   ·exact .inr ⟨fun b' hb' => h b' (sw _ _ hL b' hb'),mw _ _ hL' b h2⟩
theorem rD {ops : Array Oper} {s : St} {o : Oper} {p : AV × Sig} (hS : Sim P B O w0 ρ s a w) (ho : dc E o = true) (h : gop E call ops.toList s.sg (au s.sl) o = some p) :
  (Region.wanted o (yielded ops a.tmps) = true /\ sop E call s.sg (au s.sl) o = some p) ∨ (Region.wanted o (yielded ops a.tmps) = false /\ bT o = false /\ p = (.tup [],[])) := by
 have gs : ∀ q,o.guard = some q -> bT o = false := by
  intro q hq
  cases hs : bT o with
  | false => rfl
  | true =>
   obtain ⟨_,_,_,_,hg⟩ := nc hs ho
   rw [hg] at hq; cases hq
 unfold gop at h
 split at h
 ·rename_i hg
  exact .inl ⟨by simp [Region.wanted,hg],h⟩
 ·rename_i j want hg
  split at h
  ·rename_i t ht
   have ht' : (ops[j]?).bind (·.dst) = some t := by rw [← Array.getElem?_toList]; exact ht
   have he := (hS.eval (.tmp t)).1
   split at h
   ·rename_i v hv
    rw [hv] at he
    have he : a.tmps.getD t undef = .bool v := he
    have hy : yielded ops a.tmps j = some v := by
     unfold yielded
     rw [ht']
     rw [Array.getD_eq_getD_getElem?] at he
     simp only [Option.bind_some]
     cases hx : a.tmps[t]? with
     | none => rw [hx] at he; cases he
     | some x => rw [hx] at he; simp only [Option.getD_some] at he; subst he; rfl
    have hw : Region.wanted o (yielded ops a.tmps) = (v == want) := by
     unfold Region.wanted
     rw [hg]
     simp only [hy]
     cases v <;> cases want <;> rfl
    simp only [aq] at h
    split at h
    ·rename_i hvw; exact .inl ⟨hw.trans hvw,by rw [rC (gs _ hg)]; exact h⟩
    ·rename_i hvw; cases h; exact .inr ⟨by rw [hw]; simpa using hvw,gs _ hg,rfl⟩
   ·rename_i hv
    rw [hv] at he
    obtain ⟨us,he,hus⟩ := he
    cases hus
    have he : a.tmps.getD t undef = .tuple #[] := he
    have hy : yielded ops a.tmps j = none := by
     unfold yielded
     rw [ht']
     rw [Array.getD_eq_getD_getElem?] at he
     simp only [Option.bind_some]
     cases hx : a.tmps[t]? with
     | none => rfl
     | some x => rw [hx] at he; simp only [Option.getD_some] at he; subst he; rfl
    cases h
    refine .inr ⟨?_,gs _ hg,rfl⟩
    unfold Region.wanted
    rw [hg]
    simp only [hy]
    rfl
   ·cases h
  ·cases h
theorem fJ (hE : Env.Ok P E) (hm : P.follows .mixedOrders = true) (call : aJ) (hC : cJ P call) : eV P E call cO := by
 intro R r B O w0 w ρ st a id ops k Q hdraw hS hk hnext
 simp only [cO,List.any_eq_true] at hdraw
 obtain ⟨n0,_,hB⟩ := hdraw
 generalize hn : ops.toList.length - 1 - n0 = n at hB
 rw [Bool.and_eq_true] at hB
 have H := JZ hB.1
 obtain ⟨hk',hv⟩ := tk n (Nat.le_of_lt H.lt) H.ok (fun j o hj ho hs => by
  have hd := hB.2
  unfold Lr at hd
  rw [Bool.or_eq_true] at hd
  rcases hd with hd | hd
  ·have := List.all_eq_true.1 hd o (List.mem_take_iff_getElem.2 ⟨j,by have := H.lt; omega,(List.getElem?_eq_some_iff.1 ho).2⟩)
   rw [hs] at this; cases this
  ·split at hd
   ·rename_i s hrun
    exact (nV hrun).2 j o hj ho
   ·cases hd) hk
 have SO := Gk H hv hB.2
 have hsz : ops.size = ops.toList.length := by simp
 have harr : ops.toList.toArray = ops := by simp
 have hnlt : n < ops.size := by rw [hsz]; exact H.lt
 have hget : ∀ j : Nat,ops[j]? = ops.toList[j]? := fun j => by simp
 have hsink := H.sink
 have hchain := H.chain
 have hseq := H.seq
 rw [harr] at hsink hchain hseq
 refine wp_region_any hm ?_
 have main : ∀ (f : Nat) (listed : Array Bool) (a : Act) (w : World) (ρ : al) (s : St),HeadInv .any ops n listed -> cnt listed n = f -> Part E call ops.toList ops.toList st n (fun i => listed.getD i false = true) s -> Sim P B O w0 ρ s a w -> wpAny P .any ops Q (f + (ops.size - n)) listed a w := by
  intro f
  induction f with
  | zero =>
   intro listed a w ρ s inv hc hp hS
   have hall := mJ hc
   obtain ⟨h1,h2⟩ := Part.same hv hp (jJ H.w SO hv n (Nat.le_refl _)) hall (fun j hj => hj)
   have hS' := hS.same h1 h2
   have htail := fo hE hC hnext (ops.toList.drop n) _ ρ a w hS' hk'
   have hl : listed = kH n (ops.toList.length - n) := by
    apply Array.ext
    ·rw [inv.size]; simp [kH]; omega
    ·intro i h1 h2
     have hi : i < ops.size := by rw [← inv.size]; exact h1
     rcases Nat.lt_or_ge i n with hin | hin
     ·have := hall i hin
      simp only [Array.getD_eq_getD_getElem?,Array.getElem?_eq_getElem h1,Option.getD_some] at this
      rw [this]
      simp [kH,List.getElem_append,hin]
     ·have := inv.tail i hin hi
      simp only [Array.getD_eq_getD_getElem?,Array.getElem?_eq_getElem h1,Option.getD_some] at this
      rw [this]
      simp [kH,List.getElem_append,Nat.not_lt.2 hin]
   have hdl : (ops.toList.drop n).length = ops.size - n := by simp
   rw [Nat.zero_add,← hdl]
   refine wpAny_of_seq (ops.toList.drop n) n listed a w (fun j => by simp [List.getElem?_drop]) ?_ htail
   rw [hl,List.length_drop]
   exact hseq
  | succ f ih =>
   intro listed a w ρ s inv hc hp hS
   obtain ⟨i0,hi0,hu0,hlow⟩ := Er (listed := listed) (n := n) (by omega)
   have hu0' : listed.getD i0 true = false := getD_in (by rw [inv.size]; omega) hu0
   rw [show f + 1 + (ops.size - n) = (f + (ops.size - n)) + 1 by omega]
   refine ⟨fun h0 => ?_,fun i hi => ?_⟩
   ·exfalso
    have hi0s : i0 < ops.size := by omega
    have : i0 ∈ Region.ready .any ops listed := by
     refine mem_ready.2 ⟨hu0',ops[i0],Array.getElem?_eq_getElem hi0s,fun e he hb => hlow _ ?_⟩
     exact H.edges i0 ops[i0] hi0 (by rw [← hget]; exact Array.getElem?_eq_getElem hi0s) e he hb
    rw [h0] at this
    cases this
   ·have hin : i < n := by
     rcases Nat.lt_or_ge i n with h | h
     ·exact h
     ·exact absurd hi (tail_waits hsink hchain hnlt inv _ i0 rfl hi0 hu0' i h)
    obtain ⟨hu,oi,hoi,haft⟩ := mem_ready.1 hi
    obtain ⟨o,p,hval⟩ := hv i hin
    have : oi = o := Option.some.inj ((hoi.symm.trans (hget i)).trans hval.1)
    subst this
    have hu' := getD_both hu
    obtain ⟨hh,hf,hbe⟩ := Bm H.w SO hv hp hin hval (by rw [hu']; simp) (fun a b ha hb hla hw => by
     rw [harr] at hw
     obtain ⟨oj,hoj,e,he,hbd,hon⟩ := Region.waitsFor_spec hw
     rw [← hon]
     exact inv.closed a oj hoj hla e he hbd) (fun b hb hw => by
     rw [harr] at hw
     obtain ⟨oj,hoj,e,he,hbd,hon⟩ := Region.waitsFor_spec hw
     have : oj = oi := Option.some.inj (hoj.symm.trans hoi)
     subst this
     rw [← hon]
     exact haft e he hbd) hS.dom
    have hho := hval.2.1
    unfold wpOp
    simp only [hoi]
    have next : ∀ ρ' a' w',Sim P B O w0 ρ' (aft oi p s) a' w' -> wpAny P .any ops Q (f + (ops.size - n)) (listed.setIfInBounds i true) a' w' := by
     intro ρ' a' w' hS'
     refine ih _ a' w' ρ' _ (inv.set hi hin) ?_ ?_ hS'
     ·have := qy (listed := listed) (i := i) (by rw [inv.size]; omega) hu' n
      rw [if_pos hin] at this
      omega
     ·refine hp.step SO hin (by rw [hu']; simp) hval (fun j => ?_) (fun j o' t hj h1 h2 h3 => H.uniq j i o' oi t hj hin h1 hval.1 h2 h3) hf hbe
      by_cases hji : i = j
      ·subst hji
       simp [show i < listed.size by rw [inv.size]; omega]
      ·rw [getD_set_ne false hji]
       exact ⟨.inl,fun h => h.elim (fun h => h) fun h => absurd h.symm hji⟩
    rcases rD hS hho hh with ⟨hw,hh⟩ | ⟨hw,hns,rfl⟩
    ·rw [if_pos hw]
     have hex : exec E call oi s some = some (aft oi p s) := by
      cases hs : bT oi with
      | true =>
       obtain ⟨t,u,v,h1,_⟩ := nc hs hho
       unfold sop at hh
       simp only [h1] at hh
       exact EJ h1 hh some
      | false =>
       rw [rC hs] at hh
       rw [zq (R := St) hho hh some,kv hs]
     refine .inl (fZ hE hC hS oi hex fun ρ' st' a' w' heq hS' => ?_)
     cases heq
     exact next ρ' a' w' hS'
    ·rw [if_neg (by rw [hw]; simp)]
     refine next ρ _ w ?_
     rw [kv hns]
     exact hS.put oi.dst (v := .tup []) (u := undef) ⟨[],rfl,.nil⟩ (fun d hd => by cases hd)
 have h0 := main n (Array.replicate ops.size false) a { w with drawn := w.drawn + 1 } ρ st
  ⟨by simp,fun j oj _ hl => (by rw [getD_replicate_false] at hl; cases hl),fun t _ ht => getD_in (by simpa using ht) (getD_replicate_false _ _)⟩
  (sj _ _) (Part.start fun j _ h => by rw [getD_replicate_false] at h; cases h)
  (hS.below ⟨rfl,rfl,rfl,Nat.le_refl _,fun _ _ => rfl⟩)
 rwa [show n + (ops.size - n) = ops.size by omega] at h0
end
end Go.Proofs.YtcddhifkfakcjaaGreat.Lib
namespace Go.Proofs.YtcddhifkfakcjaaGreat.Lib
open Go Go.RowKit
set_option linter.unusedVariables false
set_option linter.unusedSimpArgs false
section
variable {P : Program} {E : Env} {B : Nat} {O : Ow} {w0 w w' : World} {ρ ρ' : al} {st : St} {a : Act} {R : Type} {r : R} {call : aJ}
theorem AX {sl : List AV} {sg1 : Sig} {js : List (Nat × Nat)} {dst : Option Nat} {res : AV} {fin : Sig} (k : St -> Option R) : iN sl sg1 js dst res fin k = (iN sl sg1 js dst res fin some).bind k := by
 unfold iN
 simp only [aq]
 repeat' (first | rfl | split)
theorem oN {α : Type} (o : aL α) (f : α -> Option St) (g : α -> Option R) (k : St -> Option R) (h : ∀ x,g x = (f x).bind k) : o.run g = (o.run f).bind k := by
 rw [aL.run_bind o g,aL.run_bind o f,Option.bind_assoc]
 congr 1
 funext x
 exact h x
theorem AK {dst : Option Nat} {f : AV} {args : List AV} {k : St -> Option R} {oth : Option R} {oth' : Option St} (ho : oth = oth'.bind k) : kc E st dst f args k oth = (kc E st dst f args some oth').bind k := by
 unfold kc
 repeat' (first | exact ho | exact oN _ _ _ _ fun x => AX k | split)
theorem nF {dst : Option Nat} {f : AV} {args : List AV} (k : St -> Option R) : fe E call st dst f args k = (fe E call st dst f args some).bind k := by
 unfold fe
 simp only [sL]
 split
 ·split
  ·refine jR fun args => ?_
   rw [Option.bind_assoc]
   congr 1
   funext x
   simp only [aq]
   repeat' (first | rfl | split)
  ·rfl
 ·rfl
theorem iF {dst : Option Nat} {m : Mrk} {args : List AV} (k : St -> Option R) : gw st dst m args k = (gw st dst m args some).bind k := by
 unfold gw
 simp only [aq]
 repeat' (first | rfl | (refine oN _ _ _ _ fun x => ?_; split <;> rfl) | split)
theorem uh {dst : Option Nat} {m : Mrk} {j i k0 : Nat} {rest : List AV} (k : St -> Option R) : il st dst m j i k0 rest k = (il st dst m j i k0 rest some).bind k := by
 unfold il
 simp only [aq]
 repeat' (first | rfl | (refine oN _ _ _ _ fun x => ?_; repeat' (first | rfl | split)) | split)
theorem ui {dst : Option Nat} {m : Mrk} {args : List AV} (k : St -> Option R) : gX st dst m args k = (gX st dst m args some).bind k := by
 unfold gX
 split
 ·exact iF k
 ·split
  ·exact uh k
  ·exact iF k
 ·exact iF k
theorem xc {n j i c : Nat} {cs : List Cell} (k : St -> Option R) : kP st n j i c cs k = (kP st n j i c cs some).bind k := by
 unfold kP
 simp only [aq]
 repeat' (first | rfl | split)
theorem tW {d e by_ j j' : Nat} {τ : Ty} (k : St -> Option R) : gZ E st d e τ by_ j j' k = (gZ E st d e τ by_ j j' some).bind k := by
 unfold gZ
 simp only [aq]
 repeat' (first | rfl | split)
theorem wY {dst : Option Nat} {t : TypeId} {n : Nat} {ps : List (Nat × AV)} {other other' : Option St} {other2 : Option R} (k : St -> Option R) (ho : other2 = other.bind k) : gq E st dst t n ps k other2 = (gq E st dst t n ps some other).bind k := by
 subst ho
 unfold gq
 simp only [aq]
 repeat' (first | rfl | split)
theorem qh {t : TypeId} {p v : AV} (k : St -> Option R) : lO E st t p v k = (lO E st t p v some).bind k := by
 unfold lO
 simp only [aq]
 repeat' (first | rfl | exact xc k | split)
theorem xw {dst : Option Nat} {t : TypeId} {s x : AV} (k : St -> Option R) : je E st dst t s x k = (je E st dst t s x some).bind k := by
 unfold je
 simp only [aq]
 repeat' (first | rfl | exact tW k | split)
theorem p3 {t : TypeId} {x : AV} (k : St -> Option R) : nS E st t x k = (nS E st t x some).bind k := by
 unfold nS
 repeat' (first | rfl | split)
theorem AI {o : Oper} {k : St -> Option R} (h : exec E call o st k = some r) : ∃ s',exec E call o st some = some s' /\ k s' = some r := by
 have quiet : ∀ {op : Op},(qop E st.sg (au st.sl) o.dst op fun v add => k (St.put o.dst v ⟨st.sl,add ++ st.sg⟩)) = some r -> ∃ s',(qop E st.sg (au st.sl) o.dst op fun v add => some (St.put o.dst v ⟨st.sl,add ++ st.sg⟩)) = some s' /\ k s' = some r := by
  intro op h
  obtain ⟨p,h1,h2⟩ := xV h
  exact ⟨_,h1.1 _ st.sg _ (fun _ _ => rfl) (fun _ _ j b _ hj => hj) h1.2,h2⟩
 have eqn : ∀ {x : Option R} {y : Option St},x = y.bind k -> x = some r -> ∃ s',y = some s' /\ k s' = some r := by
  intro x y h1 h2
  rw [h1,Option.bind_eq_some_iff] at h2
  exact h2
 cases hop : o.op with
 | store t x v =>
  unfold exec at h ⊢
  rw [hop] at h ⊢
  simp only at h ⊢
  refine eqn ?_ h
  rw [qh,qh (fun st => some (st.put o.dst (.one .und))),Option.bind_assoc]
  rfl
 | call c =>
  unfold exec at h ⊢
  rw [hop] at h ⊢
  simp only at h ⊢
  split at h
  ·rename_i s x t t' hc ha ht
   simp only [aq] at h ⊢
   split at h
   ·rename_i hh; rw [if_pos hh]; exact eqn (xw k) h
   ·cases h
  ·rename_i x t hc ha ht
   refine eqn ?_ h
   rw [p3,p3 (fun st => some (St.put o.dst (.tup []) st)),Option.bind_assoc]
   rfl
  ·refine eqn ?_ h
   split
   ·exact ui k
   ·split
    ·exact nF k
    ·exact AK (nF k)
  ·exact quiet h
 | buildSlice t n ps =>
  unfold exec at h ⊢
  rw [hop] at h ⊢
  refine eqn ?_ h
  refine wY (other' := none) k ?_
  simp only [aq]
  repeat' (first | rfl | split)
 | _ => (unfold exec at h ⊢; rw [hop] at h ⊢; exact quiet h)
def dH (o : Oper) : Bool := o.guard.isNone && (match o.op with | .move _ | .nilCheck _ | .fieldAddr _ _ _ | .indexAddr _ _ _ | .slice _ _ _ _ _ => true | .call c => (match c.callee with | .builtin .len => true | _ => false) | _ => false)
theorem C0 (hE : Env.Ok P E) (h : Sim P B O w0 ρ st a w) {o : Oper} (ho : dH o = true) {k : AV -> Sig -> Option R} (hk : qop E st.sg (au st.sl) o.dst o.op k = some r) : ∃ u,∀ w2,(execOp a.eval o).run P w2 = .ok (.value u) w2 := by
 unfold dH at ho
 rw [Bool.and_eq_true] at ho
 have ho := ho.2
 split at ho
 ·rename_i x hop
  exact ⟨a.eval x,fun w2 => by unfold execOp; simp [hop]⟩
 ·rename_i x hop
  rw [hop] at hk
  simp only [qop] at hk
  have hx := (h.eval x).1
  refine ⟨a.eval x,fun w2 => ?_⟩
  split at hk <;> rename_i hp <;> try (cases hk; done)
  ·rw [hp] at hx
   unfold execOp
   rcases hx with ⟨_,g,_,h2⟩ | ⟨_,_,_,_,_,_,h2⟩ <;> simp [hop,h2]
  ·rw [hp] at hx
   unfold execOp
   obtain ⟨_,_,h2⟩ := hx
   simp [hop,h2]
  ·rw [hp] at hx
   unfold execOp
   obtain ⟨_,_,_,_,_,_,_,h2⟩ := hx
   simp [hop,h2]
  ·rw [hp] at hx
   unfold execOp
   obtain ⟨_,h2,_⟩ := hx
   simp [hop,h2]
  ·rw [hp] at hx
   unfold execOp
   obtain ⟨_,h2,_⟩ := hx
   simp [hop,h2]
 ·rename_i t x f hop
  obtain ⟨_,u,_,h1,_⟩ := EB hE h hop hk
  exact ⟨u,h1⟩
 ·rename_i t x i hop
  obtain ⟨_,u,_,h1,_⟩ := Ef hE h hop hk
  exact ⟨u,h1⟩
 ·rename_i t x lo hi mx hop
  obtain ⟨_,u,_,h1,_⟩ := EO hE h hop hk
  exact ⟨u,h1⟩
 ·rename_i c hop
  split at ho
  ·rename_i hc
   rw [hop] at hk
   simp only [qop] at hk
   split at hk
   ·rename_i x t ts hc2 ha hat
    have ha := sd ha
    have hat0 : c.argTypes[0]? = some t := by rw [← Array.getElem?_toList,hat]; rfl
    split at hk
    ·rename_i s sz by_ hp ht
     have hx := (h.eval x).1
     rw [hp] at hx
     have hx : a.eval x = .string s := hx
     refine ⟨.int .i64 s.size,fun w2 => ?_⟩
     unfold execOp
     simp [hop,Sem.run_bind,resolve,hc2,ha,invoke,builtin,Builtin.len_,hat0,hx,run_underlying (ni (hE.ti _ _ ht)),goInt]
    ·rename_i cl e sz by_ ty hp ht
     have hx := (h.eval x).1
     rw [hp] at hx
     obtain ⟨A,n,cp,hu,hk⟩ := vl h hk hx
     refine ⟨.int .i64 n,fun w2 => ?_⟩
     unfold execOp
     simp [hop,Sem.run_bind,resolve,hc2,ha,invoke,builtin,Builtin.len_,hat0,hu,run_underlying (cg (hE.ti _ _ ht)),goInt]
    ·cases hk
   ·rename_i h2 _
    rw [hc] at h2
    cases h2
   ·rename_i h2 _
    rw [hc] at h2
    cases h2
   ·cases hk
  ·cases ho
 ·cases ho
theorem Gl {o : Oper} (ho : dH o = true) (k : St -> Option R) : exec E call o st k = qop E st.sg (au st.sl) o.dst o.op fun v add => k (St.put o.dst v ⟨st.sl,add ++ st.sg⟩) := by
 unfold dH at ho
 rw [Bool.and_eq_true] at ho
 have ho := ho.2
 unfold exec
 split at ho <;> rename_i hop <;> first | (rw [hop]; done) | (cases ho; done) | (split at ho <;> rename_i hc <;> first | (rw [hop]; simp only [hc]; done) | (cases ho; done))
theorem DF (hE : Env.Ok P E) (h : Sim P B O w0 ρ st a w) {o : Oper} (ho : dH o = true) {s' : St} (hk : exec E call o st some = some s') :
  ∃ u ρ',(∀ w2,(execOp a.eval o).run P w2 = .ok (.value u) w2) /\ Sim P B O w0 ρ' s' (a.put o.dst u) w := by
 rw [Gl ho] at hk
 obtain ⟨u,hu⟩ := C0 hE h ho hk
 obtain ⟨v,add,u',w',h1,h2,h3⟩ := vG hE h o hk
 obtain ⟨ρ2,hS⟩ := h.PH h3
 rw [hu w] at h2
 cases h2
 cases h1
 exact ⟨u,ρ2,hu,hS⟩
end
end Go.Proofs.YtcddhifkfakcjaaGreat.Lib
namespace Go.Proofs.YtcddhifkfakcjaaGreat.Lib
open Go Go.RowKit
set_option linter.unusedVariables false
set_option linter.unusedSimpArgs false
def Gs : Oper := { dst := none, op := .move (.const (.bool true)), type := 0, pos := "", after := #[], guard := none }
def Lz : Oper := { dst := none, op := .ready 0, type := 0, pos := "", after := #[], guard := none }
def bK (ops : Array Oper) (i : Nat) : Oper := (ops[i]?).getD Lz
def sv (ops : Array Oper) (L : Array Bool) (i : Nat) : Bool := (bK ops i).after.toList.all fun e => !Region.binds .any e || L.getD e.on false
def eC (ops : Array Oper) (skip : Nat -> Bool) : List Nat -> Array Bool -> List (List Nat)
 | [],_ => [[]]
 | i :: r,L => (bif sv ops L i then (eC ops skip r (L.setIfInBounds i true)).map (i :: ·) else []) ++ (bif skip i then eC ops skip r L else [])
def jw (ops : Array Oper) (L : Array Bool) (A : List Nat) (i : Nat) : Bool :=
 (List.range ops.size).any fun h => !L.getD h true && (!A.contains h && !((bK ops h).after.toList.any fun e => Region.binds .any e && e.on == i))
def eL (E : Env) (o : Oper) : Bool := dc E o && !bT o
def grow (E : Env) (ops : Array Oper) : List Nat -> Array Bool -> List Nat
 | [],_ => []
 | i :: r,L => bif !L.getD i true && eL E (bK ops i) && sv ops L i then i :: grow E ops r (L.setIfInBounds i true) else grow E ops r L
def dr (E : Env) (ops : Array Oper) (L : Array Bool) : List Nat := (List.range ops.size).filter fun i => (grow E ops (List.range ops.size) L).contains i
def eo (L : Array Bool) : List Nat -> Array Bool
 | [] => L
 | i :: r => eo (L.setIfInBounds i true) r
def HG (ops : Array Oper) (A : List Nat) : Bool :=
 A.all fun j => A.all fun k => match (bK ops k).dst with
  | some t => (j == k || (bK ops j).dst != some t) && (!((opn ops.toList (bK ops j)).any fun x => match x with | .tmp u => u == t | _ => false) || (decide (k < j) && Region.waitsFor .any ops j k) || (decide (j < k) && Region.waitsFor .any ops k j))
  | none => true
def lN (E : Env) (ops : Array Oper) (L : Array Bool) (A : List Nat) : Bool :=
 A.all (fun i => eL E (bK ops i) && !L.getD i true && sv ops (eo L A) i) && HG ops A
def branch (ops : Array Oper) (A : List Nat) (next : Array Bool -> List (List Nat)) (L : Array Bool) (D : List Nat) : List (List Nat) :=
 bif (Region.ready .any ops L).isEmpty then [D] else ((Region.ready .any ops L).filter fun h => !A.contains h).flatMap fun h => bif (bK ops h).guard.isNone then (next (L.setIfInBounds h true)).map fun π => D ++ h :: π else [D ++ [ops.size]]
def K9 (ops : Array Oper) (L : Array Bool) : Option Nat := (List.range ops.size).find? fun i => dH (bK ops i) && (Region.ready .any ops L).contains i && Region.free .any ops L i
def dK (E : Env) (ops : Array Oper) : Nat -> Array Bool -> List (List Nat)
 | 0,_ => [[ops.size]]
 | f + 1,L => match K9 ops L with
  | some i => (dK E ops f (L.setIfInBounds i true)).map (i :: ·)
  | none => bif lN E ops L (dr E ops L) then (eC ops (jw ops L (dr E ops L)) (dr E ops L) L).flatMap fun D => branch ops (dr E ops L) (dK E ops f) (eo L D) D else [[ops.size]]
section
variable {P : Program} {E : Env} {B : Nat} {O : Ow} {w0 w w' : World} {ρ ρ' : al} {st : St} {a : Act} {R : Type} {r : R} {call : aJ} {ops : Array Oper}
def vg1 (E : Env) (call : aJ) (G : List Oper) (o : Oper) (st : St) (k : St -> Option R) : Option R :=
 match o.guard with
 | none => exec E call o st k
 | some (j,want) => (match (G[j]?).bind (·.dst) with
   | some t => (match st.sl[t]? with
    | some (.one (.bool v)) => (match v with
     | true => bif want then exec E call o (st.put (some t) (.one (.bool true))) k else k ((st.put (some t) (.one (.bool true))).put o.dst (.tup []))
     | false => bif want then k ((st.put (some t) (.one (.bool false))).put o.dst (.tup [])) else exec E call o (st.put (some t) (.one (.bool false))) k)
    | some (.tup []) => k (st.put o.dst (.tup []))
    | _ => none)
   | none => none)
theorem dg {G : List Oper} {o : Oper} {l : List Oper} {st : St} {k : St -> Option R} : aW E call G (o :: l) st k = vg1 E call G o st fun s => aW E call G l s k := rfl
theorem lj {G : List Oper} : ∀ {l m : List Oper} {st : St} {k : St -> Option R},aW E call G (l ++ m) st k = aW E call G l st fun s => aW E call G m s k
 | [],_,_,_ => rfl
 | o :: l,m,st,k => by
  rw [List.cons_append,dg,dg]
  congr 1
  funext s
  exact lj
def lD (ops : Array Oper) (D : List Nat) : List Oper := (List.range ops.size).map fun i => bif D.contains i then bK ops i else Gs
theorem pP {G : List Oper} {D : List Nat} : ∀ {l : List Nat} {st : St} {k : St -> Option R},aW E call G (l.map fun i => bif D.contains i then bK ops i else Gs) st k = aW E call G ((l.filter D.contains).map (bK ops)) st k
 | [],_,_ => rfl
 | i :: l,st,k => by
  rw [List.map_cons,dg]
  cases hd : D.contains i with
  | true =>
   rw [List.filter_cons_of_pos hd,List.map_cons,dg]
   simp only [cond_true]
   congr 1
   funext s
   exact pP
  | false =>
   rw [List.filter_cons_of_neg (by rw [hd]; simp)]
   simp only [cond_false]
   exact pP (l := l)
theorem uC {i : Nat} {o : Oper} (h : ops[i]? = some o) : bK ops i = o := by unfold bK; rw [h]; rfl
theorem qF {i : Nat} (h : i < ops.size) : ops[i]? = some (bK ops i) := by unfold bK; rw [Array.getElem?_eq_getElem h]; rfl
theorem rE : bK ops ops.size = Lz := by unfold bK; simp
theorem xN {G : List Oper} {l : List Oper} {st : St} {k : St -> Option R} (h : aW E call G (Lz :: l) st k = some r) : False := by
 rw [dg] at h
 unfold vg1 exec Lz at h
 simp only [qop] at h
 cases h
theorem zp {D : List Nat} {i : Nat} (h : i < ops.size) : (lD ops D)[i]? = some (bif D.contains i then bK ops i else Gs) := by
 unfold lD
 rw [List.getElem?_map,List.getElem?_range h]
 rfl
theorem HI {D : List Nat} : (lD ops D).length = ops.size := by unfold lD; simp
theorem eR {L : Array Bool} {i j : Nat} : (L.setIfInBounds i true).getD j false = true ↔ L.getD j false = true ∨ (i = j /\ i < L.size) := by
 by_cases hij : i = j
 ·subst hij
  by_cases hl : i < L.size
  ·simp [hl]
  ·have : L.getD i false = false := by simp [Array.getElem?_eq_none (Nat.le_of_not_lt hl)]
   simp [hl]
 ·rw [getD_set_ne false hij]
  simp [hij]
theorem dM : ∀ {D : List Nat} {L : Array Bool},(eo L D).size = L.size
 | [],_ => rfl
 | i :: r,L => by rw [eo,dM]; simp
theorem fC : ∀ {D : List Nat} {L : Array Bool} {j : Nat},j < L.size -> ((eo L D).getD j false = true ↔ L.getD j false = true ∨ j ∈ D)
 | [],_,_,_ => by simp [eo]
 | i :: r,L,j,hj => by
  rw [eo,fC (by simpa using hj),eR]
  constructor
  ·rintro ((h | ⟨rfl,_⟩) | h)
   ·exact .inl h
   ·exact .inr (List.mem_cons_self ..)
   ·exact .inr (List.mem_cons_of_mem _ h)
  ·rintro (h | h)
   ·exact .inl (.inl h)
   ·rcases List.mem_cons.1 h with rfl | h
    ·exact .inl (.inr ⟨rfl,hj⟩)
    ·exact .inr h
theorem fN {p skip : Nat -> Bool} : ∀ {l : List Nat} {L : Array Bool},l.Pairwise (· < ·) -> (∀ i ∈ l,i < L.size) ->
  (∀ i ∈ l,p i = true -> ∀ e ∈ (bK ops i).after,Region.binds .any e = true -> L.getD e.on false = true ∨ (e.on ∈ l /\ p e.on = true /\ e.on < i)) -> (∀ i ∈ l,p i = false -> skip i = true) -> l.filter p ∈ eC ops skip l L
 | [],_,_,_,_,_ => by simp [eC]
 | i :: l,L,hs,hz,h,hk => by
  have hlt : ∀ {j},j ∈ l -> i < j := fun hj => List.rel_of_pairwise_cons hs hj
  simp only [eC,List.mem_append]
  cases hp : p i with
  | true =>
   left
   have hd : sv ops L i = true := by
    unfold sv
    rw [List.all_eq_true]
    intro e he
    cases hb : Region.binds .any e with
    | false => rfl
    | true =>
     rcases h i (List.mem_cons_self ..) hp e (by simpa using he) hb with h1 | ⟨h1,_,h2⟩
     ·simp only [Bool.not_true,Bool.false_or]; exact h1
     ·rcases List.mem_cons.1 h1 with h1 | h1
      ·omega
      ·have := hlt h1; omega
   rw [hd,cond_true,List.filter_cons_of_pos hp]
   refine List.mem_map.2 ⟨_,fN (List.Pairwise.of_cons hs) (fun j hj => by simpa using hz j (List.mem_cons_of_mem _ hj)) (fun j hj hpj e he hb => ?_) (fun j hj => hk j (List.mem_cons_of_mem _ hj)),rfl⟩
   rcases h j (List.mem_cons_of_mem _ hj) hpj e he hb with h1 | ⟨h1,h2,h3⟩
   ·exact .inl (eR.2 (.inl h1))
   ·rcases List.mem_cons.1 h1 with h1 | h1
    ·exact .inl (eR.2 (.inr ⟨h1.symm,hz i (List.mem_cons_self ..)⟩))
    ·exact .inr ⟨h1,h2,h3⟩
  | false =>
   right
   rw [List.filter_cons_of_neg (by rw [hp]; simp),hk i (List.mem_cons_self ..) hp,cond_true]
   refine fN (List.Pairwise.of_cons hs) (fun j hj => hz j (List.mem_cons_of_mem _ hj)) (fun j hj hpj e he hb => ?_) (fun j hj => hk j (List.mem_cons_of_mem _ hj))
   rcases h j (List.mem_cons_of_mem _ hj) hpj e he hb with h1 | ⟨h1,h2,h3⟩
   ·exact .inl h1
   ·rcases List.mem_cons.1 h1 with h1 | h1
    ·rw [h1,hp] at h2; cases h2
    ·exact .inr ⟨h1,h2,h3⟩
theorem qb (L : Array Bool) : (dr E ops L).Pairwise (· < ·) := List.Pairwise.filter _ List.pairwise_lt_range
theorem kQ {L : Array Bool} {i : Nat} (h : i ∈ dr E ops L) : i < ops.size := List.mem_range.1 ((List.mem_filter.1 h).1)
theorem rB (hed : gE ops.size ops = true) {i : Nat} (hi : i < ops.size) {e : Edge} (he : e ∈ (bK ops i).after) (hb : Region.binds .any e = true) : e.on < i := by
 unfold gE at hed
 have := List.all_eq_true.1 hed i (List.mem_range.2 hi)
 rw [qF hi] at this
 have := List.all_eq_true.1 this e (by simpa using he)
 simpa [hb] using this
theorem Md {L : Array Bool} {i : Nat} (h : L.getD i false = true) : i < L.size := by
 rcases Nat.lt_or_ge i L.size with h1 | h1
 ·exact h1
 ·simp [Array.getElem?_eq_none h1] at h
theorem oE {A : List Nat} {L : Array Bool} (hed : gE ops.size ops = true) (hL : L.size = ops.size) (hA : ∀ i ∈ A,i < ops.size) (hp : lN E ops L A = true) {i : Nat} (hi : i ∈ A) {e : Edge} (he : e ∈ (bK ops i).after) (hb : Region.binds .any e = true) :
  (L.getD e.on false = true ∨ e.on ∈ A) /\ e.on < i := by
 refine ⟨?_,rB hed (hA i hi) he hb⟩
 unfold lN at hp
 rw [Bool.and_eq_true,List.all_eq_true] at hp
 have h1 := hp.1 i hi
 simp only [Bool.and_eq_true] at h1
 have h2 := List.all_eq_true.1 h1.2 e (by simpa using he)
 simp only [hb,Bool.not_true,Bool.false_or] at h2
 have h3 := Md h2
 rw [dM] at h3
 exact (fC h3).1 h2
theorem Dg {L : Array Bool} (hed : gE ops.size ops = true) (hL : L.size = ops.size) (hp : lN E ops L (dr E ops L) = true) : dr E ops L ∈ eC ops (jw ops L (dr E ops L)) (dr E ops L) L := by
 have := fN (ops := ops) (p := fun _ => true) (skip := jw ops L (dr E ops L)) (qb L) (fun i hi => by rw [hL]; exact kQ hi) (L := L) (fun i hi _ e he hb => by
  obtain ⟨h1,h2⟩ := oE hed hL (fun i hi => kQ hi) hp hi he hb
  exact h1.imp id fun h => ⟨h,rfl,h2⟩) (fun _ _ h => by cases h)
 rwa [List.filter_eq_self.2 (fun _ _ => rfl)] at this
theorem fy {L : Array Bool} {i : Nat} (h : i ∈ Region.ready .any ops L) (hL : L.size = ops.size) : L.getD i false = false /\ i < ops.size := by
 have := (mem_ready.1 h).1
 refine ⟨getD_both this,?_⟩
 obtain ⟨_,o,ho,_⟩ := mem_ready.1 h
 exact (Array.getElem?_eq_some_iff.1 ho).1
theorem Bv (hed : gE ops.size ops = true) {L : Array Bool} (hL : L.size = ops.size) (h : Region.ready .any ops L = []) : ∀ i,i < ops.size -> L.getD i false = true := by
 intro i
 induction i using Nat.strongRecOn with
 | ind i ih =>
  intro hi
  cases hu : L.getD i false with
  | true => rfl
  | false =>
   have : i ∈ Region.ready .any ops L := mem_ready.2 ⟨by rw [← hu]; simp [Array.getD,hL,hi],_,qF hi,fun e he hb => ih _ (rB hed hi he hb) (Nat.lt_trans (rB hed hi he hb) hi)⟩
   rw [h] at this
   cases this
theorem lM {L listed : Array Bool} {A : List Nat} {h : Nat} (hr : h ∈ Region.ready .any ops listed) (hA : h ∉ A) (hL : L.size = ops.size) (hLl : ∀ i,L.getD i false = true -> listed.getD i false = true) : ∀ i ∈ A,listed.getD i false = false -> jw ops L A i = true := by
 intro i hi hu
 obtain ⟨hu',o,ho,haft⟩ := mem_ready.1 hr
 have hh := (Array.getElem?_eq_some_iff.1 ho).1
 have hb0 := getD_both hu'
 have hLh : L.getD h true = false := by
  have h1 : L.getD h false = false := by
   cases h2 : L.getD h false with
   | false => rfl
   | true => rw [hLl h h2] at hb0; cases hb0
  rw [← h1]; simp [Array.getD,hL,hh]
 unfold jw
 rw [List.any_eq_true]
 refine ⟨h,List.mem_range.2 hh,?_⟩
 rw [hLh,uC ho]
 have hc : A.contains h = false := by
  cases hc : A.contains h with
  | false => rfl
  | true => exact absurd (by simpa using hc) hA
 rw [hc]
 simp only [Bool.not_false,Bool.true_and,Bool.not_eq_true',List.any_eq_false]
 intro e he hb
 rw [Bool.and_eq_true,beq_iff_eq] at hb
 have := haft e (by simpa using he) hb.1
 rw [hb.2,hu] at this
 cases this
theorem vg {A : List Nat} {next : Array Bool -> List (List Nat)} {L : Array Bool} (hn : ∀ L,L.size = ops.size -> next L ≠ []) (hL : L.size = ops.size) (hA : ∀ i ∈ A,L.getD i false = true) {D : List Nat} : ∃ m,D ++ m ∈ branch ops A next L D := by
 unfold branch
 simp only [aq]
 split
 ·exact ⟨[],by simp⟩
 ·rename_i hr
  cases hrs : Region.ready .any ops L with
  | nil => rw [hrs] at hr; simp at hr
  | cons h rs =>
   have hh : h ∈ Region.ready .any ops L := by rw [hrs]; exact List.mem_cons_self ..
   have hc : A.contains h = false := by
    cases hc : A.contains h with
    | false => rfl
    | true =>
     have h1 := hA h (by simpa using hc)
     rw [(fy hh hL).1] at h1
     cases h1
   cases hnx : next (L.setIfInBounds h true) with
   | nil => exact absurd hnx (hn _ (by simpa using hL))
   | cons π πs =>
    cases hgd : (bK ops h).guard.isNone with
    | true => exact ⟨h :: π,List.mem_flatMap.2 ⟨h,List.mem_filter.2 ⟨List.mem_cons_self ..,by simpa using hc⟩,by rw [hgd]; exact List.mem_map.2 ⟨π,by rw [hnx]; exact List.mem_cons_self ..,rfl⟩⟩⟩
    | false => exact ⟨[ops.size],List.mem_flatMap.2 ⟨h,List.mem_filter.2 ⟨List.mem_cons_self ..,by simpa using hc⟩,by rw [hgd]; exact List.mem_singleton.2 rfl⟩⟩
theorem jC (hed : gE ops.size ops = true) : ∀ (f : Nat) (L : Array Bool),L.size = ops.size -> dK E ops f L ≠ []
 | 0,_,_ => by simp [dK]
 | f + 1,L,hL => by
  simp only [dK]
  split
  ·rename_i i hi
   have := jC hed f (L.setIfInBounds i true) (by simpa using hL)
   simpa using this
  ·simp only [aq]
   split
   ·rename_i hp
    obtain ⟨m,hm⟩ := vg (D := dr E ops L) (A := dr E ops L) (L := eo L (dr E ops L)) (jC hed f) (by rw [dM]; exact hL) (fun i hi => (fC (by rw [hL]; exact kQ hi)).2 (.inr hi))
    exact List.ne_nil_of_mem (List.mem_flatMap.2 ⟨_,Dg hed hL hp,hm⟩)
   ·simp
def VD (E : Env) (call : aJ) (ops : Array Oper) (st : St) (D : List Nat) : Prop := ∀ j,j < ops.size -> ∃ o p,Val E call ops.toList (lD ops D) st j o p
theorem yb {D : List Nat} (hl : ∀ i ∈ D,eL E (bK ops i) = true) : ∀ o ∈ lD ops D,dc E o = true /\ bT o = false := by
 intro o ho
 unfold lD at ho
 obtain ⟨i,hi,rfl⟩ := List.mem_map.1 ho
 cases hc : D.contains i with
 | true =>
  have := hl i (by simpa using hc)
  unfold eL at this
  simp only [Bool.and_eq_true,Bool.not_eq_true'] at this
  exact this
 | false => exact ⟨rfl,rfl⟩
theorem KO {D : List Nat} {m : List Nat} {k : St -> Option R} (hl : ∀ i ∈ D,eL E (bK ops i) = true) (hD : (List.range ops.size).filter D.contains = D) (h : aW E call ops.toList ((D ++ m).map (bK ops)) st k = some r) :
  VD E call ops st D /\ aW E call ops.toList (m.map (bK ops)) (txt E call ops.toList (lD ops D) st ops.size) k = some r := by
 rw [List.map_append,lj] at h
 have h1 : aW E call ops.toList (lD ops D) st (fun s => aW E call ops.toList (m.map (bK ops)) s k) = some r := by
  unfold lD
  rw [pP,hD]
  exact h
 have hall := yb hl
 obtain ⟨h2,h3⟩ := tk ops.size (by rw [HI]; exact Nat.le_refl _) (by
  rw [List.all_eq_true]
  intro o ho
  exact (hall o (List.mem_of_mem_take ho)).1) (fun j o hj ho hs => by
  rw [(hall o (List.mem_of_getElem? ho)).2] at hs
  cases hs) h1
 rw [List.drop_eq_nil_of_le (by rw [HI]; exact Nat.le_refl _)] at h2
 exact ⟨h3,h2⟩
theorem kE.none {l : List Oper} {st : St} {n : Nat} {W : Nat -> Nat -> Bool} (hl : ∀ o ∈ l,bT o = false) : kE E call ops.toList l st n W := by
 have no : ∀ {j o p},Val E call ops.toList l st j o p -> bT o = true -> False := fun hv hs => by
  rw [hl _ (List.mem_of_getElem? hv.1)] at hs; cases hs
 exact ⟨fun j k o o' p p' i _ _ hv _ hs => (no hv hs).elim,fun j k o o' p p' i _ _ hv _ hs => (no hv hs).elim,fun j m o o' p i t v _ _ _ hv _ hs => (no hv hs).elim,fun j o p _ hv hs => (no hv hs).elim⟩
theorem Cn {D : List Nat} {j k t : Nat} {oj ok : Oper} (hj : j < ops.size) (hk : k < ops.size) (h1 : (lD ops D)[j]? = some oj) (h2 : (lD ops D)[k]? = some ok) (h3 : ok.dst = some t) :
  k ∈ D /\ ok = bK ops k /\ (.tmp t ∈ opn ops.toList oj -> j ∈ D /\ oj = bK ops j /\ .tmp t ∈ opn ops.toList (bK ops j)) := by
 rw [zp hj] at h1
 rw [zp hk] at h2
 cases h1; cases h2
 have hkd : D.contains k = true := by
  cases hc : D.contains k with
  | true => rfl
  | false => rw [hc] at h3; cases h3
 refine ⟨by simpa using hkd,by rw [hkd]; rfl,fun hm => ?_⟩
 cases hc : D.contains j with
 | true =>
  rw [hc] at hm
  exact ⟨by simpa using hc,rfl,hm⟩
 | false =>
  rw [hc] at hm
  simp [opn,tst,Gs,Op.operands] at hm
theorem CH {A : List Nat} {L : Array Bool} (hp : lN E ops L A = true) {D : List Nat} (hD : ∀ i ∈ D,i ∈ A) : HeadW E ops.toList (lD ops D) ops.size (fun a b => D.contains a && Region.waitsFor .any ops a b) := by
 unfold lN at hp
 rw [Bool.and_eq_true,List.all_eq_true] at hp
 have hl : ∀ i ∈ D,eL E (bK ops i) = true := fun i hi => by
  have := hp.1 i (hD i hi)
  simp only [Bool.and_eq_true] at this
  exact this.1.1
 have hr := hp.2
 unfold HG at hr
 refine ⟨?_,fun j k oj ok t hj hk h1 h2 h3 h4 => ?_,fun j k oj ok t hj hk h1 h2 h3 h4 => ?_⟩
 ·rw [List.all_eq_true]
  intro o ho
  exact (yb hl o (List.mem_of_mem_take ho)).1
 ·obtain ⟨hkD,rfl,_⟩ := Cn hj hk h1 h2 h4
  obtain ⟨hjD,rfl,_⟩ := Cn hj hj h1 h1 h3
  have := List.all_eq_true.1 (List.all_eq_true.1 hr j (hD j hjD)) k (hD k hkD)
  simp only [h4,h3,Bool.and_eq_true,Bool.or_eq_true,beq_iff_eq,bne_iff_ne,ne_eq,not_true_eq_false,or_false] at this
  exact this.1
 ·obtain ⟨hkD,rfl,h5⟩ := Cn hj hk h1 h2 h3
  obtain ⟨hjD,rfl,h6⟩ := h5 h4
  have := List.all_eq_true.1 (List.all_eq_true.1 hr j (hD j hjD)) k (hD k hkD)
  simp only [h3,Bool.and_eq_true,Bool.or_eq_true,decide_eq_true_eq,Bool.not_eq_true'] at this
  have cj : D.contains j = true := by simpa using hjD
  have ck : D.contains k = true := by simpa using hkD
  rcases this.2 with (h | h) | h
  ·rw [List.any_eq_false] at h
   exact absurd (h _ h6) (by simp)
  ·exact .inl ⟨h.1,by rw [cj,h.2]; rfl⟩
  ·exact .inr ⟨h.1,by rw [ck,h.2]; rfl⟩
theorem Part.Wx {D : List Nat} {st : St} {Lp : Nat -> Prop} (h : ∀ j,j < ops.size -> Lp j -> j ∉ D) : Part E call ops.toList (lD ops D) st ops.size Lp st := by
 have nop : ∀ {j o p},j < ops.size -> Lp j -> Val E call ops.toList (lD ops D) st j o p -> o = Gs /\ p.2 = [] := by
  intro j o p hj hl hv
  have hc : D.contains j = false := by
   cases hc : D.contains j with
   | true => exact absurd (by simpa using hc) (h j hj hl)
   | false => rfl
  have h1 := hv.1
  rw [zp hj,hc] at h1
  cases h1
  refine ⟨rfl,?_⟩
  have h2 := hv.2.2.1
  simp only [cond_false,gop,sop,hop,Gs,qop] at h2
  cases h2
  rfl
 refine ⟨rfl,fun j o p t hj hl hv hd => ?_,fun t _ => rfl,fun i b => ⟨fun hb => .inr ⟨?_,.inl hb⟩,?_⟩⟩
 ·rw [(nop hj hl hv).1] at hd; cases hd
 ·rintro b' ⟨j,o,p,hj,hl,hv,hs,_⟩
  rw [(nop hj hl hv).1] at hs; cases hs
 ·rintro (⟨j,o,p,hj,hl,hv,hs,_⟩ | ⟨_,hb | ⟨j,o,p,hj,hl,hv,hs,hg⟩⟩)
  ·rw [(nop hj hl hv).1] at hs; cases hs
  ·exact hb
  ·rw [(nop hj hl hv).2] at hg; cases hg
theorem vU {o : Oper} {f : Nat -> Option Bool} (h : o.guard = none) : Region.wanted o f = true := by simp [Region.wanted,h]
theorem zY (hE : Env.Ok P E) (hC : cJ P call) (hed : gE ops.size ops = true) (hns : Region.noSelect ops = true) {k : St -> Option R} {Q : Exit -> Act -> World -> Prop}
  (hnext : ∀ ρ' st' a' w',k st' = some r -> Sim P B O w0 ρ' st' a' w' -> Q .normal a' w') (hQ : ∀ c a w,¬ Q (.panic c) a w) :
  ∀ (f : Nat) (L : Array Bool) (st : St) (ρ : al) (a : Act) (w : World) (fuel : Nat),HeadInv .any ops ops.size L -> cnt L ops.size = fuel -> Sim P B O w0 ρ st a w ->
   (∀ π ∈ dK E ops f L,aW E call ops.toList (π.map (bK ops)) st k = some r) -> wpAny P .any ops Q fuel L a w := by
 intro f
 induction f with
 | zero =>
  intro L st ρ a w fuel inv hc hS h
  have := h [ops.size] (by simp [dK])
  rw [List.map_cons,rE] at this
  exact (xN this).elim
 | succ f ih =>
  intro L st ρ a w fuel inv hc hS h
  have hrun : ∀ {i : Nat} {s : St} {a : Act} {w : World} {ρ : al} {n : Nat} {L : Array Bool},HeadInv .any ops ops.size L -> cnt L ops.size = n + 1 -> i ∈ Region.ready .any ops L -> cnt (L.setIfInBounds i true) ops.size = n := by
   intro i s a w ρ n L inv hc hi
   obtain ⟨h1,h2⟩ := fy hi inv.size
   have := qy (listed := L) (i := i) (by rw [inv.size]; exact h2) h1 ops.size
   rw [if_pos h2] at this
   omega
  have hpos : ∀ {i : Nat} {L : Array Bool} {n : Nat},HeadInv .any ops ops.size L -> cnt L ops.size = n -> i ∈ Region.ready .any ops L -> ∃ m,n = m + 1 := by
   intro i L n inv hc hi
   obtain ⟨h1,h2⟩ := fy hi inv.size
   have := qy (listed := L) (i := i) (by rw [inv.size]; exact h2) h1 ops.size
   rw [if_pos h2] at this
   exact ⟨n - 1,by omega⟩
  simp only [dK] at h
  split at h
  ·rename_i i hi
   have hp := List.find?_some hi
   simp only [Bool.and_eq_true] at hp
   obtain ⟨⟨h1,h2⟩,h3⟩ := hp
   have hr : i ∈ Region.ready .any ops L := by simpa using h2
   obtain ⟨hu,hin⟩ := fy hr inv.size
   obtain ⟨m,rfl⟩ := hpos inv hc hr
   have hall : ∀ π ∈ dK E ops f (L.setIfInBounds i true),∃ s',exec E call (bK ops i) st some = some s' /\ aW E call ops.toList (π.map (bK ops)) s' k = some r := by
    intro π hπ
    have := h (i :: π) (List.mem_map.2 ⟨π,hπ,rfl⟩)
    rw [List.map_cons,dg] at this
    have hgn : (bK ops i).guard = none := by unfold dH at h1; rw [Bool.and_eq_true] at h1; exact Option.isNone_iff_eq_none.1 h1.1
    unfold vg1 at this
    simp only [hgn] at this
    exact AI this
   cases hpl : dK E ops f (L.setIfInBounds i true) with
   | nil => exact absurd hpl (jC hed f _ (by simpa using inv.size))
   | cons π0 πs =>
    obtain ⟨s',hs,_⟩ := hall π0 (by rw [hpl]; exact List.mem_cons_self ..)
    obtain ⟨u,ρ',hy,hS'⟩ := DF hE hS h1 hs
    refine wpAny_take (qF hin) hns h3 h2 (fun c a w hq => (hQ _ _ _ hq).elim) (.inl ⟨vU (by unfold dH at h1; rw [Bool.and_eq_true] at h1; exact Option.isNone_iff_eq_none.1 h1.1),hy⟩) ?_
    refine ih _ s' ρ' _ w m (inv.set hr hin) (hrun (s := st) (a := a) (w := w) (ρ := ρ) inv hc hr) hS' fun π hπ => ?_
    obtain ⟨s2,h4,h5⟩ := hall π hπ
    rw [hs] at h4
    cases h4
    exact h5
  ·simp only [aq] at h
   split at h
   case isFalse =>
    have := h [ops.size] (by simp)
    rw [List.map_cons,rE] at this
    exact (xN this).elim
   rename_i hp
   generalize hAe : dr E ops L = A at h hp
   have hAlt : ∀ i ∈ A,i < ops.size := fun i hi => by rw [← hAe] at hi; exact kQ hi
   have hpair : A.Pairwise (· < ·) := by rw [← hAe]; exact qb L
   have hnd : A.Nodup := hpair.imp (fun h => Nat.ne_of_lt h)
   have hAr : ∀ q : Nat -> Bool,(List.range ops.size).filter (A.filter q).contains = A.filter q := by
    intro q
    rw [← hAe]
    unfold dr
    rw [List.filter_filter]
    apply List.filter_congr
    intro i hi
    rw [Bool.eq_iff_iff]
    simp only [List.contains_iff_mem,List.mem_filter,Bool.and_eq_true,hi,true_and]
   have hph := hp
   unfold lN at hph
   rw [Bool.and_eq_true,List.all_eq_true] at hph
   have hlt : ∀ i ∈ A,eL E (bK ops i) = true /\ L.getD i false = false := fun i hi => by
    have := hph.1 i hi
    simp only [Bool.and_eq_true,Bool.not_eq_true'] at this
    exact ⟨this.1.1,getD_both this.1.2⟩
   have hlq : ∀ q : Nat -> Bool,∀ i ∈ A.filter q,eL E (bK ops i) = true := fun q i hi => (hlt i (List.mem_filter.1 hi).1).1
   have hHW : ∀ q : Nat -> Bool,HeadW E ops.toList (lD ops (A.filter q)) ops.size (fun a b => (A.filter q).contains a && Region.waitsFor .any ops a b) := fun q => CH hp fun i hi => (List.mem_filter.1 hi).1
   have hSO : ∀ (q : Nat -> Bool) W,kE E call ops.toList (lD ops (A.filter q)) st ops.size W := fun q W => kE.none fun o ho => (yb (hlq q) o ho).2
   have final : ∀ (listed : Array Bool) (a : Act) (w : World) (ρ : al) (s : St),(∀ i ∈ A,listed.getD i false = false -> jw ops L A i = true) -> HeadInv .any ops ops.size listed -> (∀ i,L.getD i false = true -> listed.getD i false = true) -> (∀ i,listed.getD i false = true -> L.getD i false = true ∨ i ∈ A) -> Sim P B O w0 ρ s a w ->
     (∀ q : Nat -> Bool,A.filter q ∈ eC ops (jw ops L A) A L -> (∀ i ∈ A,listed.getD i false = true -> q i = true) -> VD E call ops st (A.filter q) -> Part E call ops.toList (lD ops (A.filter q)) st ops.size (fun i => listed.getD i false = true ∨ ¬ (i ∈ A /\ q i = true)) s) ->
     ∀ m,(∃ m',A.filter (fun i => listed.getD i false) ++ m' ∈ branch ops A (dK E ops f) listed (A.filter (fun i => listed.getD i false)) /\ m' = m) ->
      ∃ s',Sim P B O w0 ρ s' a w /\ s' = txt E call ops.toList (lD ops (A.filter fun i => listed.getD i false)) st ops.size /\ aW E call ops.toList (m.map (bK ops)) s' k = some r := by
    intro listed a w ρ s hskip inv' hL1 hL2 hS' hpart m hm
    obtain ⟨m',hm,rfl⟩ := hm
    have hsub : A.filter (fun i => listed.getD i false) ∈ eC ops (jw ops L A) A L := by
     refine fN hpair (fun i hi => by rw [inv.size]; exact hAlt i hi) (fun i hi hpi e he hb => ?_) hskip
     obtain ⟨h1,h2⟩ := oE hed inv.size hAlt hp hi he hb
     rcases h1 with h1 | h1
     ·exact .inl h1
     ·exact .inr ⟨h1,inv'.closed i _ (qF (hAlt i hi)) hpi e he hb,h2⟩
    have hset : eo L (A.filter fun i => listed.getD i false) = listed := by
     apply Array.ext
     ·rw [dM,inv.size,inv'.size]
     ·intro i h1 h2
      have h3 : i < L.size := by rw [dM] at h1; exact h1
      have := fC (D := A.filter fun i => listed.getD i false) h3
      have h4 : (eo L (A.filter fun i => listed.getD i false)).getD i false = listed.getD i false := by
       rw [Bool.eq_iff_iff,this]
       constructor
       ·rintro (h | h)
        ·exact hL1 i h
        ·exact (List.mem_filter.1 h).2
       ·intro h
        rcases hL2 i h with h5 | h5
        ·exact .inl h5
        ·exact .inr (List.mem_filter.2 ⟨h5,h⟩)
      have e1 : (eo L (A.filter fun i => listed.getD i false)).getD i false = (eo L (A.filter fun i => listed.getD i false))[i] := by rw [Array.getD,dif_pos h1]; rfl
      have e2 : listed.getD i false = listed[i] := by rw [Array.getD,dif_pos h2]; rfl
      rw [← e1,← e2]
      exact h4
    have hr := h _ (List.mem_flatMap.2 ⟨_,hsub,by rw [hset]; exact hm⟩)
    obtain ⟨hVD,hrun'⟩ := KO (hlq _) (hAr _) hr
    have hpt := hpart _ hsub (fun i _ h => h) hVD
    obtain ⟨h1,h2⟩ := Part.same hVD hpt (jJ (hHW _) (hSO _ _) hVD ops.size (Nat.le_refl _)) (fun j hj => by
     by_cases hjl : listed.getD j false = true
     ·exact .inl hjl
     ·exact .inr fun h => hjl h.2) (fun j hj => hj)
    exact ⟨_,hS'.same h1 h2,rfl,hrun'⟩
   have main : ∀ (fuel : Nat) (listed : Array Bool) (a : Act) (w : World) (ρ : al) (s : St),HeadInv .any ops ops.size listed -> cnt listed ops.size = fuel -> (∀ i,L.getD i false = true -> listed.getD i false = true) -> (∀ i,listed.getD i false = true -> L.getD i false = true ∨ i ∈ A) -> Sim P B O w0 ρ s a w ->
     (∀ q : Nat -> Bool,A.filter q ∈ eC ops (jw ops L A) A L -> (∀ i ∈ A,listed.getD i false = true -> q i = true) -> VD E call ops st (A.filter q) -> Part E call ops.toList (lD ops (A.filter q)) st ops.size (fun i => listed.getD i false = true ∨ ¬ (i ∈ A /\ q i = true)) s) ->
     wpAny P .any ops Q fuel listed a w := by
    intro fuel
    have done : ∀ (listed : Array Bool) (a : Act) (w : World) (ρ : al) (s : St),HeadInv .any ops ops.size listed -> (∀ i,L.getD i false = true -> listed.getD i false = true) -> (∀ i,listed.getD i false = true -> L.getD i false = true ∨ i ∈ A) -> Sim P B O w0 ρ s a w ->
      (∀ q : Nat -> Bool,A.filter q ∈ eC ops (jw ops L A) A L -> (∀ i ∈ A,listed.getD i false = true -> q i = true) -> VD E call ops st (A.filter q) -> Part E call ops.toList (lD ops (A.filter q)) st ops.size (fun i => listed.getD i false = true ∨ ¬ (i ∈ A /\ q i = true)) s) ->
      Region.ready .any ops listed = [] -> Q .normal a w := by
     intro listed a w ρ s inv' hL1 hL2 hS' hpart hre
     obtain ⟨s',h1,h2,h3⟩ := final listed a w ρ s (fun i hi hu => by rw [Bv hed inv'.size hre i (hAlt i hi)] at hu; cases hu) inv' hL1 hL2 hS' hpart [] ⟨[],by unfold branch; rw [hre]; simp,rfl⟩
     exact hnext ρ s' a w h3 h1
    induction fuel with
    | zero =>
     intro listed a w ρ s inv' hc' hL1 hL2 hS' hpart
     have hre : Region.ready .any ops listed = [] := by
      cases hrs : Region.ready .any ops listed with
      | nil => rfl
      | cons i rs =>
       have hi : i ∈ Region.ready .any ops listed := by rw [hrs]; exact List.mem_cons_self ..
       obtain ⟨h1,h2⟩ := fy hi inv'.size
       rw [mJ hc' i h2] at h1
       cases h1
     exact ⟨hre,done listed a w ρ s inv' hL1 hL2 hS' hpart hre⟩
    | succ fuel ihf =>
     intro listed a w ρ s inv' hc' hL1 hL2 hS' hpart
     refine ⟨done listed a w ρ s inv' hL1 hL2 hS' hpart,fun i hi => ?_⟩
     obtain ⟨hu,hin⟩ := fy hi inv'.size
     obtain ⟨hu',oi,hoi,haft⟩ := mem_ready.1 hi
     have : oi = bK ops i := (uC hoi).symm
     subst this
     by_cases hiA : i ∈ A
     ·have step : ∀ q : Nat -> Bool,A.filter q ∈ eC ops (jw ops L A) A L -> (∀ x ∈ A,listed.getD x false = true -> q x = true) -> VD E call ops st (A.filter q) -> q i = true ->
        ∃ p,Val E call ops.toList (lD ops (A.filter q)) st i (bK ops i) p /\ gop E call ops.toList s.sg (au s.sl) (bK ops i) = some p /\ (∀ x ∈ p.2,s.sg.get x.1 = none) := by
       intro q hq hdn hVD hqi
       have hpq := hpart q hq hdn hVD
       obtain ⟨o,p,hv⟩ := hVD i hin
       have hci : (A.filter q).contains i = true := by
        rw [List.contains_iff_mem]
        exact List.mem_filter.2 ⟨hiA,hqi⟩
       have ho := hv.1
       rw [zp hin,hci] at ho
       cases ho
       simp only [cond_true] at hv
       have hli := hlq q i (List.mem_filter.2 ⟨hiA,hqi⟩)
       unfold eL at hli
       simp only [Bool.and_eq_true,Bool.not_eq_true'] at hli
       obtain ⟨g1,g2,_⟩ := Bm (hHW q) (hSO q _) hVD hpq hin hv (by rw [hu]; simp [hiA,hqi]) (fun x y hx hy hxl hxy => by
        rw [Bool.and_eq_true] at hxy
        obtain ⟨oj,hoj,e,he,hbd,hon⟩ := Region.waitsFor_spec hxy.2
        rcases hxl with hxl | hxl
        ·rw [← hon]
         exact .inl (inv'.closed x oj hoj hxl e he hbd)
        ·exact absurd (List.mem_filter.1 (by simpa using hxy.1)) hxl) (fun y hy hxy => by
        rw [Bool.and_eq_true] at hxy
        obtain ⟨oj,hoj,e,he,hbd,hon⟩ := Region.waitsFor_spec hxy.2
        have : oj = bK ops i := Option.some.inj (hoj.symm.trans hoi)
        subst this
        rw [← hon]
        exact .inl (haft e he hbd)) hS'.dom
       exact ⟨p,hv,g1,g2 hli.2⟩
      have hsubA : A.filter (fun _ => true) ∈ eC ops (jw ops L A) A L := by
       refine fN hpair (fun i hi => by rw [inv.size]; exact hAlt i hi) (fun i hi _ e he hb => ?_) (fun _ _ h => by cases h)
       obtain ⟨h1,h2⟩ := oE hed inv.size hAlt hp hi he hb
       exact h1.imp id fun h => ⟨h,rfl,h2⟩
      have hVDA : VD E call ops st (A.filter fun _ => true) := by
       obtain ⟨m,hm⟩ := vg (D := A.filter fun _ => true) (A := A) (L := eo L (A.filter fun _ => true)) (jC (E := E) hed f) (by rw [dM]; exact inv.size) (fun i hi => (fC (by rw [inv.size]; exact hAlt i hi)).2 (.inr (List.mem_filter.2 ⟨hi,rfl⟩)))
       exact (KO (hlq _) (hAr _) (h _ (List.mem_flatMap.2 ⟨_,hsubA,hm⟩))).1
      obtain ⟨p,hv,hgo,hfr⟩ := step _ hsubA (fun _ _ _ => rfl) hVDA rfl
      have hli := (hlt i hiA).1
      unfold eL at hli
      simp only [Bool.and_eq_true,Bool.not_eq_true'] at hli
      have next : ∀ ρ' a' w',Sim P B O w0 ρ' (aft (bK ops i) p s) a' w' -> wpAny P .any ops Q fuel (listed.setIfInBounds i true) a' w' := by
       intro ρ' a' w' h'
       refine ihf _ a' w' ρ' _ (inv'.set hi hin) (hrun (s := st) (a := a) (w := w) (ρ := ρ) inv' hc' hi) (fun x hx => eR.2 (.inl (hL1 x hx))) (fun x hx => ?_) h' fun q hq hdn hVD => ?_
       ·rcases eR.1 hx with hx | ⟨rfl,_⟩
        ·exact hL2 x hx
        ·exact .inr hiA
       ·have hqi : q i = true := hdn i hiA (eR.2 (.inr ⟨rfl,by rw [inv'.size]; exact hin⟩))
        have hdn' : ∀ x ∈ A,listed.getD x false = true -> q x = true := fun x hx hxl => hdn x hx (eR.2 (.inl hxl))
        obtain ⟨p',hv',hgo',_⟩ := step q hq hdn' hVD hqi
        rw [hgo] at hgo'
        cases hgo'
        refine (hpart q hq hdn' hVD).step (hSO q (fun _ _ => true)) hin (by rw [hu]; simp [hiA,hqi]) hv' (fun x => ?_) (fun x o' t hx h1 h2 h3 => (hHW q).uniq x i o' _ t hx hin h1 hv'.1 h2 h3) (fun _ => hfr) (fun _ x o' p' y hx _ hvx hso _ => ?_)
        ·rw [eR]
         constructor
         ·rintro ((h | ⟨h,_⟩) | h)
          ·exact .inl (.inl h)
          ·exact .inr h.symm
          ·exact .inl (.inr h)
         ·rintro ((h | h) | h)
          ·exact .inl (.inl h)
          ·exact .inr h
          ·exact .inl (.inr ⟨h.symm,by rw [inv'.size]; exact hin⟩)
        ·rw [(yb (hlq q) o' (List.mem_of_getElem? hvx.1)).2] at hso
         cases hso
      unfold wpOp
      simp only [hoi]
      rcases rD hS' hli.1 hgo with ⟨hw,hh⟩ | ⟨hw,hnst,rfl⟩
      ·rw [if_pos hw]
       have hex : exec E call (bK ops i) s some = some (aft (bK ops i) p s) := by
        rw [rC hli.2] at hh
        rw [zq (R := St) hli.1 hh some,kv hli.2]
       refine .inl (fZ hE hC hS' (bK ops i) hex fun ρ' st' a' w' heq h' => ?_)
       cases heq
       exact next ρ' a' w' h'
      ·rw [if_neg (by rw [hw]; simp)]
       refine next ρ _ w ?_
       rw [kv hnst]
       exact hS'.put (bK ops i).dst (v := .tup []) (u := undef) ⟨[],rfl,.nil⟩ (fun d hd => by cases hd)
     ·obtain ⟨π0,πs,hpl⟩ : ∃ π0 πs,dK E ops f (listed.setIfInBounds i true) = π0 :: πs := by
       cases hpl : dK E ops f (listed.setIfInBounds i true) with
       | nil => exact absurd hpl (jC hed f _ (by simpa using inv'.size))
       | cons π0 πs => exact ⟨_,_,rfl⟩
      have hgd : (bK ops i).guard.isNone = true := by
       cases hgd : (bK ops i).guard.isNone with
       | true => rfl
       | false =>
        exfalso
        obtain ⟨s',_,_,h3⟩ := final listed a w ρ s (lM hi hiA inv.size hL1) inv' hL1 hL2 hS' hpart [ops.size] ⟨_,by
         unfold branch
         have hne : (Region.ready .any ops listed).isEmpty = false := by
          cases hrs : Region.ready .any ops listed with
          | nil => rw [hrs] at hi; cases hi
          | cons x xs => rfl
         rw [hne]
         exact List.mem_flatMap.2 ⟨i,List.mem_filter.2 ⟨hi,by simpa using hiA⟩,by rw [hgd]; exact List.mem_singleton.2 rfl⟩,rfl⟩
        rw [List.map_cons,rE] at h3
        exact xN h3
      have hgn : (bK ops i).guard = none := Option.isNone_iff_eq_none.1 hgd
      have hw : ∀ f,Region.wanted (bK ops i) f = true := fun f => vU hgn
      have hbr : ∀ π ∈ dK E ops f (listed.setIfInBounds i true),A.filter (fun i => listed.getD i false) ++ (i :: π) ∈ branch ops A (dK E ops f) listed (A.filter (fun i => listed.getD i false)) := by
       intro π hπ
       unfold branch
       have hne : (Region.ready .any ops listed).isEmpty = false := by
        cases hrs : Region.ready .any ops listed with
        | nil => rw [hrs] at hi; cases hi
        | cons x xs => rfl
       rw [hne]
       exact List.mem_flatMap.2 ⟨i,List.mem_filter.2 ⟨hi,by simpa using hiA⟩,by rw [hgd]; exact List.mem_map.2 ⟨π,hπ,rfl⟩⟩
      have hall : ∀ π ∈ dK E ops f (listed.setIfInBounds i true),∃ s',exec E call (bK ops i) (txt E call ops.toList (lD ops (A.filter fun i => listed.getD i false)) st ops.size) some = some s' /\ aW E call ops.toList (π.map (bK ops)) s' k = some r := by
       intro π hπ
       obtain ⟨s',h1,h2,h3⟩ := final listed a w ρ s (lM hi hiA inv.size hL1) inv' hL1 hL2 hS' hpart (i :: π) ⟨_,hbr π hπ,rfl⟩
       subst h2
       rw [List.map_cons,dg] at h3
       unfold vg1 at h3
       simp only [hgn] at h3
       exact AI h3
      obtain ⟨s0,hS0,rfl,_⟩ := final listed a w ρ s (lM hi hiA inv.size hL1) inv' hL1 hL2 hS' hpart (i :: π0) ⟨_,hbr π0 (by rw [hpl]; exact List.mem_cons_self ..),rfl⟩
      obtain ⟨s1,hs1,_⟩ := hall π0 (by rw [hpl]; exact List.mem_cons_self ..)
      unfold wpOp
      simp only [hoi,hw,if_true]
      refine .inl (fZ hE hC hS0 (bK ops i) hs1 fun ρ' st' a' w' heq h' => ?_)
      cases heq
      refine ih _ s1 ρ' a' w' fuel (inv'.set hi hin) (hrun (s := st) (a := a) (w := w) (ρ := ρ) inv' hc' hi) h' fun π hπ => ?_
      obtain ⟨s2,h4,h5⟩ := hall π hπ
      rw [hs1] at h4
      cases h4
      exact h5
   refine main fuel L a w ρ st inv hc (fun _ h => h) (fun _ h => .inl h) hS fun q hq _ hVD => ?_
   refine Part.Wx fun j hj hl hm => ?_
   obtain ⟨h1,h2⟩ := List.mem_filter.1 hm
   rcases hl with hl | hl
   ·rw [(hlt j h1).2] at hl; cases hl
   ·exact hl ⟨h1,h2⟩
def Bf (ops : Array Oper) : Bool := gE ops.size ops && Region.noSelect ops
theorem yq (hE : Env.Ok P E) (hC : cJ P call) (hm : P.follows .mixedOrders = true) {id : Nat} {k : St -> Option R} {Q : Exit -> Act -> World -> Prop} (hb : Bf ops = true) (hS : Sim P B O w0 ρ st a w)
  (h : ∀ π ∈ dK E ops (ops.size + 1) (Array.replicate ops.size false),aW E call ops.toList (π.map (bK ops)) st k = some r)
  (hnext : ∀ ρ' st' a' w',k st' = some r -> Sim P B O w0 ρ' st' a' w' -> Q .normal a' w') : (Code.region id ops true).wp P Q a w := by
 unfold Bf at hb
 simp only [Bool.and_eq_true] at hb
 refine wp_mono (Q := fun e a w => e = .normal /\ Q .normal a w) (wp_region_any hm ?_) fun e a w hq => by obtain ⟨rfl,hq⟩ := hq; exact hq
 exact zY hE hC hb.1 hb.2 (fun ρ' st' a' w' h1 h2 => ⟨rfl,hnext ρ' st' a' w' h1 h2⟩) (fun c a w hq => by cases hq.1) _ _ st ρ a _ _
  ⟨by simp,fun j oj _ hl => (by rw [getD_replicate_false] at hl; cases hl),fun t _ ht => getD_in (by simpa using ht) (getD_replicate_false _ _)⟩ (sj _ _)
  (hS.below ⟨rfl,rfl,rfl,Nat.le_refl _,fun _ _ => rfl⟩) h
end
end Go.Proofs.YtcddhifkfakcjaaGreat.Lib
namespace Go.Proofs.YtcddhifkfakcjaaGreat.Lib
open Go Go.RowKit Go.WideShapes
set_option linter.unusedVariables false
set_option linter.unusedSimpArgs false
abbrev here (w : World) : Nat -> Prop := fun g => g < w.heap.size
def Ty.ok : (t : Ty) -> t.T -> Prop
 | .int k,n => (Lit.int k n).wf = true
 | .bool,_ => True
 | .str,s => s.size <= 9223372036854775807
 | .sl _ t,l => (∀ x,x ∈ l -> t.ok x) /\ l.length <= 9223372036854775807
 | .pair a b,p => a.ok p.1 /\ b.ok p.2
 | .nul _,_ => True
def cU (P : Program) (t : TypeId) (d : Ty) : Prop :=
 ∀ (H : Type) (enc : TypeId × Value -> H) (w : World) (base : Nat) (spare : Nat -> Bool) (held : Bool) (fuel : Nat) (cs : List Value) (x : DataW H × List MemPlace),
  DataW.trod enc P w base spare held fuel t cs = some x -> ∃ y : d.T,Rp (here w) w d y cs /\ d.ok y
theorem Ge {P : Program} {t : TypeId} {k : IntKind} (ht : P.underlying t = some (.int k)) : cU P t (.int k) := by
 intro H enc w base spare held fuel cs x h
 obtain ⟨n,rfl,_,hw⟩ := DataW.trod_int ht h
 exact ⟨n,by simp only [Rp],hw⟩
theorem CO {P : Program} {t : TypeId} (ht : P.underlying t = some .bool) : cU P t .bool := by
 intro H enc w base spare held fuel cs x h
 obtain ⟨b,rfl,_⟩ := DataW.trod_bool ht h
 exact ⟨b,by simp only [Rp],trivial⟩
theorem collect {α : Type} {Q : Nat -> α -> Prop} : ∀ n : Nat,(∀ i,i < n -> ∃ y,Q i y) -> ∃ ys : List α,ys.length = n /\ ∀ (i : Nat) (y : α),ys[i]? = some y -> Q i y
 | 0,_ => ⟨[],rfl,fun i y h => by simp at h⟩
 | n + 1,h => by
  obtain ⟨ys,hl,hys⟩ := collect n (fun i hi => h i (by omega))
  obtain ⟨y,hy⟩ := h n (by omega)
  refine ⟨ys ++ [y],by simp [hl],fun i z hz => ?_⟩
  by_cases hi : i < ys.length
  ·rw [List.getElem?_append_left hi] at hz
   exact hys i z hz
  ·rw [List.getElem?_append_right (by omega)] at hz
   have : i - ys.length = 0 := by
    rcases Nat.eq_zero_or_pos (i - ys.length) with e | e
    ·exact e
    ·rw [List.getElem?_eq_none (by simp; omega)] at hz
     exact absurd hz (by simp)
   rw [this] at hz
   simp at hz
   subst hz
   rw [show i = n by omega]
   exact hy
theorem FN {w : World} {base : Nat} {a : Addr} {n : Nat} {c : List Value} (h : w.cells? base a n = some c) : c.length = n /\ ∀ (i : Nat) (u : Value),c[i]? = some u -> w.cell? (a.add i) = some u := by
 unfold World.cells? at h
 split at h
 ·have hl := mapM_some_length h
  rw [List.length_range] at hl
  refine ⟨hl,fun i u hi => ?_⟩
  have hlt : i < n := by
   have := (List.getElem?_eq_some_iff.1 hi).1
   omega
  have := mapM_some_get h i i (by rw [List.getElem?_range hlt])
  rw [this,hi]
 ·exact absurd h (by simp)
theorem vm {w : World} {a : Addr} {u : Value} (h : w.cell? a = some u) : a.block < w.heap.size := by
 unfold World.cell? at h
 rcases Nat.lt_or_ge a.block w.heap.size with h' | h'
 ·exact h'
 ·rw [Array.getElem?_eq_none h'] at h
  cases h
theorem gD {P : Program} {t e : TypeId} {d : Ty} (ht : P.underlying t = some (.slice e)) (hsz : P.cellsOf e = d.sz) (he : cU P e d) : cU P t (.sl e d) := by
 intro H enc w base spare held fuel cs x h
 rcases DataW.trod_slice ht h with ⟨rfl,_⟩ | ⟨a,len,cap,elems,rest,n,_,rfl,_,_,hl,hm,hlen,hel,_,_⟩
 ·refine ⟨[],?_,fun x hx => by simp at hx,by simp⟩
  simp only [Rp]
  exact ⟨none,0,rfl,Nat.le_refl _,Nat.zero_le _,fun h => absurd h (by simp)⟩
 ·obtain ⟨ys,hyl,hys⟩ := collect (α := d.T) (Q := fun i y => d.ok y /\ ∃ c,c.length = d.sz /\ Rp (here w) w d y c /\ ∀ (q : Nat) (u : Value),c[q]? = some u -> w.cell? (a.add (i * d.sz + q)) = some u) len (fun i hi => by
   have h1 := hel i hi
   rw [List.getElem?_eq_getElem (by omega),Option.bind_eq_some_iff] at h1
   obtain ⟨c,hc,hx⟩ := h1
   obtain ⟨y,hy,hok⟩ := he H enc w base spare held n c _ hx
   obtain ⟨_,hcg⟩ := FN hc
   refine ⟨y,hok,c,hy.len,hy,fun q u hq => ?_⟩
   have := hcg q u hq
   rwa [bx,hsz] at this)
  have hmax : len <= 9223372036854775807 := Nat.le_trans hl hm
  refine ⟨ys,?_,fun y hy => ?_,by omega⟩
  ·simp only [Rp]
   refine ⟨some a,cap,by rw [hyl],by omega,hm,fun hpos => ⟨a,rfl,?_,fun j p hj => (hys j p hj).2⟩⟩
   obtain ⟨_,c,hc,_,hq⟩ := hys 0 ys[0] (List.getElem?_eq_getElem hpos)
   have h0 := hq 0 _ (List.getElem?_eq_getElem (by rw [hc]; exact d.eD))
   have := vm h0
   rwa [vH] at this
  ·obtain ⟨i,hi⟩ := List.getElem?_of_mem hy
   exact (hys i y hi).1
def Mo (P : Program) (T : TypeId -> List Value -> Prop) : List TypeId -> List Value -> Prop
 | [],cs => cs = []
 | t :: ts,cs => T t (cs.take (P.cellsOf t)) /\ Mo P T ts (cs.drop (P.cellsOf t))
def tA (P : Program) (total : Nat) : Nat -> List Field -> Bool
 | o,[] => o == total
 | o,f :: fs => f.offset == o && tA P total (o + P.cellsOf f.type) fs
theorem Fg {P : Program} {T : TypeId -> List Value -> Prop} {cs : List Value} : ∀ (fs : List Field) (o : Nat),tA P cs.length o fs = true ->
  (∀ f,f ∈ fs -> T f.type ((cs.drop f.offset).take (P.cellsOf f.type))) -> Mo P T (fs.map (·.type)) (cs.drop o)
 | [],o,ho,_ => by
  have : o = cs.length := by simpa [tA] using ho
  subst this
  simp [Mo]
 | f :: fs,o,ho,h => by
  simp only [tA,Bool.and_eq_true,beq_iff_eq] at ho
  obtain ⟨h1,h2⟩ := ho
  refine ⟨?_,?_⟩
  ·have := h f List.mem_cons_self
   rwa [h1] at this
  ·rw [List.drop_drop]
   exact Fg fs (o + P.cellsOf f.type) h2 (fun g hg => h g (List.mem_cons_of_mem _ hg))
def zk (P : Program) (ts : List TypeId) (d : Ty) : Prop :=
 ∀ (H : Type) (enc : TypeId × Value -> H) (w : World) (base : Nat) (spare : Nat -> Bool) (held : Bool) (fuel : Nat) (cs : List Value),
  Mo P (fun t c => ∃ x,DataW.trod enc P w base spare held fuel t c = some x) ts cs -> ∃ y : d.T,Rp (here w) w d y cs /\ d.ok y
theorem cY {P : Program} {t : TypeId} {d : Ty} (h : cU P t d) : zk P [t] d := by
 intro H enc w base spare held fuel cs hw
 obtain ⟨⟨x,hx⟩,hd⟩ := hw
 have hcs : cs.take (P.cellsOf t) = cs := by
  rw [List.take_of_length_le]
  have := congrArg List.length hd
  rw [List.length_drop,List.length_nil] at this
  omega
 rw [hcs] at hx
 exact h H enc w base spare held fuel cs x hx
theorem aj {P : Program} {t : TypeId} {ts : List TypeId} {d d' : Ty} (h : cU P t d) (h' : zk P ts d') : zk P (t :: ts) (.pair d d') := by
 intro H enc w base spare held fuel cs hw
 obtain ⟨⟨x,hx⟩,hd⟩ := hw
 obtain ⟨y,hy,hok⟩ := h H enc w base spare held fuel _ x hx
 obtain ⟨z,hz,hok'⟩ := h' H enc w base spare held fuel _ hd
 refine ⟨(y,z),?_,hok,hok'⟩
 simp only [Rp]
 exact ⟨_,_,(List.take_append_drop _ _).symm,hy,hz⟩
theorem cw {P : Program} {t : TypeId} {fs : Array Field} {d : Ty} (ht : P.underlying t = some (.struct fs)) (ho : tA P (P.cellsOf t) 0 fs.toList = true)
  (h : zk P (fs.toList.map (·.type)) d) : cU P t d := by
 intro H enc w base spare held fuel cs x hx
 obtain ⟨xs,n,_,_,hl,hxl,hf⟩ := DataW.trod_struct ht hx
 have hw := Fg (P := P) (T := fun t c => ∃ x,DataW.trod enc P w base spare held n t c = some x) (cs := cs) fs.toList 0 (by rw [hl]; exact ho) (fun f hfm => by
  obtain ⟨i,hi⟩ := List.getElem?_of_mem hfm
  have hi' : fs[i]? = some f := by simpa using hi
  have hlt : i < xs.length := by
   have := (Array.getElem?_eq_some_iff.1 hi').1
   omega
  exact ⟨_,(hf i f hi').trans (List.getElem?_eq_getElem hlt)⟩)
 exact h H enc w base spare held n cs hw
abbrev start (w : World) : al := ⟨fun _ => .dead,fun _ => here w⟩
theorem GJ {P : Program} {t e : TypeId} {d : Ty} (ho : cU P t (.sl e d)) (ht : P.underlying t = some (.slice e)) {H : Type} {enc : TypeId × Value -> H} {w : World} {b base : Nat} {r : Reach} {spare : Nat -> Bool} {held : Bool} {v : Value} {x : DataW H} {ps : List MemPlace}
  (hv : Value.okWide P w r b t v) (h : DataW.Trod enc P w base spare held t v x ps) : ∃ l : List d.T,rav (start w) w (.one (.emb e d l true)) v /\ (Ty.sl e d).ok l := by
 obtain ⟨a,len,cap,rfl⟩ := okWide_slice ht hv
 obtain ⟨fuel,hf⟩ := h
 obtain ⟨l,hr,hok⟩ := ho H enc w base spare held fuel _ _ hf
 exact ⟨l,by simpa [rav,rc,Value.cells] using hr,hok⟩
theorem BM {P : Program} {t : TypeId} {fs : Array Field} {d : Ty} (ho : cU P t d) (ht : P.underlying t = some (.struct fs)) {H : Type} {enc : TypeId × Value -> H} {w : World} {b base : Nat} {r : Reach} {spare : Nat -> Bool} {held : Bool} {v : Value} {x : DataW H} {ps : List MemPlace}
  (hv : Value.okWide P w r b t v) (h : DataW.Trod enc P w base spare held t v x ps) : ∃ y : d.T,rav (start w) w (.agg (d.cells true y)) v /\ d.ok y := by
 obtain ⟨cs,rfl,_⟩ := okWide_struct ht hv
 obtain ⟨fuel,hf⟩ := h
 obtain ⟨y,hy,hok⟩ := ho H enc w base spare held fuel _ _ hf
 refine ⟨y,⟨cs.toList,by simp,?_⟩,hok⟩
 exact c8 (ρ := start w) (b := true) (by simpa [Value.cells] using hy)
theorem De {H : Type} {enc : TypeId × Value -> H} {P : Program} {W : World} {base : Nat} {spare : Nat -> Bool} {held : Bool} {t : TypeId} {v : Value} {d : DataW H} {ps : List MemPlace} (h : DataW.Trod enc P W base spare held t v d ps) : ∀ x ∈ ps,x.block < W.heap.size := by
 obtain ⟨m,hm⟩ := h
 exact DataW.trod_lt m _ _ _ hm
theorem HZ {P : Program} {W : World} (h : W.ShapedOpen P) : GH P (start W) W := fun G ⟨hg,zero,t,h0,hz,hb,hc,hu⟩ => by
 obtain ⟨m,hm⟩ := Go.Proofs.cell_of_shapedOpen_int h hg h0 hz hb hc hu
 exact ⟨vm hm,m,hm⟩
def ay {α R : Type} (o : Option α) (f : α -> Option R) : Option R := match o with | some x => f x | none => none
theorem fH {α β : Type} [BEq α] [LawfulBEq α] {l : List (α × β)} {a : α} {b : β} (h : l.lookup a = some b) : (a,b) ∈ l := by
 induction l with
 | nil => cases h
 | cons q r ih =>
  obtain ⟨a',b'⟩ := q
  rw [List.lookup_cons] at h
  split at h
  ·rename_i heq
   cases h
   rw [eq_of_beq heq]
   exact List.mem_cons_self
  ·exact List.mem_cons_of_mem _ (ih h)
theorem af.no {P : Program} : ∀ c : Code,af P c .none
 | .seq a b => ⟨af.no a,af.no b⟩
 | .cond _ a b => ⟨af.no a,af.no b⟩
 | .block _ b => af.no b
 | .loop b => af.no b
 | .skip | .label _ | .region _ _ _ | .exit _ | .ret | .goto _ | .scope _ | .refuse _ | .rangeFunc _ _ _ _ => trivial
def aw : List Bool -> Code -> Code
 | p,.seq a b => (match p with | false :: p => aw p a | true :: p => aw p b | [] => .skip)
 | p,.cond _ a b => (match p with | false :: p => aw p a | true :: p => aw p b | [] => .skip)
 | p,.block _ b => aw p b
 | p,.loop b => (match p with | [] => b | _ :: p => aw p b)
 | _,_ => .skip
def a9 : List Bool -> Code -> LT -> LT -> LT
 | p,.seq a b,t,s => (match p with | false :: p => .node (a9 p a t.l s) t.r | true :: p => .node t.l (a9 p b t.r s) | [] => t)
 | p,.cond _ a b,t,s => (match p with | false :: p => .node (a9 p a t.l s) t.r | true :: p => .node t.l (a9 p b t.r s) | [] => t)
 | p,.block _ b,t,s => .node (a9 p b t.l s) .none
 | p,.loop b,t,s => (match p with | [] => s | _ :: p => .node (a9 p b t.l s) .none)
 | _,_,t,_ => t
theorem af.put {P : Program} {ss : List SP} {gs : List (Nat × GP)} {F : StT ss gs -> aL (Ex × St)} (hw : mo ss gs) : ∀ {p : List Bool} {c : Code} {t : LT},af P c t -> aH P (aw p c) ss gs F -> af P c (a9 p c t (.sum ss gs F))
 | p,.seq a b,t,h,hl => by
  cases p with
  | nil => exact h
  | cons x p => cases x with
   | false => exact ⟨af.put hw h.1 hl,h.2⟩
   | true => exact ⟨h.1,af.put hw h.2 hl⟩
 | p,.cond _ a b,t,h,hl => by
  have h1 : p = [] ∨ (af P a t.l /\ af P b t.r) := by
   cases t with
   | sum ss gs F => exact .inr ⟨af.no a,af.no b⟩
   | none => exact .inr h
   | node x y => exact .inr h
  cases p with
  | nil => exact h
  | cons x p =>
   have h := h1.resolve_left (by simp)
   cases x with
   | false => exact ⟨af.put hw h.1 hl,h.2⟩
   | true => exact ⟨h.1,af.put hw h.2 hl⟩
 | p,.block _ b,t,h,hl => af.put (c := b) hw h hl
 | p,.loop b,t,h,hl => by
  cases p with
  | nil => exact ⟨hw,hl⟩
  | cons x p =>
   have : af P b t.l := by
    cases t with
    | sum ss gs F => exact af.no b
    | none => exact h
    | node x y => exact h
   exact af.put (c := b) hw this hl
 | p,.skip,t,h,hl => h
 | p,.label _,t,h,hl => h
 | p,.region _ _ _,t,h,hl => h
 | p,.exit _,t,h,hl => h
 | p,.ret,t,h,hl => h
 | p,.goto _,t,h,hl => h
 | p,.scope _,t,h,hl => h
 | p,.refuse _,t,h,hl => h
 | p,.rangeFunc _ _ _ _,t,h,hl => h
def aO : List Bool -> Code -> Code
 | p,.seq a b => (match p with | false :: p => aO p a | true :: p => aO p b | [] => .skip)
 | p,.cond c a b => (match p with | false :: p => aO p a | true :: p => aO p b | [] => .cond c a b)
 | p,.block _ b => aO p b
 | p,.loop b => (match p with | [] => .loop b | _ :: p => aO p b)
 | p,.region id ops d => (match p with | [] => .region id ops d | _ => .skip)
 | _,_ => .skip
def aX : List Bool -> Code -> LT -> LT -> LT
 | p,.seq a b,t,s => (match p with | false :: p => .node (aX p a t.l s) t.r | true :: p => .node t.l (aX p b t.r s) | [] => t)
 | p,.cond _ a b,t,s => (match p with | false :: p => .node (aX p a t.l s) t.r | true :: p => .node t.l (aX p b t.r s) | [] => s)
 | p,.block _ b,t,s => .node (aX p b t.l s) .none
 | p,.loop b,t,s => (match p with | [] => s | _ :: p => .node (aX p b t.l s) .none)
 | p,.region _ _ _,t,s => (match p with | [] => s | _ => t)
 | _,_,t,_ => t
theorem af.cX {P : Program} {ss : List SP} {gs : List (Nat × GP)} {F : StT ss gs -> aL (Ex × St)} (hw : mo ss gs) : ∀ {p : List Bool} {c : Code} {t : LT},af P c t -> bo P (aO p c) ss gs F -> af P c (aX p c t (.sum ss gs F))
 | p,.seq a b,t,h,hl => by
  cases p with
  | nil => exact h
  | cons x p => cases x with
   | false => exact ⟨af.cX hw h.1 hl,h.2⟩
   | true => exact ⟨h.1,af.cX hw h.2 hl⟩
 | p,.cond _ a b,t,h,hl => by
  have h1 : (af P a t.l /\ af P b t.r) := by
   cases t with
   | sum ss gs F => exact ⟨af.no a,af.no b⟩
   | none => exact h
   | node x y => exact h
  cases p with
  | nil => exact ⟨hw,hl⟩
  | cons x p =>
   have h := h1
   cases x with
   | false => exact ⟨af.cX hw h.1 hl,h.2⟩
   | true => exact ⟨h.1,af.cX hw h.2 hl⟩
 | p,.block _ b,t,h,hl => af.cX (c := b) hw h hl
 | p,.loop b,t,h,hl => by
  cases p with
  | nil => exact ⟨hw,hl⟩
  | cons x p =>
   have : af P b t.l := by
    cases t with
    | sum ss gs F => exact af.no b
    | none => exact h
    | node x y => exact h
   exact af.cX (c := b) hw this hl
 | p,.skip,t,h,hl => h
 | p,.label _,t,h,hl => h
 | p,.region _ _ _,t,h,hl => by
  cases p with
  | nil => exact ⟨hw,hl⟩
  | cons x p => exact h
 | p,.exit _,t,h,hl => h
 | p,.ret,t,h,hl => h
 | p,.goto _,t,h,hl => h
 | p,.scope _,t,h,hl => h
 | p,.refuse _,t,h,hl => h
 | p,.rangeFunc _ _ _ _,t,h,hl => h
theorem af.zZ {P : Program} {p : List Bool} {c : Code} {t : LT} {ss : List SP} {gs : List (Nat × GP)} {F : StT ss gs -> aL (Ex × St)} (hp : aO p c = .loop (aw p c)) (hw : mo ss gs) (h : af P c t) (hl : aH P (aw p c) ss gs F) : af P c (aX p c t (.sum ss gs F)) :=
 af.cX hw h (by rw [hp]; exact hl)
def ab (f : Func) : Code := f.body.getD .skip
theorem Env.Ok.of {P : Program} {E : Env} (h : ∀ q ∈ E.ti, TI.Ok P q.1 q.2) (hf : ∀ q ∈ E.fn, P.funcs[q.1]? = some q.2 /\ (q.2.name == "runtime.NumGoroutine") = false) (hp : ∀ q ∈ E.prim, gG P q.1 q.2) (hl : ∀ q ∈ E.lt, ∀ fn, P.funcs[q.1]? = some fn -> af P (ab fn) q.2) (hm : ∀ q ∈ E.mark, dE P q.1 q.2) (he : ∀ t ∈ E.eqt, EqT P t) (hg : ∀ q ∈ E.gen, bD P q.1 q.2) : Env.Ok P E :=
 ⟨fun t i hl => h _ (fH hl),fun f fn hl => hf _ (fH hl),hp,fun f fn c hf1 hb => by
  unfold Env.GF
  cases hlk : E.lt.lookup f with
  | none => exact af.no c
  | some t =>
   have := hl _ (fH hlk) fn (hf _ (fH hf1)).1
   unfold ab at this
   rw [hb] at this
   exact this,fun f m hl => hm _ (fH hl),he,hg⟩
theorem EqT.of {P : Program} {t : TypeId} {fa : Array Field} (h1 : P.stoodInHeld t = false) (h2 : P.eqGuardType P.depth t = false) (h3 : P.underlying t = some (.struct fa)) (h4 : fa.toList.all (fun f => f.name != "_") = true) : EqT P t :=
 ⟨h1,h2,fun fa' h5 f hf => by
  rw [h3] at h5
  cases h5
  have := List.all_eq_true.1 h4 f hf
  simpa using this⟩
theorem wX {α : Type} {p : α -> Prop} : ∀ q ∈ ([] : List α),p q := fun q h => by cases h
theorem mem_cons {α : Type} {p : α -> Prop} {a : α} {l : List α} (h : p a) (h' : ∀ q ∈ l,p q) : ∀ q ∈ a :: l,p q := fun q hq => (List.mem_cons.1 hq).elim (fun e => e ▸ h) (h' q)
def OB : TypeDesc -> Bool
 | .struct _ => false | .array _ _ => false | _ => true
theorem TI.jN {P : Program} {t : TypeId} {ti : TypeInfo} {d : TypeDesc} {by_ : Nat} {z : Value} {fl : Bool} (h1 : P.info? t = some ti) (h2 : P.underlying t = some d) (h3 : ti.size = 1 /\ ti.bytes = by_) (h4 : ti.zero = some z /\ z.cells = #[HO fl]) (h5 : OB d = true) : TI.Ok P t ⟨.other,1,by_,some (.nul fl)⟩ :=
 ⟨⟨ti,h1,h3.1,h3.2,fun τ h => by cases h; exact ⟨rfl,z,h4.1,h4.2⟩⟩,_,h2,by clear h2; cases d <;> first | rfl | cases h5⟩
theorem TI.ok_int {P : Program} {t : TypeId} {ti : TypeInfo} {k : IntKind} {by_ : Nat} {z : Value} (h1 : P.info? t = some ti) (h2 : P.underlying t = some (.int k)) (h3 : ti.size = 1 /\ ti.bytes = by_) (h4 : ti.zero = some z /\ z.cells = #[.int k 0]) : TI.Ok P t ⟨.scal,1,by_,some (.int k)⟩ :=
 ⟨⟨ti,h1,h3.1,h3.2,fun τ h => by cases h; exact ⟨rfl,z,h4.1,h4.2⟩⟩,_,h2,rfl⟩
theorem TI.K4 {P : Program} {t : TypeId} {ti : TypeInfo} {by_ : Nat} {z : Value} (h1 : P.info? t = some ti) (h2 : P.underlying t = some .bool) (h3 : ti.size = 1 /\ ti.bytes = by_) (h4 : ti.zero = some z /\ z.cells = #[.bool false]) : TI.Ok P t ⟨.scal,1,by_,some .bool⟩ :=
 ⟨⟨ti,h1,h3.1,h3.2,fun τ h => by cases h; exact ⟨rfl,z,h4.1,h4.2⟩⟩,_,h2,rfl⟩
theorem TI.ok_slice {P : Program} {t e : TypeId} {ti : TypeInfo} {by_ : Nat} {z : Value} {τ : Ty} (h1 : P.info? t = some ti) (h2 : P.underlying t = some (.slice e)) (h3 : ti.size = 1 /\ ti.bytes = by_) (h4 : ti.zero = some z /\ z.cells = #[.slice none 0 0]) : TI.Ok P t ⟨.slice e,1,by_,some (.sl e τ)⟩ :=
 ⟨⟨ti,h1,h3.1,h3.2,fun τ h => by cases h; exact ⟨rfl,z,h4.1,h4.2⟩⟩,_,h2,rfl⟩
theorem TI.bp {P : Program} {t : TypeId} {ti : TypeInfo} {fa : Array Field} {fs : List (TypeId × Nat)} {sz by_ : Nat} {z : Value} {τ : Ty} (h1 : P.info? t = some ti) (h2 : P.underlying t = some (.struct fa)) (h3 : ti.size = sz /\ ti.bytes = by_) (h4 : ti.zero = some z /\ z.cells = τ.zv.toArray) (h5 : τ.sz = sz)
  (h6 : fs = fa.toList.map fun f => (f.type,f.offset)) (h7 : fa.toList.all (fun f => ((P.info? f.type).map (·.size)).getD 0 != 0) = true) : TI.Ok P t ⟨.struct fs,sz,by_,some τ⟩ :=
 ⟨⟨ti,h1,h3.1,h3.2,fun τ h => by cases h; exact ⟨h5,z,h4.1,h4.2⟩⟩,_,h2,fa,rfl,h6,fun f hf => by
  have := List.all_eq_true.1 h7 f hf
  cases hi : P.info? f.type with
  | none => rw [hi] at this; simp at this
  | some fi => rw [hi] at this; exact ⟨fi,rfl,by simpa using this⟩⟩
end Go.Proofs.YtcddhifkfakcjaaGreat.Lib
namespace Go.Proofs.YtcddhifkfakcjaaGreat.Lib
open Go Go.RowKit Go.WideShapes
set_option linter.unusedVariables false
section
variable {α V R S : Type}
def qS (o : Option α) (z : V) (v : α -> V) : V := match o with | some x => v x | none => z
def o9 (o : Option α) (d : α -> Bool) : Bool := match o with | some x => d x | none => false
theorem tC {c : Bool} {f : V -> R} {A B : Option R} {x y : V} (hA : A = some (f x)) (hB : B = some (f y)) : cond c A B = some (f (cond c x y)) := by cases c <;> assumption
theorem aN {W : Type} {o : Option V} {z : V} {f : V -> W} {A : Option W} (h : A = o.bind fun r => some (f r)) : A = (aL.br o.isSome (.done (f (o.getD z))) .no).run some := by rw [h]; cases o <;> rfl
theorem pS {f : V -> R} (x : V) : some (f x) = cond true (some (f x)) none := rfl
theorem pN {f : V -> R} (x : V) : none = cond false (some (f x)) none := rfl
theorem pC {c dA dB : Bool} {f : V -> R} {A B : Option R} {x y : V} (hA : A = cond dA (some (f x)) none) (hB : B = cond dB (some (f y)) none) : cond c A B = cond (cond c dA dB) (some (f (cond c x y))) none := by cases c <;> assumption
theorem pI {p : Prop} [Decidable p] {dA : Bool} {f : V -> R} {A : Option R} {x : V} (hA : A = cond dA (some (f x)) none) : (if p then A else none) = cond (decide p && dA) (some (f x)) none := by
 by_cases hp : p
 ·rw [if_pos hp,hA,decide_eq_true hp]; rfl
 ·rw [if_neg hp,decide_eq_false hp]; rfl
theorem pO {o : Option α} {f : V -> R} {A : α -> Option R} {d : α -> Bool} {v : α -> V} {z : V} (hA : ∀ x,A x = cond (d x) (some (f (v x))) none) : ay o A = cond (o9 o d) (some (f (qS o z v))) none := by
 cases o with
 | none => rfl
 | some x => exact hA x
theorem bC {c : Bool} {k : S -> Option R} {A B : Option S} {A' B' : Option R} (hA : A' = A.bind k) (hB : B' = B.bind k) : cond c A' B' = (cond c A B).bind k := by cases c <;> assumption
theorem bI {p : Prop} [Decidable p] {k : S -> Option R} {A : Option S} {A' : Option R} (hA : A' = A.bind k) : (if p then A' else none) = (if p then A else none : Option S).bind k := by split <;> first | assumption | rfl
theorem K7 {p : Prop} [Decidable p] {k : S -> Option R} {A : Option S} {A' : Option R} (hA : A' = A.bind k) : (if p then none else A') = (if p then none else A : Option S).bind k := by split <;> first | assumption | rfl
theorem bO {o : Option α} {k : S -> Option R} {A : α -> Option S} {A' : α -> Option R} (hA : ∀ x,A' x = (A x).bind k) : ay o A' = (ay o A).bind k := by
 cases o with
 | none => rfl
 | some x => exact hA x
def iter (s : V -> Option (Nat × V)) : Nat -> V -> Option (Nat × V)
 | 0,_ => none
 | n + 1,v => (s v).bind fun q => match q.1 with | 0 => iter s n q.2 | c + 1 => some (c,q.2)
def ji (s : V -> Option (Nat × V)) (n : Nat) (v : V) (c : Nat) : Bool := match iter s n v with | some q => q.1 == c | none => false
def kn (s : V -> Option (Nat × V)) (n : Nat) (v : V) : V := match iter s n v with | some q => q.2 | none => v
def bL (body : St -> (Ex -> St -> Option R) -> Option R) (z : Nz) (bld : V -> St) (ex : List Ex) (n : Nat) (K : Ex -> St -> Option R) (q : Nat × V) : Option R :=
 match q.1 with | 0 => dV body z n (bld q.2) K | c + 1 => K (ex.getD c .normal) (bld q.2)
theorem vq {body : St -> (Ex -> St -> Option R) -> Option R} {z : Nz} {bld : V -> St} {s : V -> Option (Nat × V)} {ex : List Ex} {K : Ex -> St -> Option R}
  (h : ∀ n v,dV body z (n + 1) (bld v) K = (s v).bind (bL body z bld ex n K)) : ∀ n v,dV body z n (bld v) K = (iter s n v).bind fun q => K (ex.getD q.1 .normal) (bld q.2)
 | 0,v => rfl
 | n + 1,v => by
  rw [h,iter]
  cases s v with
  | none => rfl
  | some q =>
   obtain ⟨c,v'⟩ := q
   cases c with
   | zero => exact vq h n v'
   | succ c => rfl
def K2 (bH bE : V -> St) (e : Ex) (v : V) : St := match e with | .ret => bE v | _ => bH v
def KL (body : St -> (Ex -> St -> Option R) -> Option R) (z : Nz) (bH bE : V -> St) (ex : List Ex) (n : Nat) (K : Ex -> St -> Option R) (q : Nat × V) : Option R :=
 match q.1 with | 0 => dV body z n (bH q.2) K | c + 1 => K (ex.getD c .normal) (K2 bH bE (ex.getD c .normal) q.2)
theorem s5 {body : St -> (Ex -> St -> Option R) -> Option R} {z : Nz} {bH bE : V -> St} {s : V -> Option (Nat × V)} {ex : List Ex} {K : Ex -> St -> Option R}
  (h : ∀ n v,dV body z (n + 1) (bH v) K = (s v).bind (KL body z bH bE ex n K)) : ∀ n v,dV body z n (bH v) K = (iter s n v).bind fun q => K (ex.getD q.1 .normal) (K2 bH bE (ex.getD q.1 .normal) q.2)
 | 0,v => rfl
 | n + 1,v => by
  rw [h,iter]
  cases s v with
  | none => rfl
  | some q =>
   obtain ⟨c,v'⟩ := q
   cases c with
   | zero => exact s5 h n v'
   | succ c => rfl
def A6 (s : V -> Option (Nat × V)) (N : Nat) (v : V) (bH bE : V -> St) : List Ex -> Nat -> aL (Ex × St)
 | [],_ => .no
 | e :: es,c => .br (ji s N v c) (.done (e,K2 bH bE e (kn s N v))) (A6 s N v bH bE es (c + 1))
theorem uF {s : V -> Option (Nat × V)} {N : Nat} {v : V} {bH bE : V -> St} {e : Ex} {st' : St} : ∀ (es : List Ex) (c : Nat),(A6 s N v bH bE es c).run some = some (e,st') -> ∃ i,es[i]? = some e /\ iter s N v = some (c + i,kn s N v) /\ st' = K2 bH bE e (kn s N v)
 | [],c,h => by cases h
 | x :: es,c,h => by
  simp only [A6,aL.run] at h
  cases hc : ji s N v c with
  | true =>
   rw [hc] at h
   simp only [cond_true,Option.some.injEq,Prod.mk.injEq] at h
   obtain ⟨rfl,rfl⟩ := h
   refine ⟨0,rfl,?_,rfl⟩
   unfold ji at hc
   unfold kn
   cases hi : iter s N v with
   | none => rw [hi] at hc; cases hc
   | some q =>
    rw [hi] at hc
    obtain ⟨c',v'⟩ := q
    have : c' = c := by simpa using hc
    subst this
    rfl
  | false =>
   rw [hc] at h
   obtain ⟨i,h1,h2,h3⟩ := uF es (c + 1) h
   exact ⟨i + 1,by simpa using h1,by rw [h2]; simp only [Nat.add_assoc,Nat.add_comm 1 i],h3⟩
def aM (s : V -> Option (Nat × V)) (N : Nat) (v : V) (bld : V -> St) : List Ex -> Nat -> aL (Ex × St)
 | [],_ => .no
 | e :: es,c => .br (ji s N v c) (.done (e,bld (kn s N v))) (aM s N v bld es (c + 1))
theorem sN {s : V -> Option (Nat × V)} {N : Nat} {v : V} {bld : V -> St} {e : Ex} {st' : St} : ∀ (es : List Ex) (c : Nat),(aM s N v bld es c).run some = some (e,st') -> ∃ i,es[i]? = some e /\ iter s N v = some (c + i,kn s N v) /\ st' = bld (kn s N v)
 | [],c,h => by cases h
 | x :: es,c,h => by
  simp only [aM,aL.run] at h
  cases hc : ji s N v c with
  | true =>
   rw [hc] at h
   simp only [cond_true,Option.some.injEq,Prod.mk.injEq] at h
   obtain ⟨rfl,rfl⟩ := h
   refine ⟨0,rfl,?_,rfl⟩
   unfold ji at hc
   unfold kn
   cases hi : iter s N v with
   | none => rw [hi] at hc; cases hc
   | some q =>
    rw [hi] at hc
    obtain ⟨c',v'⟩ := q
    have : c' = c := by simpa using hc
    subst this
    rfl
  | false =>
   rw [hc] at h
   obtain ⟨i,h1,h2,h3⟩ := sN es (c + 1) h
   exact ⟨i + 1,by simpa using h1,by rw [h2]; simp only [Nat.add_assoc,Nat.add_comm 1 i],h3⟩
end
section
variable {P : Program} {E : Env}
theorem ag (hE : Env.Ok P E) (hm : P.follows .mixedOrders = true) {b : Code} {lt : LT} (hlt : af P b lt) {ss : List SP} {gs : List (Nat × GP)} {s : StT ss gs -> Option (Nat × StT ss gs)} {N : StT ss gs -> Nat} {ex : List Ex}
  (h : ∀ (n : Nat) (v : StT ss gs) (K : Ex -> St -> Option (Ex × St)),dV (ca E (ev E cO 0) cO 0 b lt) (.norm ss gs) (n + 1) (ar ss gs v) K = (s v).bind (bL (ca E (ev E cO 0) cO 0 b lt) (.norm ss gs) (ar ss gs) ex n K)) :
  aH P b ss gs fun v => aM s (N v) v (ar ss gs) ex 0 := by
 refine uK (draw := cO) hE (fun call hC => fJ hE hm call hC) hlt 0 0 (.norm ss gs) fun v e st' hv => ⟨N v,?_⟩
 obtain ⟨i,h1,h2,h3⟩ := sN ex 0 hv
 rw [vq (K := fun e st => some (e,st)) (fun n v => h n v _) (N v) v,h2,h3,Nat.zero_add]
 simp [h1]
theorem zf (hE : Env.Ok P E) (hm : P.follows .mixedOrders = true) {b : Code} {lt : LT} (hlt : af P b lt) {ss sx : List SP} {gs gx : List (Nat × GP)} {W : Type} {s : W -> Option (Nat × W)} {N : W -> Nat} {ex : List Ex} {bH bE : W -> St} {en : StT ss gs -> W} (hb : ∀ v,bH (en v) = ar ss gs v)
  (h : ∀ (n : Nat) (v : W) (K : Ex -> St -> Option (Ex × St)),dV (ca E (ev E cO 0) cO 0 b lt) (.two ss gs sx gx) (n + 1) (bH v) K = (s v).bind (KL (ca E (ev E cO 0) cO 0 b lt) (.two ss gs sx gx) bH bE ex n K)) :
  aH P b ss gs fun v => A6 s (N (en v)) (en v) bH bE ex 0 := by
 refine uK (draw := cO) hE (fun call hC => fJ hE hm call hC) hlt 0 0 (.two ss gs sx gx) fun v e st' hv => ⟨N (en v),?_⟩
 obtain ⟨i,h1,h2,h3⟩ := uF ex 0 hv
 rw [← hb,s5 (K := fun e st => some (e,st)) (fun n v => h n v _) (N (en v)) (en v),h2,h3,Nat.zero_add]
 simp [h1]
theorem bf (hE : Env.Ok P E) (hm : P.follows .mixedOrders = true) {c : Code} {lt : LT} (hlt : af P c lt) {ss : List SP} {gs : List (Nat × GP)} {F : StT ss gs -> aL (Ex × St)} {sx : List SP} {gx : List (Nat × GP)}
  (h : ∀ (v : StT ss gs),ca E (ev E cO 0) cO 0 c lt (ar ss gs v) (fun e st => bif st.sl.length == sx.length then some (e,st.norm sx gx) else none) = (F v).run some) : bo P c ss gs F := by
 intro B O w0 w ρ a v e st' Q hF hS hn
 have hD := fun call hC => fJ hE hm call hC
 have hC := db hE hD 0
 refine bt (R := Ex × St) (r := (e,st')) hE hC (hD _ hC) 0 c lt _ ρ a w _ Q hlt hS ((h v).trans hF) fun e1 ρ1 st1 a1 w1 hk h1 => ?_
 simp only [aq] at hk
 split at hk
 ·rename_i hl
  cases hk
  obtain ⟨ρ2,h2⟩ := h1.norm sx gx
  exact hn ρ2 a1 w1 h2
 ·cases hk
theorem yp (hE : Env.Ok P E) (hm : P.follows .mixedOrders = true) {id : Nat} {ops : Array Oper} (hb : Bf ops = true) (n : Nat) {ss : List SP} {gs : List (Nat × GP)} {F : StT ss gs -> aL (Ex × St)} {sx : List SP} {gx : List (Nat × GP)}
  (h : ∀ (v : StT ss gs),((dK E ops (ops.size + 1) (Array.replicate ops.size false)).map fun π => aW E (ev E cO 0) ops.toList (π.map (bK ops)) (ar ss gs v) (fun st => bif st.sl.length == sx.length then some (Ex.normal,st.norm sx gx) else none)) = List.replicate n ((F v).run some)) : bo P (.region id ops true) ss gs F := by
 intro B O w0 w ρ a v e st' Q hF hS hn
 have hC := db hE (fun call hC => fJ hE hm call hC) 0
 refine yq (R := Ex × St) (r := (e,st')) hE hC hm hb hS (k := fun st => bif st.sl.length == sx.length then some (Ex.normal,st.norm sx gx) else none) (fun π hπ => ?_) fun ρ1 st1 a1 w1 hk h1 => ?_
 ·have h1 := List.mem_map_of_mem (f := fun π => aW E (ev E cO 0) ops.toList (π.map (bK ops)) (ar ss gs v) (fun st => bif st.sl.length == sx.length then some (Ex.normal,st.norm sx gx) else none)) hπ
  rw [h v] at h1
  rw [List.eq_of_mem_replicate h1]
  exact hF
 ·simp only [aq] at hk
  split at hk
  ·rename_i hl
   cases hk
   obtain ⟨ρ2,h2⟩ := h1.norm sx gx
   exact hn ρ2 a1 w1 h2
  ·cases hk
@[reducible] def U2 (l : List SP) : List SP := .und :: .und :: l
@[reducible] def U4 (l : List SP) : List SP := .und :: .und :: .und :: .und :: l
@[reducible] def U8 (l : List SP) : List SP := U4 (U4 l)
@[reducible] def U16 (l : List SP) : List SP := U8 (U8 l)
@[reducible] def U32 (l : List SP) : List SP := U16 (U16 l)
@[reducible] def U64 (l : List SP) : List SP := U32 (U32 l)
def e8 : Code -> Array Oper | .region _ ops _ => ops | _ => #[]
def IT : Code -> Bool | .region _ _ d => d | _ => false
theorem dp {c : Code} (hc : IT c = true) (hE : Env.Ok P E) (hm : P.follows .mixedOrders = true) (hb : Bf (e8 c) = true) (n : Nat) {ss : List SP} {gs : List (Nat × GP)} {F : StT ss gs -> aL (Ex × St)} {sx : List SP} {gx : List (Nat × GP)}
  (h : ∀ (v : StT ss gs),((dK E (e8 c) ((e8 c).size + 1) (Array.replicate (e8 c).size false)).map fun π => aW E (ev E cO 0) (e8 c).toList (π.map (bK (e8 c))) (ar ss gs v) (fun st => bif st.sl.length == sx.length then some (Ex.normal,st.norm sx gx) else none)) = List.replicate n ((F v).run some)) : bo P c ss gs F := by
 cases c with
 | region id ops d =>
  have : d = true := hc
  subst this
  exact yp hE hm hb n h
 | _ => cases hc
def mM (E : Env) (c : Code) (sx : List SP) (gx : List (Nat × GP)) (st : St) (π : List Nat) : Option (Ex × St) := aW E (ev E cO 0) (e8 c).toList (π.map (bK (e8 c))) st (fun st => bif st.sl.length == sx.length then some (Ex.normal,st.norm sx gx) else none)
theorem qn {c : Code} (hc : IT c = true) (hE : Env.Ok P E) (hm : P.follows .mixedOrders = true) (hb : Bf (e8 c) = true) {πs : List (List Nat)} (hp : dK E (e8 c) ((e8 c).size + 1) (Array.replicate (e8 c).size false) = πs) {ss : List SP} {gs : List (Nat × GP)} {F : StT ss gs -> aL (Ex × St)} {sx : List SP} {gx : List (Nat × GP)}
  (h : ∀ (v : StT ss gs),∀ π ∈ πs,mM E c sx gx (ar ss gs v) π = (F v).run some) : bo P c ss gs F :=
 dp hc hE hm hb πs.length (sx := sx) (gx := gx) fun v => by rw [hp]; exact (List.map_congr_left (h v)).trans List.map_const'
theorem av {Q : List Nat -> Prop} {x : List Nat} {l : List (List Nat)} (h : Q x) (hl : ∀ π ∈ l,Q π) : ∀ π ∈ x :: l,Q π := fun q hq => (List.mem_cons.1 hq).elim (fun e => e ▸ h) (hl q)
theorem Em {Q : List Nat -> Prop} : ∀ π ∈ ([] : List (List Nat)),Q π := fun _ h => nomatch h
theorem GB (hE : Env.Ok P E) (hm : P.follows .mixedOrders = true) {f : FuncId} {p : Prim} (h : ∀ v,ev E cO 1 f (SPs.bld (R := Unit) p.ss v).1 [] = (p.F v).run some) : gG P f p :=
 Gn (draw := cO) hE (fun call hC => fJ hE hm call hC) fun v res out hv => ⟨1,by rw [h v]; exact hv⟩
theorem eG (hE : Env.Ok P E) (hm : P.follows .mixedOrders = true) {f : FuncId} {m : Mrk} (hwf : mo m.ss m.gs) (hfn : ∃ fn c,E.fn.lookup f = some fn /\ fn.body = some c) (h : ∀ v,Bw E cO 0 f (ar m.ss m.gs v) = (m.F v).run some) : dE P f m :=
 GG (draw := cO) hE (fun call hC => fJ hE hm call hC) hwf hfn fun v res upd hv => ⟨0,by rw [h v]; exact hv⟩
theorem mD (hE : Env.Ok P E) (hm : P.follows .mixedOrders = true) {f : FuncId} {m : Gen} (hwf : mo m.ss m.gs) (hfn : ∃ fn c,E.fn.lookup f = some fn /\ fn.body = some c) (h : ∀ v,D2 E cO 0 f (ar m.ss m.gs v) = (m.F v).run some) : bD P f m :=
 JC (draw := cO) hE (fun call hC => fJ hE hm call hC) hwf hfn fun v res fin hv => ⟨0,by rw [h v]; exact hv⟩
theorem aC {g : FuncId} {f : Func} {t : LT} (hf : P.funcs[g]? = some f) (h : af P (ab f) t) : ∀ fn,P.funcs[g]? = some fn -> af P (ab fn) t := fun fn hfn => by
 rw [hf] at hfn
 cases hfn
 exact h
theorem Ds {f : FuncId} {p : Prim} (hp : gG P f p) {v : SPs.T p.ss Unit} {b : Bool} (h : (p.F v).run some = some (.one (.bool b),[])) {W : World} (hsh : W.ShapedOpen P) {vs : List Value} (hr : aF (rav (start W) W) (SPs.bld (R := Unit) p.ss v).1 vs) (hu : ∀ x ∈ (SPs.bld (R := Unit) p.ss v).1,∀ d,x.ae d = false) :
  Calls P f vs.toArray W fun e w' => e = .returned (.bool b) /\ Below W.heap.size W w' := by
 refine (hp v _ _ h (start W) W vs (fun _ _ h => h) (fun _ h => h) (HZ hsh) hr hu).2.mono fun e w' hh => ?_
 obtain ⟨v,ρ',he,hv,_,_,hb⟩ := hh
 have hv : v = .bool b := hv
 subst hv
 exact ⟨he,hb⟩
def wz (ss : List SP) : Bool := ss.all fun s => match s with | .one (.dat _ _) => true | .agg ps => ps.all (fun p => match p with | .dat _ _ => true | _ => false) | _ => false
theorem Mi {ss : List SP} (h : wz ss = true) (v : SPs.T ss Unit) : ∀ x ∈ (SPs.bld (R := Unit) ss v).1,∀ d,x.ae d = false := by
 have hc : ∀ {R : Type} (ps : List CP) (y : CPs.T ps R) (d : Nat),ps.all (fun p => match p with | .dat _ _ => true | _ => false) = true -> (CPs.bld ps y).1.any (·.ae d) = false := by
  intro R ps
  induction ps with
  | nil => intro y d h; rfl
  | cons p r ih =>
   intro y d h
   simp only [List.all_cons,Bool.and_eq_true] at h
   cases p with
   | dat t b => simp only [CPs.bld,List.any_append,nM,Bool.false_or]; exact ih _ d h.2
   | own j => cases h.1
   | ptr j c => cases h.1
   | und => cases h.1
   | fnc f ts => cases h.1
   | ept t => cases h.1
   | fnp f js => cases h.1
   | nest j => cases h.1
 have main : ∀ {R : Type} (ss : List SP) (y : SPs.T ss R),wz ss = true -> ∀ x ∈ (SPs.bld ss y).1,∀ d,x.ae d = false := by
  intro R ss
  induction ss with
  | nil => intro y h x hx; simp [SPs.bld] at hx
  | cons s r ih =>
   intro y h x hx d
   simp only [wz,List.all_cons,Bool.and_eq_true] at h
   cases s with
   | und => cases h.1
   | one p =>
    cases p with
    | dat t b =>
     rcases List.mem_cons.1 hx with rfl | hx
     ·have := hc [.dat t b] y d rfl
      generalize (CPs.bld [.dat t b] y).1 = l at this
      unfold oneOf
      split
      ·simpa [AV.ae] using this
      ·rfl
     ·exact ih _ h.2 x hx d
    | own j => cases h.1
    | ptr j c => cases h.1
    | und => cases h.1
    | fnc f ts => cases h.1
    | ept t => cases h.1
    | fnp f js => cases h.1
    | nest j => cases h.1
   | agg ps =>
    rcases List.mem_cons.1 hx with rfl | hx
    ·exact hc ps y d h.1
    ·exact ih _ h.2 x hx d
 exact main ss v h
theorem qd {P : Program} {t : TypeId} {fs : Array Field} {d : Ty} (ho : cU P t d) (ht : P.underlying t = some (.struct fs)) {H : Type} {enc : TypeId × Value -> H} {w : World} {b base : Nat} {r : Reach} {spare : Nat -> Bool} {held : Bool} {v : Value} {x : DataW H} {ps : List MemPlace}
  (hv : Value.okWide P w r b t v) (h : DataW.Trod enc P w base spare held t v x ps) : ∃ y : d.T,rav (start w) w (.agg (d.cells true y ++ [])) v /\ d.ok y := by
 obtain ⟨y,h1,h2⟩ := BM ho ht hv h
 exact ⟨y,by rw [List.append_nil]; exact h1,h2⟩
end
structure cV (P : Program) where
 E : Env
 ok : Env.Ok P E
def cV.base (P : Program) (ti : List (TypeId × TI)) (fn : List (FuncId × Func)) (eqt : List TypeId) (h : ∀ q ∈ ti, TI.Ok P q.1 q.2) (hf : ∀ q ∈ fn, P.funcs[q.1]? = some q.2 /\ (q.2.name == "runtime.NumGoroutine") = false) (he : ∀ t ∈ eqt, EqT P t) : cV P :=
 ⟨{ ti := ti,fn := fn,eqt := eqt },Env.Ok.of h hf (fun _ h => nomatch h) (fun _ h => nomatch h) (fun _ h => nomatch h) he (fun _ h => nomatch h)⟩
theorem EI {α : Type} {Q : α -> Prop} {x : α} {l : List α} (h : Q x) (hl : ∀ q ∈ l,Q q) : ∀ q ∈ x :: l,Q q := fun q hq => (List.mem_cons.1 hq).elim (fun e => e ▸ h) (hl q)
def cV.p {P : Program} {f : FuncId} {p : Prim} (e : cV P) (h : gG P f p) : cV P := ⟨{ e.E with prim := (f,p) :: e.E.prim },⟨e.ok.ti,e.ok.fn,EI (Q := fun q : FuncId × Prim => gG P q.1 q.2) h e.ok.prim,e.ok.lt,e.ok.mark,e.ok.eqt,e.ok.gen⟩⟩
def cV.g {P : Program} {f : FuncId} {p : Gen} (e : cV P) (h : bD P f p) : cV P := ⟨{ e.E with gen := (f,p) :: e.E.gen },⟨e.ok.ti,e.ok.fn,e.ok.prim,e.ok.lt,e.ok.mark,e.ok.eqt,EI (Q := fun q : FuncId × Gen => bD P q.1 q.2) h e.ok.gen⟩⟩
def cV.n {P : Program} (e : cV P) : cV P := ⟨{ e.E with nest := true },⟨e.ok.ti,e.ok.fn,e.ok.prim,e.ok.lt,e.ok.mark,e.ok.eqt,e.ok.gen⟩⟩
def cV.m {P : Program} {f : FuncId} {p : Mrk} (e : cV P) (h : dE P f p) : cV P := ⟨{ e.E with mark := (f,p) :: e.E.mark },⟨e.ok.ti,e.ok.fn,e.ok.prim,e.ok.lt,fun f' m hm => by
 simp only [List.lookup] at hm
 split at hm
 ·rename_i hb
  have := eq_of_beq hb
  subst this
  cases hm
  exact h
 ·exact e.ok.mark f' m hm,e.ok.eqt,e.ok.gen⟩⟩
def cV.l {P : Program} {g : FuncId} {t : LT} (e : cV P) (h : ∀ fn,P.funcs[g]? = some fn -> af P (ab fn) t) : cV P := ⟨{ e.E with lt := (g,t) :: e.E.lt },⟨e.ok.ti,e.ok.fn,e.ok.prim,fun f fn c hf hb => by
 unfold Env.GF
 simp only [List.lookup]
 split
 ·rename_i hg
  have := eq_of_beq hg
  subst this
  have h1 := h fn (e.ok.fn _ _ hf).1
  unfold ab at h1
  rw [hb] at h1
  exact h1
 ·exact e.ok.lt f fn c hf hb,e.ok.mark,e.ok.eqt,e.ok.gen⟩⟩
end Go.Proofs.YtcddhifkfakcjaaGreat.Lib
namespace Go.Proofs.YtcddhifkfakcjaaGreat.Lib
open Go Go.RowKit Go.Lib
set_option linter.unusedVariables false
set_option linter.unusedSimpArgs false
def wF (t tb : TypeId) (y z : String) : Oper := { dst := some 4,op := Op.binOp BinOp.eql t (Operand.tmp 3) (Operand.const (Value.slice none 0 0)) t,type := tb,pos := y,after := #[{ on := 0,ground := Ground.data }],guard := none }
def Hn (t : TypeId) : Code := Code.region 0 #[{ dst := some 2, op := Op.assign (Operand.const (Value.slice none 0 0)), type := t, pos := "slices.go:355", after := #[], guard := none }] false
def HU (t : TypeId) : Oper := { dst := some 3, op := Op.move (Operand.tmp 0), type := t, pos := "slices.go:357", after := #[], guard := none }
def I9 (t : TypeId) : Code := (Code.region 2 #[{ dst := some 2, op := Op.assign (Operand.const (Value.slice none 0 0)), type := t, pos := "slices.go:358", after := #[], guard := none }] false).seq Code.ret
def yr (t : TypeId) : Code :=
  (Code.region 3
    #[{ dst := some 5, op := Op.buildSlice t 0 #[], type := t, pos := "slices.go:362", after := #[], guard := none },
      { dst := some 6, op := Op.move (Operand.tmp 0), type := t, pos := "slices.go:362", after := #[], guard := none },
      { dst := some 7, op := Op.call { callee := Callee.builtin Builtin.append, args := #[Operand.tmp 5, Operand.tmp 6], argTypes := #[t, t] }, type := t, pos := "slices.go:362",
        after := #[{ on := 0,ground := Ground.data },{ on := 1,ground := Ground.data }],guard := none },
      { dst := some 2, op := Op.assign (Operand.tmp 7), type := t, pos := "slices.go:362",
        after := #[{ on := 2,ground := Ground.data },{ on := 2,ground := Ground.chain },{ on := 0,ground := Ground.phase },{ on := 1,ground := Ground.phase },{ on := 2,ground := Ground.phase }],guard := none }]
    false).seq Code.ret
def FR (t tb : TypeId) : Code := (Hn t).seq (((Code.region 1 #[HU t, wF t tb "slices.go:357" ""] false).seq (Code.cond (Operand.tmp 4) (I9 t) Code.skip)).seq (yr t))
def DK (e : TypeId) (τ : Ty) (by_ : Nat) : Prim := ⟨[.one (.dat (.sl e τ) true)],fun v => .br (decide (List.length (α := τ.T) v.1 * by_ <= 140737488351232)) (.done (.one (.sl 4096),[(4096,.arr e τ v.1 false)])) .no⟩
theorem Mem.aay {n0 : Nat} {ok : Bool -> Nat -> Prop} {l0 : Nat -> Loc} {ρ : al} {w : World} {e : TypeId} {τ : Ty} {l : List τ.T} {b b' : Bool} {j : Nat} (hfl : τ.flat = true) (h : Mem n0 ⟨fun _ => False,ok,l0⟩ ρ [(j,.arr e τ l b)] w) : Mem n0 ⟨fun _ => False,ok,l0⟩ ρ [(j,.arr e τ l b')] w := by
  have ho : ∀ i g,aP ρ [(j,Blk.arr e τ l b')] i g -> aP ρ [(j,Blk.arr e τ l b)] i g := by
    intro i g h
    unfold aP at h ⊢
    simp only [Sig.get,aq] at h ⊢
    split at h
    · rename_i he
      split at he
      · cases he
      · cases he
    · rename_i he
      split at he
      · rename_i hc
        rw [if_pos hc]
        exact h
      · cases he
    · rename_i he
      split at he <;> cases he
    · exact h.elim
  refine ⟨fun i x hi => ?_,fun i k g h1 h2 => h.inj i k g (ho i g h1) (ho k g h2),fun i g h1 => h.old i g (ho i g h1),h.okb,fun q g hq i h1 => h.oko q g hq i (ho i g h1),h.okm,h.okx,h.oky,fun i x d hi hd => ?_⟩
  · simp only [Sig.get,aq] at hi
    split at hi
    · rename_i hc
      cases hi
      obtain ⟨v,g,xs,h1,h2,h3⟩ := h.blk i _ (by simp only [Sig.get,aq]; rw [if_pos hc])
      exact ⟨v,g,xs,h1,⟨h2.1,fun q p hp => iL hfl (h2.2 q p hp)⟩,h3⟩
    · cases hi
  · simp only [Sig.get,aq] at hi
    split at hi
    · cases hi; cases hd
    · cases hi
section
variable {P : Program} {E : Env}
theorem EL (hE : Env.Ok P E) {f : FuncId} {fn : Func} {t tb e : TypeId} {sz sz' bs by_ : Nat} {yt : Option Ty} {td : TD} {τ : Ty} (hf : P.funcs[f]? = some fn) (hn : (fn.name == "runtime.NumGoroutine") = false) (hb : fn.body = some (FR t tb)) (hnt : fn.ntmps = 8) (hrs : fn.results = #[.tmp 2])
    (ht : E.ti.lookup t = some ⟨.slice e,sz,bs,yt⟩) (he : E.ti.lookup e = some ⟨td,sz',by_,some τ⟩) (hby : by_ ≠ 0) (hfl : τ.flat = true) : gG P f (DK e τ by_) := by
  intro v res out hv ρ0 w vs hokb hokm hgl hr hu
  refine ⟨⟨fn,hf,by rw [hb]; rfl,hn⟩,?_⟩
  obtain ⟨l,x⟩ := v
  simp only [DK,aL.run] at hv
  by_cases hc : List.length (α := τ.T) l * by_ <= 140737488351232
  · rw [decide_eq_true hc] at hv
    simp only [cond_true,Option.some.injEq,Prod.mk.injEq] at hv
    obtain ⟨rfl,rfl⟩ := hv
    have hst : (SPs.bld (R := Unit) (DK e τ by_).ss (l,x)).1 = [.one (.emb e τ l true)] := rfl
    rw [hst] at hr
    obtain ⟨u,rfl,hr9⟩ := hr.single
    clear hr
    have hr0 : Rp (ρ0.ok true) w (.sl e τ) l [u] := hr9
    simp only [Rp] at hr0
    obtain ⟨A,c,e1,hle,hm,hd⟩ := hr0
    have e1 : u = .slice A l.length c := by simpa using e1
    subst e1
    refine calls_of_wp hf hb ?_
    let st0 : St := ⟨[.one (.emb e τ l true),.one .und,.one .und,.one .und,.one .und,.one .und,.one .und,.one .und],[]⟩
    have h0 : Sim P w.heap.size ⟨fun _ => False,ρ0.ok,ρ0.loc⟩ w ρ0 st0 { tmps := #[.slice A l.length c] ++ Array.replicate (fn.ntmps - 1) undef,defers := [] } w := by
      refine ⟨⟨(fun j b hj => by cases hj),(fun i j g hi => by cases hi),(fun j g hj => by cases hj),hokb,(fun b g hg j hj => by cases hj),hokm,fun b g hg => .inl hg,fun b g hg => hg,(fun j b d hj => by cases hj)⟩,by rw [hnt]; rfl,fun i v hi => ?_,fun i v d hi hd => ?_,rfl,da.refl _ _ _,Nat.le_refl _,fun _ _ => rfl,fun G hG => ⟨(hgl G hG).1,hokb _ _ (hgl G hG).1,fun h => h,(hgl G hG).2⟩⟩
      · rw [hnt]
        match i,hi with
        | 0,hi => cases hi; exact ⟨_,rfl,hr9⟩
        | 1,hi => cases hi; exact ⟨_,rfl,trivial⟩
        | 2,hi => cases hi; exact ⟨_,rfl,trivial⟩
        | 3,hi => cases hi; exact ⟨_,rfl,trivial⟩
        | 4,hi => cases hi; exact ⟨_,rfl,trivial⟩
        | 5,hi => cases hi; exact ⟨_,rfl,trivial⟩
        | 6,hi => cases hi; exact ⟨_,rfl,trivial⟩
        | 7,hi => cases hi; exact ⟨_,rfl,trivial⟩
        | n + 8,hi => simp [st0] at hi
      · match i,hi with
        | 0,hi => cases hi; cases hd
        | 1,hi => cases hi; cases hd
        | 2,hi => cases hi; cases hd
        | 3,hi => cases hi; cases hd
        | 4,hi => cases hi; cases hd
        | 5,hi => cases hi; cases hd
        | 6,hi => cases hi; cases hd
        | 7,hi => cases hi; cases hd
        | n + 8,hi => simp [st0] at hi
    have hC : cJ P (fun _ _ _ => none) := fun f args res out h => by cases h
    have hD : eV P E (fun _ _ _ => none) (fun _ _ _ _ => false) := fun R r B O w0 w ρ st a id ops k Q h => by cases h
    have go := @bt P E w.heap.size ⟨fun _ => False,ρ0.ok,ρ0.loc⟩ w St
    refine wp_seq (bt (R := Ex × St) (r := (Ex.normal,⟨[.one (.emb e τ l true),.one .und,.one .nil,.one .und,.one .und,.one .und,.one .und,.one .und],[]⟩)) hE hC hD 0 (Hn t) .none st0 ρ0 _ w (fun e st => some (e,st)) _ trivial h0 rfl fun ex ρ1 st1 a1 w1 hk h1 => ?_)
    cases hk
    show ((Code.seq _ _).wp P _ a1 w1)
    refine wp_seq (wp_seq (wp_region_list ?_))
    unfold wpList
    rw [if_pos (by rfl)]
    refine .inl (fZ (R := St) (r := ⟨[.one (.emb e τ l true),.one .und,.one .nil,.one (.emb e τ l true),.one .und,.one .und,.one .und,.one .und],[]⟩) hE hC h1 (HU t) (k := some) rfl fun ρ2 st2 a2 w2 hk h2 => ?_)
    cases hk
    unfold wpList
    rw [if_pos (by rfl)]
    left
    obtain ⟨u3,hu3,hr3⟩ := h2.sl 3 _ rfl
    have hr3' : Rp (ρ2.ok true) w2 (.sl e τ) l [u3] := hr3
    simp only [Rp] at hr3'
    obtain ⟨A',c',e3,_,_,hd3⟩ := hr3'
    have e3 : u3 = .slice A' l.length c' := by simpa using e3
    subst e3
    have hev : a2.eval (.tmp 3) = .slice A' l.length c' := by
      simp only [Act.eval,Array.getD_eq_getD_getElem?,hu3,Option.getD_some]
    have hrun : (execOp a2.eval (wF t tb "slices.go:357" "")).run P w2 = .ok (.value (.bool A'.isNone)) w2 := by
      unfold execOp wF
      have hbin : (binOp .eql t (.slice A' l.length c') (.slice none 0 0)).run P w2 = .ok (.bool A'.isNone) w2 := by
        simp only [binOp]
        simp [Op.equal,Op.maxDepth,Lib.run_equalIn_slice_nil w2 9999 t e A' l.length c' 0 0 (cg (hE.ti _ _ ht))]
      have hev0 : a2.eval (.const (.slice none 0 0)) = .slice none 0 0 := rfl
      have hg : (eqGuard BinOp.eql t (Operand.tmp 3) (Operand.const (Value.slice none 0 0)) (Value.slice A' l.length c') (Value.slice none 0 0)).run P w2 = .ok () w2 := by
        unfold eqGuard
        simp
      simp [hev,hev0,Sem.run_bind,hbin,hg]
    unfold Oper.wp
    rw [hrun,Oper.upon_value]
    have h3 := h2.put (some 4) (v := .one (.bool A'.isNone)) (u := .bool A'.isNone) rfl (fun d hd => by cases hd)
    show Exit.then _ _ .normal _ w2
    have hcv : (a2.put (some 4) (.bool A'.isNone)).eval (.tmp 4) = .bool A'.isNone := by
      obtain ⟨u4,hu4,hr4⟩ := h3.sl 4 (.one (.bool A'.isNone)) rfl
      have hr4 : u4 = .bool A'.isNone := hr4
      subst hr4
      simp only [Act.eval,Array.getD_eq_getD_getElem?,hu4,Option.getD_some]
    have hres : fn.results.toList = [.tmp 2] := by rw [hrs]
    have fin : ∀ (ρ' : al) (st' : St) (a' : Act) (w' : World) (l' : List τ.T) (b : Bool) (j : Nat),Sim P w.heap.size ⟨fun _ => False,ρ0.ok,ρ0.loc⟩ w ρ' st' a' w' -> rf st'.sg [st'.sl.getD 2 (.one .und)] = some (.one (.sl 4096),[(4096,.arr e τ l' b)]) -> l' = l ->
        a'.defers = [] /\ ∃ v,(results fn a'.tmps).run P w' = .ok v w' /\ ∃ v_1 ρ',Ending.returned v = .returned v_1 /\ rav ρ' w' (.one (.sl 4096)) v_1 /\ Mem w.heap.size ⟨fun _ => False,ρ0.ok,ρ0.loc⟩ ρ' [(4096,.arr e τ l false)] w' /\ (∀ d,(AV.one (.sl 4096)).ae d = true -> (Sig.get d [(4096,Blk.arr e τ l false)]).isSome = true) /\ Below w.heap.size w w' := by
      intro ρ' st' a' w' l' b j h' hl hll
      subst hll
      have hres' : fP E st' fn.results.toList = some [st'.sl.getD 2 (.one .und)] := by rw [hres]; rfl
      obtain ⟨us,g1,g2,_⟩ := cS hE h' hres'
      obtain ⟨ρ9,g3,g4,g5⟩ := mP h'.mem g1 hl
      exact ⟨h'.defers,_,eO g2,_,ρ9,rfl,g3,g4.aay hfl,fun d hd => (by have := eq_of_beq hd; subst this; rfl),⟨h'.fr.os,h'.fr.tape,h'.fr.output,h'.fr.size,fun k hk => h'.fr.block k hk (fun h => h)⟩⟩
    cases hA : A'.isNone with
    | true =>
      rw [hA] at hcv h3
      have hA' : A' = none := by cases A' with | none => rfl | some x => cases hA
      have hl : l = [] := by
        rcases Nat.eq_zero_or_pos l.length with hl | hl
        · exact List.eq_nil_of_length_eq_zero hl
        · obtain ⟨ad,hx,_⟩ := hd3 hl
          rw [hA'] at hx; cases hx
      refine wp_cond_true hcv ?_
      refine bt (R := Ex × St) (r := (Ex.ret,⟨[.one (.emb e τ l true),.one .und,.one .nil,.one (.emb e τ l true),.one (.bool true),.one .und,.one .und,.one .und],[]⟩)) hE hC hD 0 (I9 t) .none _ ρ2 _ w2 (fun e st => some (e,st)) _ ⟨trivial,trivial⟩ h3 rfl fun ex ρ5 st5 a5 w5 hk h5 => ?_
      cases hk
      subst hl
      obtain ⟨u2,hu2,hr2⟩ := h5.sl 2 _ rfl
      have hr2 : u2 = .slice none 0 0 := hr2
      subst hr2
      obtain ⟨us,g1,g2,_⟩ := cS hE h5 (rs := fn.results.toList) (vs := [.one .nil]) (by rw [hres]; rfl)
      obtain ⟨ux,hux,hrx⟩ := g1.single
      subst hux
      have hrx : ux = .slice none 0 0 := hrx
      subst hrx
      refine ⟨h5.defers,_,eO g2,_,ρ5.upd 4096 (.arr (.slice none 0 0) none τ.sz),rfl,⟨none,τ.sz,al.ba _ _ _⟩,?_,fun d hd => ?_,⟨h5.fr.os,h5.fr.tape,h5.fr.output,h5.fr.size,fun k hk => h5.fr.block k hk (fun h => h)⟩⟩
      · have hno : ∀ i g,¬ aP (ρ5.upd 4096 (.arr (.slice none 0 0) none τ.sz)) [(4096,Blk.arr e τ [] false)] i g := by
          intro i g ho
          obtain ⟨b,a1,a2,a3⟩ := aE.1 ho
          simp only [Sig.get,aq] at a1
          split at a1
          · rename_i hi
            have hi := eq_of_beq hi
            subst hi
            cases a1
            rcases a3 with ⟨_,_,a3,_⟩ | ⟨_,_,_,_,_,v,sz,a3⟩ | ⟨_,_,_,a3,_⟩
            · cases a3
            · rw [al.ba] at a3; cases a3
            · cases a3
          · cases a1
        refine ⟨fun i b hi => ?_,fun i k g h1 => (hno i g h1).elim,fun i g h1 => (hno i g h1).elim,h5.mem.okb,fun q g hq i h1 => (hno i g h1).elim,h5.mem.okm,h5.mem.okx,h5.mem.oky,fun i b d hi hd => ?_⟩
        · simp only [Sig.get,aq] at hi
          split at hi
          · rename_i hc
            have hc := eq_of_beq hc
            subst hc
            cases hi
            exact ⟨.slice none 0 0,none,[],al.ba _ _ _,⟨by simp,fun j p hp => by simp at hp⟩,rfl,none,rfl⟩
          · cases hi
        · simp only [Sig.get,aq] at hi
          split at hi
          · cases hi; cases hd
          · cases hi
      · have := eq_of_beq hd
        subst this
        rfl
    | false =>
      rw [hA] at hcv h3
      refine wp_cond_false hcv (wp_skip ?_)
      have hcode : ca E (fun _ _ _ => none) (fun _ _ _ _ => false) 0 (yr t) .none ⟨[.one (.emb e τ l true),.one .und,.one .nil,.one (.emb e τ l true),.one (.bool false),.one .und,.one .und,.one .und],[]⟩ (fun e st => some (e,st)) =
          some (Ex.ret,⟨[.one (.emb e τ l true),.one .und,.one (.sl 5),.one (.emb e τ l true),.one (.bool false),.one .und,.one (.emb e τ l true),.one (.sl 5)],[(5,.arr e τ ([] ++ l) (false || (true && !τ.flat)))]⟩) := by
        have hin : (l.length * by_ <= 140737488351232) := hc
        have e1 : Nat.blt 5 4294967296 = true := rfl
        have e2 : Nat.ble 0 16777216 = true := rfl
        have e3 : (by_ != 0) = true := by simpa using hby
        simp [yr,LT.l,LT.r,e1,e2,e3,ca,aW,exec,iM ht he hfl,bR,ht,he,Sig.free,Sig.get,bB,au,je,rowOf,target,St.aQ,Sig.put,Sig.aT,St.put,qop,AV.aT,Cell.aT,Blk.aT,hc,hby,PIN]
      refine bt (R := Ex × St) (r := _) hE hC hD 0 (yr t) .none _ ρ2 _ w2 (fun e st => some (e,st)) _ ⟨trivial,trivial⟩ h3 hcode fun ex ρ5 st5 a5 w5 hk h5 => ?_
      cases hk
      exact fin ρ5 _ a5 w5 ([] ++ l) (false || (true && !τ.flat)) 5 h5 rfl (List.nil_append l)
  · rw [decide_eq_false hc] at hv
    cases hv
end
end Go.Proofs.YtcddhifkfakcjaaGreat.Lib
