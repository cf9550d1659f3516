/- An interpreter over plain values for translated functions, and that it says what the model does (calls, statements, loops, arguments). No condition. -/
import Derived.Test.YtakmjjikiefheaaVmLibTwo
import Derived.WalkKit
import Derived.ProofKit
import Derived.OpenShut
import Derived.ShutString
import Derived.ChangeOld
import Derived.Below
import Derived.Shelf.Vars
import Derived.SizedLaws
import Derived.Lib.SlicesCompact
import Derived.Sort.OwnSortedInts
import Derived.Handy
import Derived.KernelRfl
namespace Go.Proofs.Ytakmjjikiefheaa.Lib
open Go Go.RowKit
set_option linter.unusedVariables false
set_option linter.unusedSimpArgs false
def cnt (listed : Array Bool) : Nat → Nat
 | 0 => 0
 | n + 1 => cnt listed n + if listed.getD n false = true then 0 else 1
theorem cnt_zero {listed : Array Bool} : ∀ {n : Nat}, cnt listed n = 0 → ∀ i, i < n → listed.getD i false = true
 | 0, _, i, hi => by omega
 | n + 1, h, i, hi => by
  simp only [cnt] at h
  by_cases hl : listed.getD n false = true
  ·by_cases hin : i = n
   ·subst hin; exact hl
   ·exact cnt_zero (n := n) (by omega) i (by omega)
  ·rw [if_neg hl] at h; omega
theorem cnt_pos {listed : Array Bool} : ∀ {n : Nat}, cnt listed n ≠ 0 → ∃ i, i < n ∧ listed.getD i false = false ∧ ∀ k, k < i → listed.getD k false = true
 | 0, h => absurd rfl h
 | n + 1, h => by
  by_cases h0 : cnt listed n = 0
  ·refine ⟨n, by omega, ?_, fun k hk => cnt_zero h0 k hk⟩
   simp only [cnt, h0, Nat.zero_add] at h
   cases hl : listed.getD n false with
   | false => rfl
   | true => rw [hl] at h; simp at h
  ·obtain ⟨i, h1, h2, h3⟩ := cnt_pos h0
   exact ⟨i, by omega, h2, h3⟩
theorem cnt_set {listed : Array Bool} {i : Nat} (hi : i < listed.size) (hu : listed.getD i false = false) : ∀ n, cnt (listed.setIfInBounds i true) n + (if i < n then 1 else 0) = cnt listed n
 | 0 => by simp [cnt]
 | n + 1 => by
  have ih := cnt_set hi hu n
  simp only [cnt]
  by_cases hin : i = n
  ·subst hin
   have h1 : (listed.setIfInBounds i true).getD i false = true := by simp [hi]
   rw [h1, hu]
   simp only [Nat.lt_irrefl, if_false, Nat.add_zero] at ih
   simp [ih]
  ·rw [getD_set_ne false hin]
   by_cases hlt : i < n
   ·rw [if_pos hlt] at ih
    rw [if_pos (show i < n + 1 by omega)]
    omega
   ·rw [if_neg hlt] at ih
    rw [if_neg (show ¬ i < n + 1 by omega)]
    omega
theorem cnt_none (m : Nat) : ∀ n, cnt (Array.replicate m false) n = n
 | 0 => rfl
 | n + 1 => by simp only [cnt, cnt_none m n, getD_replicate_false]; rfl
section
variable {P : Program} {E : Env} {B : Nat} {O : Ow} {w0 w w' : World} {ρ ρ' : CEnv} {a : Act} {R : Type} {r : R} {call : CallFn} {G : List Oper}
theorem Sim.same {s s' : St} (h : Sim P B O w0 ρ s a w) (hsl : s'.sl = s.sl) (hsg : ∀ i, s'.sg.get i = s.sg.get i) : Sim P B O w0 ρ s' a w := by
 have ho : ∀ j g, Owns ρ s'.sg j g ↔ Owns ρ s.sg j g := fun j g => by unfold Owns; rw [hsg]
 refine ⟨⟨fun j b hj => h.mem.blk j b (by rw [← hsg]; exact hj), fun i j g h1 h2 => h.mem.inj i j g ((ho _ _).1 h1) ((ho _ _).1 h2), fun j g h1 => h.mem.old j g ((ho _ _).1 h1), h.mem.okb, fun b g hb j h1 => h.mem.oko b g hb j ((ho _ _).1 h1), h.mem.okm, h.mem.okx, h.mem.oky, fun j b d hj hd => ?_⟩, by rw [hsl]; exact h.len, fun i v hi => h.sl i v (by rw [← hsl]; exact hi), fun i v d hi hd => ?_, h.defers, h.fr, h.base, h.pin, h.glo⟩
 ·rw [hsg]; exact h.mem.dom j b d (by rw [← hsg]; exact hj) hd
 ·rw [hsg]; exact h.dom i v d (by rw [← hsl]; exact hi) hd
theorem Part.same {l : List Oper} {st s s' : St} {n : Nat} {L L' : Nat → Prop} (hv : ∀ j, j < n → ∃ o p, Val E call G l st j o p) (h : Part E call G l st n L s) (h' : Part E call G l st n L' s') (hL : ∀ j, j < n → L j) (hL' : ∀ j, j < n → L' j) : s'.sl = s.sl ∧ ∀ i, s'.sg.get i = s.sg.get i := by
 constructor
 ·apply List.ext_getElem?
  intro t
  by_cases hw : ∃ k o', k < n ∧ l[k]? = some o' ∧ o'.dst = some t
  ·obtain ⟨k, o', hk, ho', hd⟩ := hw
   obtain ⟨o2, p2, hp2⟩ := hv k hk
   have : o2 = o' := Option.some.inj (hp2.1.symm.trans ho')
   subst this
   by_cases htl : t < st.sl.length
   ·rw [h.wr k o2 p2 t hk (hL k hk) hp2 hd htl, h'.wr k o2 p2 t hk (hL' k hk) hp2 hd htl]
   ·rw [List.getElem?_eq_none (by rw [h'.len]; exact Nat.le_of_not_lt htl), List.getElem?_eq_none (by rw [h.len]; exact Nat.le_of_not_lt htl)]
  ·rw [h.un t fun i oi hi hl ho hdi => hw ⟨i, oi, hi, ho, hdi⟩, h'.un t fun i oi hi hl ho hdi => hw ⟨i, oi, hi, ho, hdi⟩]
 ·intro i
  apply Option.ext
  intro b
  rw [h'.sg, h.sg]
  have sw : ∀ (M M' : Nat → Prop), (∀ j, j < n → M' j) → ∀ b, Stored E call G l st n M i b → Stored E call G l st n M' i b := fun M M' hM b ⟨j, o, p, hj, _, x⟩ => ⟨j, o, p, hj, hM j hj, x⟩
  have mw : ∀ (M M' : Nat → Prop), (∀ j, j < n → M' j) → ∀ b, Made E call G l st n M i b → Made E call G l st n M' i b := fun M M' hM b h => h.imp id fun ⟨j, o, p, hj, _, x⟩ => ⟨j, o, p, hj, hM j hj, x⟩
  constructor
  ·rintro (h | ⟨h, h2⟩)
   ·exact .inl (sw _ _ hL b h)
   ·exact .inr ⟨fun b' hb' => h b' (sw _ _ hL' b' hb'), mw _ _ hL b h2⟩
  ·rintro (h | ⟨h, h2⟩)
   ·exact .inl (sw _ _ hL' b h)
   ·exact .inr ⟨fun b' hb' => h b' (sw _ _ hL b' hb'), mw _ _ hL' b h2⟩
theorem wanted_gop {ops : Array Oper} {s : St} {o : Oper} {p : AV × Sig} (hS : Sim P B O w0 ρ s a w) (ho : headOk E o = true) (h : gop E call ops.toList s.sg (evalO s.sl) o = some p) :
  (Region.wanted o (yielded ops a.tmps) = true ∧ sop E call s.sg (evalO s.sl) o = some p) ∨ (Region.wanted o (yielded ops a.tmps) = false ∧ isSt o = false ∧ p = (.tup [], [])) := by
 have gs : ∀ q, o.guard = some q → isSt o = false := by
  intro q hq
  cases hs : isSt o with
  | false => rfl
  | true =>
   obtain ⟨_, _, _, _, hg⟩ := st_head hs ho
   rw [hg] at hq; cases hq
 unfold gop at h
 split at h
 ·rename_i hg
  exact .inl ⟨by simp [Region.wanted, hg], h⟩
 ·rename_i j want hg
  split at h
  ·rename_i t ht
   have ht' : (ops[j]?).bind (·.dst) = some t := by rw [← Array.getElem?_toList]; exact ht
   have he := (hS.eval (.tmp t)).1
   split at h
   ·rename_i v hv
    rw [hv] at he
    have he : a.tmps.getD t undef = .bool v := he
    have hy : yielded ops a.tmps j = some v := by
     unfold yielded
     rw [ht']
     rw [Array.getD_eq_getD_getElem?] at he
     simp only [Option.bind_some]
     cases hx : a.tmps[t]? with
     | none => rw [hx] at he; cases he
     | some x => rw [hx] at he; simp only [Option.getD_some] at he; subst he; rfl
    have hw : Region.wanted o (yielded ops a.tmps) = (v == want) := by
     unfold Region.wanted
     rw [hg]
     simp only [hy]
     cases v <;> cases want <;> rfl
    simp only [bifs] at h
    split at h
    ·rename_i hvw; exact .inl ⟨hw.trans hvw, by rw [sop_ns (gs _ hg)]; exact h⟩
    ·rename_i hvw; cases h; exact .inr ⟨by rw [hw]; simpa using hvw, gs _ hg, rfl⟩
   ·rename_i hv
    rw [hv] at he
    obtain ⟨us, he, hus⟩ := he
    cases hus
    have he : a.tmps.getD t undef = .tuple #[] := he
    have hy : yielded ops a.tmps j = none := by
     unfold yielded
     rw [ht']
     rw [Array.getD_eq_getD_getElem?] at he
     simp only [Option.bind_some]
     cases hx : a.tmps[t]? with
     | none => rfl
     | some x => rw [hx] at he; simp only [Option.getD_some] at he; subst he; rfl
    cases h
    refine .inr ⟨?_, gs _ hg, rfl⟩
    unfold Region.wanted
    rw [hg]
    simp only [hy]
    rfl
   ·cases h
  ·cases h
theorem drawB_ok (hE : Env.Ok P E) (hm : P.follows .mixedOrders = true) (call : CallFn) (hC : CallOk P call) : DrawOk P E call drawB := by
 intro R r B O w0 w ρ st a id ops k Q hdraw hS hk hnext
 simp only [drawB, List.any_eq_true] at hdraw
 obtain ⟨n0, _, hB⟩ := hdraw
 generalize hn : ops.toList.length - 1 - n0 = n at hB
 rw [Bool.and_eq_true] at hB
 have H := headB_ok hB.1
 obtain ⟨hk', hv⟩ := head_run n (Nat.le_of_lt H.lt) H.ok (fun j o hj ho hs => by
  have hd := hB.2
  unfold dynB at hd
  rw [Bool.or_eq_true] at hd
  rcases hd with hd | hd
  ·have := List.all_eq_true.1 hd o (List.mem_take_iff_getElem.2 ⟨j, by have := H.lt; omega, (List.getElem?_eq_some_iff.1 ho).2⟩)
   rw [hs] at this; cases this
  ·split at hd
   ·rename_i s hrun
    exact (runN_spec hrun).2 j o hj ho
   ·cases hd) hk
 have SO := stores_of H hv hB.2
 have hsz : ops.size = ops.toList.length := by simp
 have harr : ops.toList.toArray = ops := by simp
 have hnlt : n < ops.size := by rw [hsz]; exact H.lt
 have hget : ∀ j : Nat, ops[j]? = ops.toList[j]? := fun j => by simp
 have hsink := H.sink
 have hchain := H.chain
 have hseq := H.seq
 rw [harr] at hsink hchain hseq
 refine wp_region_any hm ?_
 have main : ∀ (f : Nat) (listed : Array Bool) (a : Act) (w : World) (ρ : CEnv) (s : St), HeadInv .any ops n listed → cnt listed n = f → Part E call ops.toList ops.toList st n (fun i => listed.getD i false = true) s → Sim P B O w0 ρ s a w → wpAny P .any ops Q (f + (ops.size - n)) listed a w := by
  intro f
  induction f with
  | zero =>
   intro listed a w ρ s inv hc hp hS
   have hall := cnt_zero hc
   obtain ⟨h1, h2⟩ := Part.same hv hp (txt_part H.w SO hv n (Nat.le_refl _)) hall (fun j hj => hj)
   have hS' := hS.same h1 h2
   have htail := vguard_sound hE hC hnext (ops.toList.drop n) _ ρ a w hS' hk'
   have hl : listed = listedN n (ops.toList.length - n) := by
    apply Array.ext
    ·rw [inv.size]; simp [listedN]; omega
    ·intro i h1 h2
     have hi : i < ops.size := by rw [← inv.size]; exact h1
     rcases Nat.lt_or_ge i n with hin | hin
     ·have := hall i hin
      simp only [Array.getD_eq_getD_getElem?, Array.getElem?_eq_getElem h1, Option.getD_some] at this
      rw [this]
      simp [listedN, List.getElem_append, hin]
     ·have := inv.tail i hin hi
      simp only [Array.getD_eq_getD_getElem?, Array.getElem?_eq_getElem h1, Option.getD_some] at this
      rw [this]
      simp [listedN, List.getElem_append, Nat.not_lt.2 hin]
   have hdl : (ops.toList.drop n).length = ops.size - n := by simp
   rw [Nat.zero_add, ← hdl]
   refine wpAny_of_seq (ops.toList.drop n) n listed a w (fun j => by simp [List.getElem?_drop]) ?_ htail
   rw [hl, List.length_drop]
   exact hseq
  | succ f ih =>
   intro listed a w ρ s inv hc hp hS
   obtain ⟨i0, hi0, hu0, hlow⟩ := cnt_pos (listed := listed) (n := n) (by omega)
   have hu0' : listed.getD i0 true = false := getD_in (by rw [inv.size]; omega) hu0
   rw [show f + 1 + (ops.size - n) = (f + (ops.size - n)) + 1 by omega]
   refine ⟨fun h0 => ?_, fun i hi => ?_⟩
   ·exfalso
    have hi0s : i0 < ops.size := by omega
    have : i0 ∈ Region.ready .any ops listed := by
     refine mem_ready.2 ⟨hu0', ops[i0], Array.getElem?_eq_getElem hi0s, fun e he hb => hlow _ ?_⟩
     exact H.edges i0 ops[i0] hi0 (by rw [← hget]; exact Array.getElem?_eq_getElem hi0s) e he hb
    rw [h0] at this
    cases this
   ·have hin : i < n := by
     rcases Nat.lt_or_ge i n with h | h
     ·exact h
     ·exact absurd hi (tail_waits hsink hchain hnlt inv _ i0 rfl hi0 hu0' i h)
    obtain ⟨hu, oi, hoi, haft⟩ := mem_ready.1 hi
    obtain ⟨o, p, hval⟩ := hv i hin
    have : oi = o := Option.some.inj ((hoi.symm.trans (hget i)).trans hval.1)
    subst this
    have hu' := getD_both hu
    obtain ⟨hh, hf, hbe⟩ := part_hop H.w SO hv hp hin hval (by rw [hu']; simp) (fun a b ha hb hla hw => by
     rw [harr] at hw
     obtain ⟨oj, hoj, e, he, hbd, hon⟩ := Region.waitsFor_spec hw
     rw [← hon]
     exact inv.closed a oj hoj hla e he hbd) (fun b hb hw => by
     rw [harr] at hw
     obtain ⟨oj, hoj, e, he, hbd, hon⟩ := Region.waitsFor_spec hw
     have : oj = oi := Option.some.inj (hoj.symm.trans hoi)
     subst this
     rw [← hon]
     exact haft e he hbd) hS.dom
    have hho := hval.2.1
    unfold wpOp
    simp only [hoi]
    have next : ∀ ρ' a' w', Sim P B O w0 ρ' (aft oi p s) a' w' → wpAny P .any ops Q (f + (ops.size - n)) (listed.setIfInBounds i true) a' w' := by
     intro ρ' a' w' hS'
     refine ih _ a' w' ρ' _ (inv.set hi hin) ?_ ?_ hS'
     ·have := cnt_set (listed := listed) (i := i) (by rw [inv.size]; omega) hu' n
      rw [if_pos hin] at this
      omega
     ·refine hp.step SO hin (by rw [hu']; simp) hval (fun j => ?_) (fun j o' t hj h1 h2 h3 => H.uniq j i o' oi t hj hin h1 hval.1 h2 h3) hf hbe
      by_cases hji : i = j
      ·subst hji
       simp [show i < listed.size by rw [inv.size]; omega]
      ·rw [getD_set_ne false hji]
       exact ⟨.inl, fun h => h.elim (fun h => h) fun h => absurd h.symm hji⟩
    rcases wanted_gop hS hho hh with ⟨hw, hh⟩ | ⟨hw, hns, rfl⟩
    ·rw [if_pos hw]
     have hex : exec E call oi s some = some (aft oi p s) := by
      cases hs : isSt oi with
      | true =>
       obtain ⟨t, u, v, h1, _⟩ := st_head hs hho
       unfold sop at hh
       simp only [h1] at hh
       exact st_exec h1 hh some
      | false =>
       rw [sop_ns hs] at hh
       rw [hop_exec (R := St) hho hh some, aft_ns hs]
     refine .inl (exec_sound hE hC hS oi hex fun ρ' st' a' w' heq hS' => ?_)
     cases heq
     exact next ρ' a' w' hS'
    ·rw [if_neg (by rw [hw]; simp)]
     refine next ρ _ w ?_
     rw [aft_ns hns]
     exact hS.put oi.dst (v := .tup []) (u := undef) ⟨[], rfl, .nil⟩ (fun d hd => by cases hd)
 have h0 := main n (Array.replicate ops.size false) a { w with drawn := w.drawn + 1 } ρ st
  ⟨by simp, fun j oj _ hl => (by rw [getD_replicate_false] at hl; cases hl), fun t _ ht => getD_in (by simpa using ht) (getD_replicate_false _ _)⟩
  (cnt_none _ _) (Part.start fun j _ h => by rw [getD_replicate_false] at h; cases h)
  (hS.below ⟨rfl, rfl, rfl, Nat.le_refl _, fun _ _ => rfl⟩)
 rwa [show n + (ops.size - n) = ops.size by omega] at h0
end
end Go.Proofs.Ytakmjjikiefheaa.Lib
namespace Go.Proofs.Ytakmjjikiefheaa.Lib
open Go Go.RowKit
set_option linter.unusedVariables false
set_option linter.unusedSimpArgs false
section
variable {P : Program} {E : Env} {B : Nat} {O : Ow} {w0 w w' : World} {ρ ρ' : CEnv} {st : St} {a : Act} {R : Type} {r : R} {call : CallFn}
theorem genOut_bind {sl : List AV} {sg1 : Sig} {js : List (Nat × Nat)} {dst : Option Nat} {res : AV} {fin : Sig} (k : St → Option R) : genOut sl sg1 js dst res fin k = (genOut sl sg1 js dst res fin some).bind k := by
 unfold genOut
 simp only [bifs]
 repeat' (first | rfl | split)
theorem run_bind2 {α : Type} (o : Ways α) (f : α → Option St) (g : α → Option R) (k : St → Option R) (h : ∀ x, g x = (f x).bind k) : o.run g = (o.run f).bind k := by
 rw [Ways.run_bind o g, Ways.run_bind o f, Option.bind_assoc]
 congr 1
 funext x
 exact h x
theorem vgenOp_bind {dst : Option Nat} {f : AV} {args : List AV} {k : St → Option R} {oth : Option R} {oth' : Option St} (ho : oth = oth'.bind k) : vgenOp E st dst f args k oth = (vgenOp E st dst f args some oth').bind k := by
 unfold vgenOp
 repeat' (first | exact ho | exact run_bind2 _ _ _ _ fun x => genOut_bind k | split)
theorem vcallOp_bind {dst : Option Nat} {f : AV} {args : List AV} (k : St → Option R) : vcallOp E call st dst f args k = (vcallOp E call st dst f args some).bind k := by
 unfold vcallOp
 simp only [callK_eq]
 split
 ·split
  ·rw [Option.bind_assoc]
   congr 1
   funext x
   simp only [bifs]
   repeat' (first | rfl | split)
  ·rfl
 ·rfl
theorem vmarkOp_bind {dst : Option Nat} {m : Mrk} {args : List AV} (k : St → Option R) : vmarkOp st dst m args k = (vmarkOp st dst m args some).bind k := by
 unfold vmarkOp
 simp only [bifs]
 repeat' (first | rfl | (refine run_bind2 _ _ _ _ fun x => ?_; split <;> rfl) | split)
theorem vstore_bind {t : TypeId} {p v : AV} (k : St → Option R) : vstore E st t p v k = (vstore E st t p v some).bind k := by
 unfold vstore
 simp only [bifs]
 repeat' (first | rfl | split)
theorem vappend_bind {dst : Option Nat} {t : TypeId} {s x : AV} (k : St → Option R) : vappend E st dst t s x k = (vappend E st dst t s x some).bind k := by
 unfold vappend
 simp only [bifs]
 repeat' (first | rfl | split)
theorem vclear_bind {t : TypeId} {x : AV} (k : St → Option R) : vclear E st t x k = (vclear E st t x some).bind k := by
 unfold vclear
 repeat' (first | rfl | split)
theorem exec_par {o : Oper} {k : St → Option R} (h : exec E call o st k = some r) : ∃ s', exec E call o st some = some s' ∧ k s' = some r := by
 have quiet : ∀ {op : Op}, (qop E st.sg (evalO st.sl) o.dst op fun v add => k (St.put o.dst v ⟨st.sl, add ++ st.sg⟩)) = some r → ∃ s', (qop E st.sg (evalO st.sl) o.dst op fun v add => some (St.put o.dst v ⟨st.sl, add ++ st.sg⟩)) = some s' ∧ k s' = some r := by
  intro op h
  obtain ⟨p, h1, h2⟩ := qop_par h
  exact ⟨_, h1.1 _ st.sg _ (fun _ _ => rfl) (fun _ _ j b _ hj => hj) h1.2, h2⟩
 have eqn : ∀ {x : Option R} {y : Option St}, x = y.bind k → x = some r → ∃ s', y = some s' ∧ k s' = some r := by
  intro x y h1 h2
  rw [h1, Option.bind_eq_some_iff] at h2
  exact h2
 cases hop : o.op with
 | store t x v =>
  unfold exec at h ⊢
  rw [hop] at h ⊢
  simp only at h ⊢
  refine eqn ?_ h
  rw [vstore_bind, vstore_bind (fun st => some (st.put o.dst (.one .und))), Option.bind_assoc]
  rfl
 | call c =>
  unfold exec at h ⊢
  rw [hop] at h ⊢
  simp only at h ⊢
  split at h
  ·rename_i s x t t' hc ha ht
   simp only [bifs] at h ⊢
   split at h
   ·rename_i hh; rw [if_pos hh]; exact eqn (vappend_bind k) h
   ·cases h
  ·rename_i x t hc ha ht
   refine eqn ?_ h
   rw [vclear_bind, vclear_bind (fun st => some (St.put o.dst (.tup []) st)), Option.bind_assoc]
   rfl
  ·refine eqn ?_ h
   split
   ·exact vmarkOp_bind k
   ·split
    ·exact vcallOp_bind k
    ·exact vgenOp_bind (vcallOp_bind k)
  ·exact quiet h
 | buildSlice t n ps =>
  unfold exec at h ⊢
  rw [hop] at h ⊢
  refine eqn ?_ h
  simp only [bifs]
  repeat' (first | rfl | split)
 | _ => (unfold exec at h ⊢; rw [hop] at h ⊢; exact quiet h)
def hoistable (o : Oper) : Bool := o.guard.isNone && (match o.op with | .move _ | .nilCheck _ | .fieldAddr _ _ _ | .indexAddr _ _ _ | .slice _ _ _ _ _ => true | .call c => (match c.callee with | .builtin .len => true | _ => false) | _ => false)
theorem hoist_free (hE : Env.Ok P E) (h : Sim P B O w0 ρ st a w) {o : Oper} (ho : hoistable o = true) {k : AV → Sig → Option R} (hk : qop E st.sg (evalO st.sl) o.dst o.op k = some r) : ∃ u, ∀ w2, (execOp a.eval o).run P w2 = .ok (.value u) w2 := by
 unfold hoistable at ho
 rw [Bool.and_eq_true] at ho
 have ho := ho.2
 split at ho
 ·rename_i x hop
  exact ⟨a.eval x, fun w2 => by unfold execOp; simp [hop]⟩
 ·rename_i x hop
  rw [hop] at hk
  simp only [qop] at hk
  have hx := (h.eval x).1
  refine ⟨a.eval x, fun w2 => ?_⟩
  split at hk <;> rename_i hp <;> try (cases hk; done)
  ·rw [hp] at hx
   unfold execOp
   rcases hx with ⟨_, g, _, h2⟩ | ⟨_, _, _, _, _, _, h2⟩ <;> simp [hop, h2]
  ·rw [hp] at hx
   unfold execOp
   obtain ⟨_, _, h2⟩ := hx
   simp [hop, h2]
  ·rw [hp] at hx
   unfold execOp
   obtain ⟨_, h2, _⟩ := hx
   simp [hop, h2]
  ·rw [hp] at hx
   unfold execOp
   obtain ⟨_, h2, _⟩ := hx
   simp [hop, h2]
 ·rename_i t x f hop
  obtain ⟨_, u, _, h1, _⟩ := f_faddr hE h hop hk
  exact ⟨u, h1⟩
 ·rename_i t x i hop
  obtain ⟨_, u, _, h1, _⟩ := f_iaddr hE h hop hk
  exact ⟨u, h1⟩
 ·rename_i t x lo hi mx hop
  obtain ⟨_, u, _, h1, _⟩ := f_slice hE h hop hk
  exact ⟨u, h1⟩
 ·rename_i c hop
  split at ho
  ·rename_i hc
   rw [hop] at hk
   simp only [qop] at hk
   split at hk
   ·rename_i x t ts hc2 ha hat
    have ha := toArr ha
    have hat0 : c.argTypes[0]? = some t := by rw [← Array.getElem?_toList, hat]; rfl
    split at hk
    ·rename_i s sz by_ hp ht
     have hx := (h.eval x).1
     rw [hp] at hx
     have hx : a.eval x = .string s := hx
     refine ⟨.int .i64 s.size, fun w2 => ?_⟩
     unfold execOp
     simp [hop, Sem.run_bind, resolve, hc2, ha, invoke, builtin, Builtin.len_, hat0, hx, run_underlying (str_run (hE.ti _ _ ht)), goInt]
    ·rename_i cl e sz by_ ty hp ht
     have hx := (h.eval x).1
     rw [hp] at hx
     obtain ⟨A, n, cp, hu, hk⟩ := len_sound h hk hx
     refine ⟨.int .i64 n, fun w2 => ?_⟩
     unfold execOp
     simp [hop, Sem.run_bind, resolve, hc2, ha, invoke, builtin, Builtin.len_, hat0, hu, run_underlying (slice_run (hE.ti _ _ ht)), goInt]
    ·cases hk
   ·rename_i h2 _
    rw [hc] at h2
    cases h2
   ·rename_i h2 _
    rw [hc] at h2
    cases h2
   ·cases hk
  ·cases ho
 ·cases ho
theorem hoist_qop {o : Oper} (ho : hoistable o = true) (k : St → Option R) : exec E call o st k = qop E st.sg (evalO st.sl) o.dst o.op fun v add => k (St.put o.dst v ⟨st.sl, add ++ st.sg⟩) := by
 unfold hoistable at ho
 rw [Bool.and_eq_true] at ho
 have ho := ho.2
 unfold exec
 split at ho <;> rename_i hop <;> first | (rw [hop]; done) | (cases ho; done) | (split at ho <;> rename_i hc <;> first | (rw [hop]; simp only [hc]; done) | (cases ho; done))
theorem hoist_step (hE : Env.Ok P E) (h : Sim P B O w0 ρ st a w) {o : Oper} (ho : hoistable o = true) {s' : St} (hk : exec E call o st some = some s') :
  ∃ u ρ', (∀ w2, (execOp a.eval o).run P w2 = .ok (.value u) w2) ∧ Sim P B O w0 ρ' s' (a.put o.dst u) w := by
 rw [hoist_qop ho] at hk
 obtain ⟨u, hu⟩ := hoist_free hE h ho hk
 obtain ⟨v, add, u', w', h1, h2, h3⟩ := qop_sound hE h o hk
 obtain ⟨ρ2, hS⟩ := h.adds h3
 rw [hu w] at h2
 cases h2
 cases h1
 exact ⟨u, ρ2, hu, hS⟩
end
end Go.Proofs.Ytakmjjikiefheaa.Lib
namespace Go.Proofs.Ytakmjjikiefheaa.Lib
open Go Go.RowKit
set_option linter.unusedVariables false
set_option linter.unusedSimpArgs false
def nopO : Oper := { dst := none, op := .move (.const (.bool true)), type := 0, pos := "", after := #[], guard := none }
def badO : Oper := { dst := none, op := .ready 0, type := 0, pos := "", after := #[], guard := none }
def opAt (ops : Array Oper) (i : Nat) : Oper := (ops[i]?).getD badO
def depsIn (ops : Array Oper) (L : Array Bool) (i : Nat) : Bool := (opAt ops i).after.toList.all fun e => !Region.binds .any e || L.getD e.on false
def clSubs (ops : Array Oper) (skip : Nat → Bool) : List Nat → Array Bool → List (List Nat)
 | [], _ => [[]]
 | i :: r, L => (bif depsIn ops L i then (clSubs ops skip r (L.setIfInBounds i true)).map (i :: ·) else []) ++ (bif skip i then clSubs ops skip r L else [])
def skipB (ops : Array Oper) (L : Array Bool) (A : List Nat) (i : Nat) : Bool :=
 (List.range ops.size).any fun h => !L.getD h true && (!A.contains h && !((opAt ops h).after.toList.any fun e => Region.binds .any e && e.on == i))
def isLight (E : Env) (o : Oper) : Bool := headOk E o && !isSt o
def grow (E : Env) (ops : Array Oper) : List Nat → Array Bool → List Nat
 | [], _ => []
 | i :: r, L => bif !L.getD i true && isLight E (opAt ops i) && depsIn ops L i then i :: grow E ops r (L.setIfInBounds i true) else grow E ops r L
def lights (E : Env) (ops : Array Oper) (L : Array Bool) : List Nat := (List.range ops.size).filter fun i => (grow E ops (List.range ops.size) L).contains i
def setAll (L : Array Bool) : List Nat → Array Bool
 | [] => L
 | i :: r => setAll (L.setIfInBounds i true) r
def readsA (ops : Array Oper) (A : List Nat) : Bool :=
 A.all fun j => A.all fun k => match (opAt ops k).dst with
  | some t => (j == k || (opAt ops j).dst != some t) && (!((opn ops.toList (opAt ops j)).any fun x => match x with | .tmp u => u == t | _ => false) || (decide (k < j) && Region.waitsFor .any ops j k) || (decide (j < k) && Region.waitsFor .any ops k j))
  | none => true
def phaseB (E : Env) (ops : Array Oper) (L : Array Bool) (A : List Nat) : Bool :=
 A.all (fun i => isLight E (opAt ops i) && !L.getD i true && depsIn ops (setAll L A) i) && readsA ops A
def branch (ops : Array Oper) (A : List Nat) (next : Array Bool → List (List Nat)) (L : Array Bool) (D : List Nat) : List (List Nat) :=
 bif (Region.ready .any ops L).isEmpty then [D] else ((Region.ready .any ops L).filter fun h => !A.contains h).flatMap fun h => bif (opAt ops h).guard.isNone then (next (L.setIfInBounds h true)).map fun π => D ++ h :: π else [D ++ [ops.size]]
def hoistAt (ops : Array Oper) (L : Array Bool) : Option Nat := (List.range ops.size).find? fun i => hoistable (opAt ops i) && (Region.ready .any ops L).contains i && Region.free .any ops L i
def plans (E : Env) (ops : Array Oper) : Nat → Array Bool → List (List Nat)
 | 0, _ => [[ops.size]]
 | f + 1, L => match hoistAt ops L with
  | some i => (plans E ops f (L.setIfInBounds i true)).map (i :: ·)
  | none => bif phaseB E ops L (lights E ops L) then (clSubs ops (skipB ops L (lights E ops L)) (lights E ops L) L).flatMap fun D => branch ops (lights E ops L) (plans E ops f) (setAll L D) D else [[ops.size]]
section
variable {P : Program} {E : Env} {B : Nat} {O : Ow} {w0 w w' : World} {ρ ρ' : CEnv} {st : St} {a : Act} {R : Type} {r : R} {call : CallFn} {ops : Array Oper}
def vg1 (E : Env) (call : CallFn) (G : List Oper) (o : Oper) (st : St) (k : St → Option R) : Option R :=
 match o.guard with
 | none => exec E call o st k
 | some (j, want) => (match (G[j]?).bind (·.dst) with
   | some t => (match st.sl[t]? with
    | some (.one (.bool v)) => (match v with
     | true => bif want then exec E call o (st.put (some t) (.one (.bool true))) k else k ((st.put (some t) (.one (.bool true))).put o.dst (.tup []))
     | false => bif want then k ((st.put (some t) (.one (.bool false))).put o.dst (.tup [])) else exec E call o (st.put (some t) (.one (.bool false))) k)
    | some (.tup []) => k (st.put o.dst (.tup []))
    | _ => none)
   | none => none)
theorem vguard_cons {G : List Oper} {o : Oper} {l : List Oper} {st : St} {k : St → Option R} : vguard E call G (o :: l) st k = vg1 E call G o st fun s => vguard E call G l s k := rfl
theorem vguard_append {G : List Oper} : ∀ {l m : List Oper} {st : St} {k : St → Option R}, vguard E call G (l ++ m) st k = vguard E call G l st fun s => vguard E call G m s k
 | [], _, _, _ => rfl
 | o :: l, m, st, k => by
  rw [List.cons_append, vguard_cons, vguard_cons]
  congr 1
  funext s
  exact vguard_append
def lD (ops : Array Oper) (D : List Nat) : List Oper := (List.range ops.size).map fun i => bif D.contains i then opAt ops i else nopO
theorem vguard_lD {G : List Oper} {D : List Nat} : ∀ {l : List Nat} {st : St} {k : St → Option R}, vguard E call G (l.map fun i => bif D.contains i then opAt ops i else nopO) st k = vguard E call G ((l.filter D.contains).map (opAt ops)) st k
 | [], _, _ => rfl
 | i :: l, st, k => by
  rw [List.map_cons, vguard_cons]
  cases hd : D.contains i with
  | true =>
   rw [List.filter_cons_of_pos hd, List.map_cons, vguard_cons]
   simp only [cond_true]
   congr 1
   funext s
   exact vguard_lD
  | false =>
   rw [List.filter_cons_of_neg (by rw [hd]; simp)]
   simp only [cond_false]
   exact vguard_lD (l := l)
theorem opAt_some {i : Nat} {o : Oper} (h : ops[i]? = some o) : opAt ops i = o := by unfold opAt; rw [h]; rfl
theorem opAt_lt {i : Nat} (h : i < ops.size) : ops[i]? = some (opAt ops i) := by unfold opAt; rw [Array.getElem?_eq_getElem h]; rfl
theorem opAt_bad : opAt ops ops.size = badO := by unfold opAt; simp
theorem bad_run {G : List Oper} {l : List Oper} {st : St} {k : St → Option R} (h : vguard E call G (badO :: l) st k = some r) : False := by
 rw [vguard_cons] at h
 unfold vg1 exec badO at h
 simp only [qop] at h
 cases h
theorem lD_get {D : List Nat} {i : Nat} (h : i < ops.size) : (lD ops D)[i]? = some (bif D.contains i then opAt ops i else nopO) := by
 unfold lD
 rw [List.getElem?_map, List.getElem?_range h]
 rfl
theorem lD_len {D : List Nat} : (lD ops D).length = ops.size := by unfold lD; simp
theorem getD_set {L : Array Bool} {i j : Nat} : (L.setIfInBounds i true).getD j false = true ↔ L.getD j false = true ∨ (i = j ∧ i < L.size) := by
 by_cases hij : i = j
 ·subst hij
  by_cases hl : i < L.size
  ·simp [hl]
  ·have : L.getD i false = false := by simp [Array.getElem?_eq_none (Nat.le_of_not_lt hl)]
   simp [hl]
 ·rw [getD_set_ne false hij]
  simp [hij]
theorem setAll_size : ∀ {D : List Nat} {L : Array Bool}, (setAll L D).size = L.size
 | [], _ => rfl
 | i :: r, L => by rw [setAll, setAll_size]; simp
theorem setAll_get : ∀ {D : List Nat} {L : Array Bool} {j : Nat}, j < L.size → ((setAll L D).getD j false = true ↔ L.getD j false = true ∨ j ∈ D)
 | [], _, _, _ => by simp [setAll]
 | i :: r, L, j, hj => by
  rw [setAll, setAll_get (by simpa using hj), getD_set]
  constructor
  ·rintro ((h | ⟨rfl, _⟩) | h)
   ·exact .inl h
   ·exact .inr (List.mem_cons_self ..)
   ·exact .inr (List.mem_cons_of_mem _ h)
  ·rintro (h | h)
   ·exact .inl (.inl h)
   ·rcases List.mem_cons.1 h with rfl | h
    ·exact .inl (.inr ⟨rfl, hj⟩)
    ·exact .inr h
theorem clSubs_mem {p skip : Nat → Bool} : ∀ {l : List Nat} {L : Array Bool}, l.Pairwise (· < ·) → (∀ i ∈ l, i < L.size) →
  (∀ i ∈ l, p i = true → ∀ e ∈ (opAt ops i).after, Region.binds .any e = true → L.getD e.on false = true ∨ (e.on ∈ l ∧ p e.on = true ∧ e.on < i)) → (∀ i ∈ l, p i = false → skip i = true) → l.filter p ∈ clSubs ops skip l L
 | [], _, _, _, _, _ => by simp [clSubs]
 | i :: l, L, hs, hz, h, hk => by
  have hlt : ∀ {j}, j ∈ l → i < j := fun hj => List.rel_of_pairwise_cons hs hj
  simp only [clSubs, List.mem_append]
  cases hp : p i with
  | true =>
   left
   have hd : depsIn ops L i = true := by
    unfold depsIn
    rw [List.all_eq_true]
    intro e he
    cases hb : Region.binds .any e with
    | false => rfl
    | true =>
     rcases h i (List.mem_cons_self ..) hp e (by simpa using he) hb with h1 | ⟨h1, _, h2⟩
     ·simp only [Bool.not_true, Bool.false_or]; exact h1
     ·rcases List.mem_cons.1 h1 with h1 | h1
      ·omega
      ·have := hlt h1; omega
   rw [hd, cond_true, List.filter_cons_of_pos hp]
   refine List.mem_map.2 ⟨_, clSubs_mem (List.Pairwise.of_cons hs) (fun j hj => by simpa using hz j (List.mem_cons_of_mem _ hj)) (fun j hj hpj e he hb => ?_) (fun j hj => hk j (List.mem_cons_of_mem _ hj)), rfl⟩
   rcases h j (List.mem_cons_of_mem _ hj) hpj e he hb with h1 | ⟨h1, h2, h3⟩
   ·exact .inl (getD_set.2 (.inl h1))
   ·rcases List.mem_cons.1 h1 with h1 | h1
    ·exact .inl (getD_set.2 (.inr ⟨h1.symm, hz i (List.mem_cons_self ..)⟩))
    ·exact .inr ⟨h1, h2, h3⟩
  | false =>
   right
   rw [List.filter_cons_of_neg (by rw [hp]; simp), hk i (List.mem_cons_self ..) hp, cond_true]
   refine clSubs_mem (List.Pairwise.of_cons hs) (fun j hj => hz j (List.mem_cons_of_mem _ hj)) (fun j hj hpj e he hb => ?_) (fun j hj => hk j (List.mem_cons_of_mem _ hj))
   rcases h j (List.mem_cons_of_mem _ hj) hpj e he hb with h1 | ⟨h1, h2, h3⟩
   ·exact .inl h1
   ·rcases List.mem_cons.1 h1 with h1 | h1
    ·rw [h1, hp] at h2; cases h2
    ·exact .inr ⟨h1, h2, h3⟩
theorem lights_pair (L : Array Bool) : (lights E ops L).Pairwise (· < ·) := List.Pairwise.filter _ List.pairwise_lt_range
theorem lights_lt {L : Array Bool} {i : Nat} (h : i ∈ lights E ops L) : i < ops.size := List.mem_range.1 ((List.mem_filter.1 h).1)
theorem edges_lt (hed : edgesB ops.size ops = true) {i : Nat} (hi : i < ops.size) {e : Edge} (he : e ∈ (opAt ops i).after) (hb : Region.binds .any e = true) : e.on < i := by
 unfold edgesB at hed
 have := List.all_eq_true.1 hed i (List.mem_range.2 hi)
 rw [opAt_lt hi] at this
 have := List.all_eq_true.1 this e (by simpa using he)
 simpa [hb] using this
theorem getD_lt {L : Array Bool} {i : Nat} (h : L.getD i false = true) : i < L.size := by
 rcases Nat.lt_or_ge i L.size with h1 | h1
 ·exact h1
 ·simp [Array.getElem?_eq_none h1] at h
theorem phase_dep {A : List Nat} {L : Array Bool} (hed : edgesB ops.size ops = true) (hL : L.size = ops.size) (hA : ∀ i ∈ A, i < ops.size) (hp : phaseB E ops L A = true) {i : Nat} (hi : i ∈ A) {e : Edge} (he : e ∈ (opAt ops i).after) (hb : Region.binds .any e = true) :
  (L.getD e.on false = true ∨ e.on ∈ A) ∧ e.on < i := by
 refine ⟨?_, edges_lt hed (hA i hi) he hb⟩
 unfold phaseB at hp
 rw [Bool.and_eq_true, List.all_eq_true] at hp
 have h1 := hp.1 i hi
 simp only [Bool.and_eq_true] at h1
 have h2 := List.all_eq_true.1 h1.2 e (by simpa using he)
 simp only [hb, Bool.not_true, Bool.false_or] at h2
 have h3 := getD_lt h2
 rw [setAll_size] at h3
 exact (setAll_get h3).1 h2
theorem lights_all {L : Array Bool} (hed : edgesB ops.size ops = true) (hL : L.size = ops.size) (hp : phaseB E ops L (lights E ops L) = true) : lights E ops L ∈ clSubs ops (skipB ops L (lights E ops L)) (lights E ops L) L := by
 have := clSubs_mem (ops := ops) (p := fun _ => true) (skip := skipB ops L (lights E ops L)) (lights_pair L) (fun i hi => by rw [hL]; exact lights_lt hi) (L := L) (fun i hi _ e he hb => by
  obtain ⟨h1, h2⟩ := phase_dep hed hL (fun i hi => lights_lt hi) hp hi he hb
  exact h1.imp id fun h => ⟨h, rfl, h2⟩) (fun _ _ h => by cases h)
 rwa [List.filter_eq_self.2 (fun _ _ => rfl)] at this
theorem ready_set {L : Array Bool} {i : Nat} (h : i ∈ Region.ready .any ops L) (hL : L.size = ops.size) : L.getD i false = false ∧ i < ops.size := by
 have := (mem_ready.1 h).1
 refine ⟨getD_both this, ?_⟩
 obtain ⟨_, o, ho, _⟩ := mem_ready.1 h
 exact (Array.getElem?_eq_some_iff.1 ho).1
theorem none_ready (hed : edgesB ops.size ops = true) {L : Array Bool} (hL : L.size = ops.size) (h : Region.ready .any ops L = []) : ∀ i, i < ops.size → L.getD i false = true := by
 intro i
 induction i using Nat.strongRecOn with
 | ind i ih =>
  intro hi
  cases hu : L.getD i false with
  | true => rfl
  | false =>
   have : i ∈ Region.ready .any ops L := mem_ready.2 ⟨by rw [← hu]; simp [Array.getD, hL, hi], _, opAt_lt hi, fun e he hb => ih _ (edges_lt hed hi he hb) (Nat.lt_trans (edges_lt hed hi he hb) hi)⟩
   rw [h] at this
   cases this
theorem heavy_skip {L listed : Array Bool} {A : List Nat} {h : Nat} (hr : h ∈ Region.ready .any ops listed) (hA : h ∉ A) (hL : L.size = ops.size) (hLl : ∀ i, L.getD i false = true → listed.getD i false = true) : ∀ i ∈ A, listed.getD i false = false → skipB ops L A i = true := by
 intro i hi hu
 obtain ⟨hu', o, ho, haft⟩ := mem_ready.1 hr
 have hh := (Array.getElem?_eq_some_iff.1 ho).1
 have hb0 := getD_both hu'
 have hLh : L.getD h true = false := by
  have h1 : L.getD h false = false := by
   cases h2 : L.getD h false with
   | false => rfl
   | true => rw [hLl h h2] at hb0; cases hb0
  rw [← h1]; simp [Array.getD, hL, hh]
 unfold skipB
 rw [List.any_eq_true]
 refine ⟨h, List.mem_range.2 hh, ?_⟩
 rw [hLh, opAt_some ho]
 have hc : A.contains h = false := by
  cases hc : A.contains h with
  | false => rfl
  | true => exact absurd (by simpa using hc) hA
 rw [hc]
 simp only [Bool.not_false, Bool.true_and, Bool.not_eq_true', List.any_eq_false]
 intro e he hb
 rw [Bool.and_eq_true, beq_iff_eq] at hb
 have := haft e (by simpa using he) hb.1
 rw [hb.2, hu] at this
 cases this
theorem branch_ne {A : List Nat} {next : Array Bool → List (List Nat)} {L : Array Bool} (hn : ∀ L, L.size = ops.size → next L ≠ []) (hL : L.size = ops.size) (hA : ∀ i ∈ A, L.getD i false = true) {D : List Nat} : ∃ m, D ++ m ∈ branch ops A next L D := by
 unfold branch
 simp only [bifs]
 split
 ·exact ⟨[], by simp⟩
 ·rename_i hr
  cases hrs : Region.ready .any ops L with
  | nil => rw [hrs] at hr; simp at hr
  | cons h rs =>
   have hh : h ∈ Region.ready .any ops L := by rw [hrs]; exact List.mem_cons_self ..
   have hc : A.contains h = false := by
    cases hc : A.contains h with
    | false => rfl
    | true =>
     have h1 := hA h (by simpa using hc)
     rw [(ready_set hh hL).1] at h1
     cases h1
   cases hnx : next (L.setIfInBounds h true) with
   | nil => exact absurd hnx (hn _ (by simpa using hL))
   | cons π πs =>
    cases hgd : (opAt ops h).guard.isNone with
    | true => exact ⟨h :: π, List.mem_flatMap.2 ⟨h, List.mem_filter.2 ⟨List.mem_cons_self .., by simpa using hc⟩, by rw [hgd]; exact List.mem_map.2 ⟨π, by rw [hnx]; exact List.mem_cons_self .., rfl⟩⟩⟩
    | false => exact ⟨[ops.size], List.mem_flatMap.2 ⟨h, List.mem_filter.2 ⟨List.mem_cons_self .., by simpa using hc⟩, by rw [hgd]; exact List.mem_singleton.2 rfl⟩⟩
theorem plans_ne (hed : edgesB ops.size ops = true) : ∀ (f : Nat) (L : Array Bool), L.size = ops.size → plans E ops f L ≠ []
 | 0, _, _ => by simp [plans]
 | f + 1, L, hL => by
  simp only [plans]
  split
  ·rename_i i hi
   have := plans_ne hed f (L.setIfInBounds i true) (by simpa using hL)
   simpa using this
  ·simp only [bifs]
   split
   ·rename_i hp
    obtain ⟨m, hm⟩ := branch_ne (D := lights E ops L) (A := lights E ops L) (L := setAll L (lights E ops L)) (plans_ne hed f) (by rw [setAll_size]; exact hL) (fun i hi => (setAll_get (by rw [hL]; exact lights_lt hi)).2 (.inr hi))
    exact List.ne_nil_of_mem (List.mem_flatMap.2 ⟨_, lights_all hed hL hp, hm⟩)
   ·simp
def VD (E : Env) (call : CallFn) (ops : Array Oper) (st : St) (D : List Nat) : Prop := ∀ j, j < ops.size → ∃ o p, Val E call ops.toList (lD ops D) st j o p
theorem lD_all {D : List Nat} (hl : ∀ i ∈ D, isLight E (opAt ops i) = true) : ∀ o ∈ lD ops D, headOk E o = true ∧ isSt o = false := by
 intro o ho
 unfold lD at ho
 obtain ⟨i, hi, rfl⟩ := List.mem_map.1 ho
 cases hc : D.contains i with
 | true =>
  have := hl i (by simpa using hc)
  unfold isLight at this
  simp only [Bool.and_eq_true, Bool.not_eq_true'] at this
  exact this
 | false => exact ⟨rfl, rfl⟩
theorem lD_run {D : List Nat} {m : List Nat} {k : St → Option R} (hl : ∀ i ∈ D, isLight E (opAt ops i) = true) (hD : (List.range ops.size).filter D.contains = D) (h : vguard E call ops.toList ((D ++ m).map (opAt ops)) st k = some r) :
  VD E call ops st D ∧ vguard E call ops.toList (m.map (opAt ops)) (txt E call ops.toList (lD ops D) st ops.size) k = some r := by
 rw [List.map_append, vguard_append] at h
 have h1 : vguard E call ops.toList (lD ops D) st (fun s => vguard E call ops.toList (m.map (opAt ops)) s k) = some r := by
  unfold lD
  rw [vguard_lD, hD]
  exact h
 have hall := lD_all hl
 obtain ⟨h2, h3⟩ := head_run ops.size (by rw [lD_len]; exact Nat.le_refl _) (by
  rw [List.all_eq_true]
  intro o ho
  exact (hall o (List.mem_of_mem_take ho)).1) (fun j o hj ho hs => by
  rw [(hall o (List.mem_of_getElem? ho)).2] at hs
  cases hs) h1
 rw [List.drop_eq_nil_of_le (by rw [lD_len]; exact Nat.le_refl _)] at h2
 exact ⟨h3, h2⟩
theorem Stores.none {l : List Oper} {st : St} {n : Nat} {W : Nat → Nat → Bool} (hl : ∀ o ∈ l, isSt o = false) : Stores E call ops.toList l st n W := by
 have no : ∀ {j o p}, Val E call ops.toList l st j o p → isSt o = true → False := fun hv hs => by
  rw [hl _ (List.mem_of_getElem? hv.1)] at hs; cases hs
 exact ⟨fun j k o o' p p' i _ _ hv _ hs => (no hv hs).elim, fun j k o o' p p' i _ _ hv _ hs => (no hv hs).elim, fun j m o o' p i t v _ _ _ hv _ hs => (no hv hs).elim, fun j o p _ hv hs => (no hv hs).elim⟩
theorem lD_opn {D : List Nat} {j k t : Nat} {oj ok : Oper} (hj : j < ops.size) (hk : k < ops.size) (h1 : (lD ops D)[j]? = some oj) (h2 : (lD ops D)[k]? = some ok) (h3 : ok.dst = some t) :
  k ∈ D ∧ ok = opAt ops k ∧ (.tmp t ∈ opn ops.toList oj → j ∈ D ∧ oj = opAt ops j ∧ .tmp t ∈ opn ops.toList (opAt ops j)) := by
 rw [lD_get hj] at h1
 rw [lD_get hk] at h2
 cases h1; cases h2
 have hkd : D.contains k = true := by
  cases hc : D.contains k with
  | true => rfl
  | false => rw [hc] at h3; cases h3
 refine ⟨by simpa using hkd, by rw [hkd]; rfl, fun hm => ?_⟩
 cases hc : D.contains j with
 | true =>
  rw [hc] at hm
  exact ⟨by simpa using hc, rfl, hm⟩
 | false =>
  rw [hc] at hm
  simp [opn, tst, nopO, Op.operands] at hm
theorem phase_head {A : List Nat} {L : Array Bool} (hp : phaseB E ops L A = true) {D : List Nat} (hD : ∀ i ∈ D, i ∈ A) : HeadW E ops.toList (lD ops D) ops.size (fun a b => D.contains a && Region.waitsFor .any ops a b) := by
 unfold phaseB at hp
 rw [Bool.and_eq_true, List.all_eq_true] at hp
 have hl : ∀ i ∈ D, isLight E (opAt ops i) = true := fun i hi => by
  have := hp.1 i (hD i hi)
  simp only [Bool.and_eq_true] at this
  exact this.1.1
 have hr := hp.2
 unfold readsA at hr
 refine ⟨?_, fun j k oj ok t hj hk h1 h2 h3 h4 => ?_, fun j k oj ok t hj hk h1 h2 h3 h4 => ?_⟩
 ·rw [List.all_eq_true]
  intro o ho
  exact (lD_all hl o (List.mem_of_mem_take ho)).1
 ·obtain ⟨hkD, rfl, _⟩ := lD_opn hj hk h1 h2 h4
  obtain ⟨hjD, rfl, _⟩ := lD_opn hj hj h1 h1 h3
  have := List.all_eq_true.1 (List.all_eq_true.1 hr j (hD j hjD)) k (hD k hkD)
  simp only [h4, h3, Bool.and_eq_true, Bool.or_eq_true, beq_iff_eq, bne_iff_ne, ne_eq, not_true_eq_false, or_false] at this
  exact this.1
 ·obtain ⟨hkD, rfl, h5⟩ := lD_opn hj hk h1 h2 h3
  obtain ⟨hjD, rfl, h6⟩ := h5 h4
  have := List.all_eq_true.1 (List.all_eq_true.1 hr j (hD j hjD)) k (hD k hkD)
  simp only [h3, Bool.and_eq_true, Bool.or_eq_true, decide_eq_true_eq, Bool.not_eq_true'] at this
  have cj : D.contains j = true := by simpa using hjD
  have ck : D.contains k = true := by simpa using hkD
  rcases this.2 with (h | h) | h
  ·rw [List.any_eq_false] at h
   exact absurd (h _ h6) (by simp)
  ·exact .inl ⟨h.1, by rw [cj, h.2]; rfl⟩
  ·exact .inr ⟨h.1, by rw [ck, h.2]; rfl⟩
theorem Part.nops {D : List Nat} {st : St} {Lp : Nat → Prop} (h : ∀ j, j < ops.size → Lp j → j ∉ D) : Part E call ops.toList (lD ops D) st ops.size Lp st := by
 have nop : ∀ {j o p}, j < ops.size → Lp j → Val E call ops.toList (lD ops D) st j o p → o = nopO ∧ p.2 = [] := by
  intro j o p hj hl hv
  have hc : D.contains j = false := by
   cases hc : D.contains j with
   | true => exact absurd (by simpa using hc) (h j hj hl)
   | false => rfl
  have h1 := hv.1
  rw [lD_get hj, hc] at h1
  cases h1
  refine ⟨rfl, ?_⟩
  have h2 := hv.2.2.1
  simp only [cond_false, gop, sop, hop, nopO, qop] at h2
  cases h2
  rfl
 refine ⟨rfl, fun j o p t hj hl hv hd => ?_, fun t _ => rfl, fun i b => ⟨fun hb => .inr ⟨?_, .inl hb⟩, ?_⟩⟩
 ·rw [(nop hj hl hv).1] at hd; cases hd
 ·rintro b' ⟨j, o, p, hj, hl, hv, hs, _⟩
  rw [(nop hj hl hv).1] at hs; cases hs
 ·rintro (⟨j, o, p, hj, hl, hv, hs, _⟩ | ⟨_, hb | ⟨j, o, p, hj, hl, hv, hs, hg⟩⟩)
  ·rw [(nop hj hl hv).1] at hs; cases hs
  ·exact hb
  ·rw [(nop hj hl hv).2] at hg; cases hg
theorem wanted_un {o : Oper} {f : Nat → Option Bool} (h : o.guard = none) : Region.wanted o f = true := by simp [Region.wanted, h]
theorem plans_sound (hE : Env.Ok P E) (hC : CallOk P call) (hed : edgesB ops.size ops = true) (hns : Region.noSelect ops = true) {k : St → Option R} {Q : Exit → Act → World → Prop}
  (hnext : ∀ ρ' st' a' w', k st' = some r → Sim P B O w0 ρ' st' a' w' → Q .normal a' w') (hQ : ∀ c a w, ¬ Q (.panic c) a w) :
  ∀ (f : Nat) (L : Array Bool) (st : St) (ρ : CEnv) (a : Act) (w : World) (fuel : Nat), HeadInv .any ops ops.size L → cnt L ops.size = fuel → Sim P B O w0 ρ st a w →
   (∀ π ∈ plans E ops f L, vguard E call ops.toList (π.map (opAt ops)) st k = some r) → wpAny P .any ops Q fuel L a w := by
 intro f
 induction f with
 | zero =>
  intro L st ρ a w fuel inv hc hS h
  have := h [ops.size] (by simp [plans])
  rw [List.map_cons, opAt_bad] at this
  exact (bad_run this).elim
 | succ f ih =>
  intro L st ρ a w fuel inv hc hS h
  have hrun : ∀ {i : Nat} {s : St} {a : Act} {w : World} {ρ : CEnv} {n : Nat} {L : Array Bool}, HeadInv .any ops ops.size L → cnt L ops.size = n + 1 → i ∈ Region.ready .any ops L → cnt (L.setIfInBounds i true) ops.size = n := by
   intro i s a w ρ n L inv hc hi
   obtain ⟨h1, h2⟩ := ready_set hi inv.size
   have := cnt_set (listed := L) (i := i) (by rw [inv.size]; exact h2) h1 ops.size
   rw [if_pos h2] at this
   omega
  have hpos : ∀ {i : Nat} {L : Array Bool} {n : Nat}, HeadInv .any ops ops.size L → cnt L ops.size = n → i ∈ Region.ready .any ops L → ∃ m, n = m + 1 := by
   intro i L n inv hc hi
   obtain ⟨h1, h2⟩ := ready_set hi inv.size
   have := cnt_set (listed := L) (i := i) (by rw [inv.size]; exact h2) h1 ops.size
   rw [if_pos h2] at this
   exact ⟨n - 1, by omega⟩
  simp only [plans] at h
  split at h
  ·rename_i i hi
   have hp := List.find?_some hi
   simp only [Bool.and_eq_true] at hp
   obtain ⟨⟨h1, h2⟩, h3⟩ := hp
   have hr : i ∈ Region.ready .any ops L := by simpa using h2
   obtain ⟨hu, hin⟩ := ready_set hr inv.size
   obtain ⟨m, rfl⟩ := hpos inv hc hr
   have hall : ∀ π ∈ plans E ops f (L.setIfInBounds i true), ∃ s', exec E call (opAt ops i) st some = some s' ∧ vguard E call ops.toList (π.map (opAt ops)) s' k = some r := by
    intro π hπ
    have := h (i :: π) (List.mem_map.2 ⟨π, hπ, rfl⟩)
    rw [List.map_cons, vguard_cons] at this
    have hgn : (opAt ops i).guard = none := by unfold hoistable at h1; rw [Bool.and_eq_true] at h1; exact Option.isNone_iff_eq_none.1 h1.1
    unfold vg1 at this
    simp only [hgn] at this
    exact exec_par this
   cases hpl : plans E ops f (L.setIfInBounds i true) with
   | nil => exact absurd hpl (plans_ne hed f _ (by simpa using inv.size))
   | cons π0 πs =>
    obtain ⟨s', hs, _⟩ := hall π0 (by rw [hpl]; exact List.mem_cons_self ..)
    obtain ⟨u, ρ', hy, hS'⟩ := hoist_step hE hS h1 hs
    refine wpAny_take (opAt_lt hin) hns h3 h2 (fun c a w hq => (hQ _ _ _ hq).elim) (.inl ⟨wanted_un (by unfold hoistable at h1; rw [Bool.and_eq_true] at h1; exact Option.isNone_iff_eq_none.1 h1.1), hy⟩) ?_
    refine ih _ s' ρ' _ w m (inv.set hr hin) (hrun (s := st) (a := a) (w := w) (ρ := ρ) inv hc hr) hS' fun π hπ => ?_
    obtain ⟨s2, h4, h5⟩ := hall π hπ
    rw [hs] at h4
    cases h4
    exact h5
  ·simp only [bifs] at h
   split at h
   case isFalse =>
    have := h [ops.size] (by simp)
    rw [List.map_cons, opAt_bad] at this
    exact (bad_run this).elim
   rename_i hp
   generalize hAe : lights E ops L = A at h hp
   have hAlt : ∀ i ∈ A, i < ops.size := fun i hi => by rw [← hAe] at hi; exact lights_lt hi
   have hpair : A.Pairwise (· < ·) := by rw [← hAe]; exact lights_pair L
   have hnd : A.Nodup := hpair.imp (fun h => Nat.ne_of_lt h)
   have hAr : ∀ q : Nat → Bool, (List.range ops.size).filter (A.filter q).contains = A.filter q := by
    intro q
    rw [← hAe]
    unfold lights
    rw [List.filter_filter]
    apply List.filter_congr
    intro i hi
    rw [Bool.eq_iff_iff]
    simp only [List.contains_iff_mem, List.mem_filter, Bool.and_eq_true, hi, true_and]
   have hph := hp
   unfold phaseB at hph
   rw [Bool.and_eq_true, List.all_eq_true] at hph
   have hlt : ∀ i ∈ A, isLight E (opAt ops i) = true ∧ L.getD i false = false := fun i hi => by
    have := hph.1 i hi
    simp only [Bool.and_eq_true, Bool.not_eq_true'] at this
    exact ⟨this.1.1, getD_both this.1.2⟩
   have hlq : ∀ q : Nat → Bool, ∀ i ∈ A.filter q, isLight E (opAt ops i) = true := fun q i hi => (hlt i (List.mem_filter.1 hi).1).1
   have hHW : ∀ q : Nat → Bool, HeadW E ops.toList (lD ops (A.filter q)) ops.size (fun a b => (A.filter q).contains a && Region.waitsFor .any ops a b) := fun q => phase_head hp fun i hi => (List.mem_filter.1 hi).1
   have hSO : ∀ (q : Nat → Bool) W, Stores E call ops.toList (lD ops (A.filter q)) st ops.size W := fun q W => Stores.none fun o ho => (lD_all (hlq q) o ho).2
   have final : ∀ (listed : Array Bool) (a : Act) (w : World) (ρ : CEnv) (s : St), (∀ i ∈ A, listed.getD i false = false → skipB ops L A i = true) → HeadInv .any ops ops.size listed → (∀ i, L.getD i false = true → listed.getD i false = true) → (∀ i, listed.getD i false = true → L.getD i false = true ∨ i ∈ A) → Sim P B O w0 ρ s a w →
     (∀ q : Nat → Bool, A.filter q ∈ clSubs ops (skipB ops L A) A L → (∀ i ∈ A, listed.getD i false = true → q i = true) → VD E call ops st (A.filter q) → Part E call ops.toList (lD ops (A.filter q)) st ops.size (fun i => listed.getD i false = true ∨ ¬ (i ∈ A ∧ q i = true)) s) →
     ∀ m, (∃ m', A.filter (fun i => listed.getD i false) ++ m' ∈ branch ops A (plans E ops f) listed (A.filter (fun i => listed.getD i false)) ∧ m' = m) →
      ∃ s', Sim P B O w0 ρ s' a w ∧ s' = txt E call ops.toList (lD ops (A.filter fun i => listed.getD i false)) st ops.size ∧ vguard E call ops.toList (m.map (opAt ops)) s' k = some r := by
    intro listed a w ρ s hskip inv' hL1 hL2 hS' hpart m hm
    obtain ⟨m', hm, rfl⟩ := hm
    have hsub : A.filter (fun i => listed.getD i false) ∈ clSubs ops (skipB ops L A) A L := by
     refine clSubs_mem hpair (fun i hi => by rw [inv.size]; exact hAlt i hi) (fun i hi hpi e he hb => ?_) hskip
     obtain ⟨h1, h2⟩ := phase_dep hed inv.size hAlt hp hi he hb
     rcases h1 with h1 | h1
     ·exact .inl h1
     ·exact .inr ⟨h1, inv'.closed i _ (opAt_lt (hAlt i hi)) hpi e he hb, h2⟩
    have hset : setAll L (A.filter fun i => listed.getD i false) = listed := by
     apply Array.ext
     ·rw [setAll_size, inv.size, inv'.size]
     ·intro i h1 h2
      have h3 : i < L.size := by rw [setAll_size] at h1; exact h1
      have := setAll_get (D := A.filter fun i => listed.getD i false) h3
      have h4 : (setAll L (A.filter fun i => listed.getD i false)).getD i false = listed.getD i false := by
       rw [Bool.eq_iff_iff, this]
       constructor
       ·rintro (h | h)
        ·exact hL1 i h
        ·exact (List.mem_filter.1 h).2
       ·intro h
        rcases hL2 i h with h5 | h5
        ·exact .inl h5
        ·exact .inr (List.mem_filter.2 ⟨h5, h⟩)
      have e1 : (setAll L (A.filter fun i => listed.getD i false)).getD i false = (setAll L (A.filter fun i => listed.getD i false))[i] := by rw [Array.getD, dif_pos h1]; rfl
      have e2 : listed.getD i false = listed[i] := by rw [Array.getD, dif_pos h2]; rfl
      rw [← e1, ← e2]
      exact h4
    have hr := h _ (List.mem_flatMap.2 ⟨_, hsub, by rw [hset]; exact hm⟩)
    obtain ⟨hVD, hrun'⟩ := lD_run (hlq _) (hAr _) hr
    have hpt := hpart _ hsub (fun i _ h => h) hVD
    obtain ⟨h1, h2⟩ := Part.same hVD hpt (txt_part (hHW _) (hSO _ _) hVD ops.size (Nat.le_refl _)) (fun j hj => by
     by_cases hjl : listed.getD j false = true
     ·exact .inl hjl
     ·exact .inr fun h => hjl h.2) (fun j hj => hj)
    exact ⟨_, hS'.same h1 h2, rfl, hrun'⟩
   have main : ∀ (fuel : Nat) (listed : Array Bool) (a : Act) (w : World) (ρ : CEnv) (s : St), HeadInv .any ops ops.size listed → cnt listed ops.size = fuel → (∀ i, L.getD i false = true → listed.getD i false = true) → (∀ i, listed.getD i false = true → L.getD i false = true ∨ i ∈ A) → Sim P B O w0 ρ s a w →
     (∀ q : Nat → Bool, A.filter q ∈ clSubs ops (skipB ops L A) A L → (∀ i ∈ A, listed.getD i false = true → q i = true) → VD E call ops st (A.filter q) → Part E call ops.toList (lD ops (A.filter q)) st ops.size (fun i => listed.getD i false = true ∨ ¬ (i ∈ A ∧ q i = true)) s) →
     wpAny P .any ops Q fuel listed a w := by
    intro fuel
    have done : ∀ (listed : Array Bool) (a : Act) (w : World) (ρ : CEnv) (s : St), HeadInv .any ops ops.size listed → (∀ i, L.getD i false = true → listed.getD i false = true) → (∀ i, listed.getD i false = true → L.getD i false = true ∨ i ∈ A) → Sim P B O w0 ρ s a w →
      (∀ q : Nat → Bool, A.filter q ∈ clSubs ops (skipB ops L A) A L → (∀ i ∈ A, listed.getD i false = true → q i = true) → VD E call ops st (A.filter q) → Part E call ops.toList (lD ops (A.filter q)) st ops.size (fun i => listed.getD i false = true ∨ ¬ (i ∈ A ∧ q i = true)) s) →
      Region.ready .any ops listed = [] → Q .normal a w := by
     intro listed a w ρ s inv' hL1 hL2 hS' hpart hre
     obtain ⟨s', h1, h2, h3⟩ := final listed a w ρ s (fun i hi hu => by rw [none_ready hed inv'.size hre i (hAlt i hi)] at hu; cases hu) inv' hL1 hL2 hS' hpart [] ⟨[], by unfold branch; rw [hre]; simp, rfl⟩
     exact hnext ρ s' a w h3 h1
    induction fuel with
    | zero =>
     intro listed a w ρ s inv' hc' hL1 hL2 hS' hpart
     have hre : Region.ready .any ops listed = [] := by
      cases hrs : Region.ready .any ops listed with
      | nil => rfl
      | cons i rs =>
       have hi : i ∈ Region.ready .any ops listed := by rw [hrs]; exact List.mem_cons_self ..
       obtain ⟨h1, h2⟩ := ready_set hi inv'.size
       rw [cnt_zero hc' i h2] at h1
       cases h1
     exact ⟨hre, done listed a w ρ s inv' hL1 hL2 hS' hpart hre⟩
    | succ fuel ihf =>
     intro listed a w ρ s inv' hc' hL1 hL2 hS' hpart
     refine ⟨done listed a w ρ s inv' hL1 hL2 hS' hpart, fun i hi => ?_⟩
     obtain ⟨hu, hin⟩ := ready_set hi inv'.size
     obtain ⟨hu', oi, hoi, haft⟩ := mem_ready.1 hi
     have : oi = opAt ops i := (opAt_some hoi).symm
     subst this
     by_cases hiA : i ∈ A
     ·have step : ∀ q : Nat → Bool, A.filter q ∈ clSubs ops (skipB ops L A) A L → (∀ x ∈ A, listed.getD x false = true → q x = true) → VD E call ops st (A.filter q) → q i = true →
        ∃ p, Val E call ops.toList (lD ops (A.filter q)) st i (opAt ops i) p ∧ gop E call ops.toList s.sg (evalO s.sl) (opAt ops i) = some p ∧ (∀ x ∈ p.2, s.sg.get x.1 = none) := by
       intro q hq hdn hVD hqi
       have hpq := hpart q hq hdn hVD
       obtain ⟨o, p, hv⟩ := hVD i hin
       have hci : (A.filter q).contains i = true := by
        rw [List.contains_iff_mem]
        exact List.mem_filter.2 ⟨hiA, hqi⟩
       have ho := hv.1
       rw [lD_get hin, hci] at ho
       cases ho
       simp only [cond_true] at hv
       have hli := hlq q i (List.mem_filter.2 ⟨hiA, hqi⟩)
       unfold isLight at hli
       simp only [Bool.and_eq_true, Bool.not_eq_true'] at hli
       obtain ⟨g1, g2, _⟩ := part_hop (hHW q) (hSO q _) hVD hpq hin hv (by rw [hu]; simp [hiA, hqi]) (fun x y hx hy hxl hxy => by
        rw [Bool.and_eq_true] at hxy
        obtain ⟨oj, hoj, e, he, hbd, hon⟩ := Region.waitsFor_spec hxy.2
        rcases hxl with hxl | hxl
        ·rw [← hon]
         exact .inl (inv'.closed x oj hoj hxl e he hbd)
        ·exact absurd (List.mem_filter.1 (by simpa using hxy.1)) hxl) (fun y hy hxy => by
        rw [Bool.and_eq_true] at hxy
        obtain ⟨oj, hoj, e, he, hbd, hon⟩ := Region.waitsFor_spec hxy.2
        have : oj = opAt ops i := Option.some.inj (hoj.symm.trans hoi)
        subst this
        rw [← hon]
        exact .inl (haft e he hbd)) hS'.dom
       exact ⟨p, hv, g1, g2 hli.2⟩
      have hsubA : A.filter (fun _ => true) ∈ clSubs ops (skipB ops L A) A L := by
       refine clSubs_mem hpair (fun i hi => by rw [inv.size]; exact hAlt i hi) (fun i hi _ e he hb => ?_) (fun _ _ h => by cases h)
       obtain ⟨h1, h2⟩ := phase_dep hed inv.size hAlt hp hi he hb
       exact h1.imp id fun h => ⟨h, rfl, h2⟩
      have hVDA : VD E call ops st (A.filter fun _ => true) := by
       obtain ⟨m, hm⟩ := branch_ne (D := A.filter fun _ => true) (A := A) (L := setAll L (A.filter fun _ => true)) (plans_ne (E := E) hed f) (by rw [setAll_size]; exact inv.size) (fun i hi => (setAll_get (by rw [inv.size]; exact hAlt i hi)).2 (.inr (List.mem_filter.2 ⟨hi, rfl⟩)))
       exact (lD_run (hlq _) (hAr _) (h _ (List.mem_flatMap.2 ⟨_, hsubA, hm⟩))).1
      obtain ⟨p, hv, hgo, hfr⟩ := step _ hsubA (fun _ _ _ => rfl) hVDA rfl
      have hli := (hlt i hiA).1
      unfold isLight at hli
      simp only [Bool.and_eq_true, Bool.not_eq_true'] at hli
      have next : ∀ ρ' a' w', Sim P B O w0 ρ' (aft (opAt ops i) p s) a' w' → wpAny P .any ops Q fuel (listed.setIfInBounds i true) a' w' := by
       intro ρ' a' w' h'
       refine ihf _ a' w' ρ' _ (inv'.set hi hin) (hrun (s := st) (a := a) (w := w) (ρ := ρ) inv' hc' hi) (fun x hx => getD_set.2 (.inl (hL1 x hx))) (fun x hx => ?_) h' fun q hq hdn hVD => ?_
       ·rcases getD_set.1 hx with hx | ⟨rfl, _⟩
        ·exact hL2 x hx
        ·exact .inr hiA
       ·have hqi : q i = true := hdn i hiA (getD_set.2 (.inr ⟨rfl, by rw [inv'.size]; exact hin⟩))
        have hdn' : ∀ x ∈ A, listed.getD x false = true → q x = true := fun x hx hxl => hdn x hx (getD_set.2 (.inl hxl))
        obtain ⟨p', hv', hgo', _⟩ := step q hq hdn' hVD hqi
        rw [hgo] at hgo'
        cases hgo'
        refine (hpart q hq hdn' hVD).step (hSO q (fun _ _ => true)) hin (by rw [hu]; simp [hiA, hqi]) hv' (fun x => ?_) (fun x o' t hx h1 h2 h3 => (hHW q).uniq x i o' _ t hx hin h1 hv'.1 h2 h3) (fun _ => hfr) (fun _ x o' p' y hx _ hvx hso _ => ?_)
        ·rw [getD_set]
         constructor
         ·rintro ((h | ⟨h, _⟩) | h)
          ·exact .inl (.inl h)
          ·exact .inr h.symm
          ·exact .inl (.inr h)
         ·rintro ((h | h) | h)
          ·exact .inl (.inl h)
          ·exact .inr h
          ·exact .inl (.inr ⟨h.symm, by rw [inv'.size]; exact hin⟩)
        ·rw [(lD_all (hlq q) o' (List.mem_of_getElem? hvx.1)).2] at hso
         cases hso
      unfold wpOp
      simp only [hoi]
      rcases wanted_gop hS' hli.1 hgo with ⟨hw, hh⟩ | ⟨hw, hnst, rfl⟩
      ·rw [if_pos hw]
       have hex : exec E call (opAt ops i) s some = some (aft (opAt ops i) p s) := by
        rw [sop_ns hli.2] at hh
        rw [hop_exec (R := St) hli.1 hh some, aft_ns hli.2]
       refine .inl (exec_sound hE hC hS' (opAt ops i) hex fun ρ' st' a' w' heq h' => ?_)
       cases heq
       exact next ρ' a' w' h'
      ·rw [if_neg (by rw [hw]; simp)]
       refine next ρ _ w ?_
       rw [aft_ns hnst]
       exact hS'.put (opAt ops i).dst (v := .tup []) (u := undef) ⟨[], rfl, .nil⟩ (fun d hd => by cases hd)
     ·obtain ⟨π0, πs, hpl⟩ : ∃ π0 πs, plans E ops f (listed.setIfInBounds i true) = π0 :: πs := by
       cases hpl : plans E ops f (listed.setIfInBounds i true) with
       | nil => exact absurd hpl (plans_ne hed f _ (by simpa using inv'.size))
       | cons π0 πs => exact ⟨_, _, rfl⟩
      have hgd : (opAt ops i).guard.isNone = true := by
       cases hgd : (opAt ops i).guard.isNone with
       | true => rfl
       | false =>
        exfalso
        obtain ⟨s', _, _, h3⟩ := final listed a w ρ s (heavy_skip hi hiA inv.size hL1) inv' hL1 hL2 hS' hpart [ops.size] ⟨_, by
         unfold branch
         have hne : (Region.ready .any ops listed).isEmpty = false := by
          cases hrs : Region.ready .any ops listed with
          | nil => rw [hrs] at hi; cases hi
          | cons x xs => rfl
         rw [hne]
         exact List.mem_flatMap.2 ⟨i, List.mem_filter.2 ⟨hi, by simpa using hiA⟩, by rw [hgd]; exact List.mem_singleton.2 rfl⟩, rfl⟩
        rw [List.map_cons, opAt_bad] at h3
        exact bad_run h3
      have hgn : (opAt ops i).guard = none := Option.isNone_iff_eq_none.1 hgd
      have hw : ∀ f, Region.wanted (opAt ops i) f = true := fun f => wanted_un hgn
      have hbr : ∀ π ∈ plans E ops f (listed.setIfInBounds i true), A.filter (fun i => listed.getD i false) ++ (i :: π) ∈ branch ops A (plans E ops f) listed (A.filter (fun i => listed.getD i false)) := by
       intro π hπ
       unfold branch
       have hne : (Region.ready .any ops listed).isEmpty = false := by
        cases hrs : Region.ready .any ops listed with
        | nil => rw [hrs] at hi; cases hi
        | cons x xs => rfl
       rw [hne]
       exact List.mem_flatMap.2 ⟨i, List.mem_filter.2 ⟨hi, by simpa using hiA⟩, by rw [hgd]; exact List.mem_map.2 ⟨π, hπ, rfl⟩⟩
      have hall : ∀ π ∈ plans E ops f (listed.setIfInBounds i true), ∃ s', exec E call (opAt ops i) (txt E call ops.toList (lD ops (A.filter fun i => listed.getD i false)) st ops.size) some = some s' ∧ vguard E call ops.toList (π.map (opAt ops)) s' k = some r := by
       intro π hπ
       obtain ⟨s', h1, h2, h3⟩ := final listed a w ρ s (heavy_skip hi hiA inv.size hL1) inv' hL1 hL2 hS' hpart (i :: π) ⟨_, hbr π hπ, rfl⟩
       subst h2
       rw [List.map_cons, vguard_cons] at h3
       unfold vg1 at h3
       simp only [hgn] at h3
       exact exec_par h3
      obtain ⟨s0, hS0, rfl, _⟩ := final listed a w ρ s (heavy_skip hi hiA inv.size hL1) inv' hL1 hL2 hS' hpart (i :: π0) ⟨_, hbr π0 (by rw [hpl]; exact List.mem_cons_self ..), rfl⟩
      obtain ⟨s1, hs1, _⟩ := hall π0 (by rw [hpl]; exact List.mem_cons_self ..)
      unfold wpOp
      simp only [hoi, hw, if_true]
      refine .inl (exec_sound hE hC hS0 (opAt ops i) hs1 fun ρ' st' a' w' heq h' => ?_)
      cases heq
      refine ih _ s1 ρ' a' w' fuel (inv'.set hi hin) (hrun (s := st) (a := a) (w := w) (ρ := ρ) inv' hc' hi) h' fun π hπ => ?_
      obtain ⟨s2, h4, h5⟩ := hall π hπ
      rw [hs1] at h4
      cases h4
      exact h5
   refine main fuel L a w ρ st inv hc (fun _ h => h) (fun _ h => .inl h) hS fun q hq _ hVD => ?_
   refine Part.nops fun j hj hl hm => ?_
   obtain ⟨h1, h2⟩ := List.mem_filter.1 hm
   rcases hl with hl | hl
   ·rw [(hlt j h1).2] at hl; cases hl
   ·exact hl ⟨h1, h2⟩
def planB (ops : Array Oper) : Bool := edgesB ops.size ops && Region.noSelect ops
theorem region_plans (hE : Env.Ok P E) (hC : CallOk P call) (hm : P.follows .mixedOrders = true) {id : Nat} {k : St → Option R} {Q : Exit → Act → World → Prop} (hb : planB ops = true) (hS : Sim P B O w0 ρ st a w)
  (h : ∀ π ∈ plans E ops (ops.size + 1) (Array.replicate ops.size false), vguard E call ops.toList (π.map (opAt ops)) st k = some r)
  (hnext : ∀ ρ' st' a' w', k st' = some r → Sim P B O w0 ρ' st' a' w' → Q .normal a' w') : (Code.region id ops true).wp P Q a w := by
 unfold planB at hb
 simp only [Bool.and_eq_true] at hb
 refine wp_mono (Q := fun e a w => e = .normal ∧ Q .normal a w) (wp_region_any hm ?_) fun e a w hq => by obtain ⟨rfl, hq⟩ := hq; exact hq
 exact plans_sound hE hC hb.1 hb.2 (fun ρ' st' a' w' h1 h2 => ⟨rfl, hnext ρ' st' a' w' h1 h2⟩) (fun c a w hq => by cases hq.1) _ _ st ρ a _ _
  ⟨by simp, fun j oj _ hl => (by rw [getD_replicate_false] at hl; cases hl), fun t _ ht => getD_in (by simpa using ht) (getD_replicate_false _ _)⟩ (cnt_none _ _)
  (hS.below ⟨rfl, rfl, rfl, Nat.le_refl _, fun _ _ => rfl⟩) h
end
end Go.Proofs.Ytakmjjikiefheaa.Lib
namespace Go.Proofs.Ytakmjjikiefheaa.Lib
open Go Go.RowKit Go.WideShapes
set_option linter.unusedVariables false
set_option linter.unusedSimpArgs false
abbrev here (w : World) : Nat → Prop := fun g => g < w.heap.size
def Ty.ok : (t : Ty) → t.T → Prop
 | .int k, n => (Lit.int k n).wf = true
 | .bool, _ => True
 | .str, s => s.size ≤ 9223372036854775807
 | .sl _ t, l => (∀ x, x ∈ l → t.ok x) ∧ l.length ≤ 9223372036854775807
 | .pair a b, p => a.ok p.1 ∧ b.ok p.2
 | .nul _, _ => True
def Opens (P : Program) (t : TypeId) (d : Ty) : Prop :=
 ∀ (H : Type) (enc : TypeId × Value → H) (w : World) (base : Nat) (spare : Nat → Bool) (held : Bool) (fuel : Nat) (cs : List Value) (x : DataW H × List MemPlace),
  DataW.trod enc P w base spare held fuel t cs = some x → ∃ y : d.T, Rp (here w) w d y cs ∧ d.ok y
theorem opens_int {P : Program} {t : TypeId} {k : IntKind} (ht : P.underlying t = some (.int k)) : Opens P t (.int k) := by
 intro H enc w base spare held fuel cs x h
 obtain ⟨n, rfl, _, hw⟩ := DataW.trod_int ht h
 exact ⟨n, by simp only [Rp], hw⟩
theorem opens_bool {P : Program} {t : TypeId} (ht : P.underlying t = some .bool) : Opens P t .bool := by
 intro H enc w base spare held fuel cs x h
 obtain ⟨b, rfl, _⟩ := DataW.trod_bool ht h
 exact ⟨b, by simp only [Rp], trivial⟩
theorem collect {α : Type} {Q : Nat → α → Prop} : ∀ n : Nat, (∀ i, i < n → ∃ y, Q i y) → ∃ ys : List α, ys.length = n ∧ ∀ (i : Nat) (y : α), ys[i]? = some y → Q i y
 | 0, _ => ⟨[], rfl, fun i y h => by simp at h⟩
 | n + 1, h => by
  obtain ⟨ys, hl, hys⟩ := collect n (fun i hi => h i (by omega))
  obtain ⟨y, hy⟩ := h n (by omega)
  refine ⟨ys ++ [y], by simp [hl], fun i z hz => ?_⟩
  by_cases hi : i < ys.length
  ·rw [List.getElem?_append_left hi] at hz
   exact hys i z hz
  ·rw [List.getElem?_append_right (by omega)] at hz
   have : i - ys.length = 0 := by
    rcases Nat.eq_zero_or_pos (i - ys.length) with e | e
    ·exact e
    ·rw [List.getElem?_eq_none (by simp; omega)] at hz
     exact absurd hz (by simp)
   rw [this] at hz
   simp at hz
   subst hz
   rw [show i = n by omega]
   exact hy
theorem cells_get {w : World} {base : Nat} {a : Addr} {n : Nat} {c : List Value} (h : w.cells? base a n = some c) : c.length = n ∧ ∀ (i : Nat) (u : Value), c[i]? = some u → w.cell? (a.add i) = some u := by
 unfold World.cells? at h
 split at h
 ·have hl := mapM_some_length h
  rw [List.length_range] at hl
  refine ⟨hl, fun i u hi => ?_⟩
  have hlt : i < n := by
   have := (List.getElem?_eq_some_iff.1 hi).1
   omega
  have := mapM_some_get h i i (by rw [List.getElem?_range hlt])
  rw [this, hi]
 ·exact absurd h (by simp)
theorem cell_here {w : World} {a : Addr} {u : Value} (h : w.cell? a = some u) : a.block < w.heap.size := by
 unfold World.cell? at h
 rcases Nat.lt_or_ge a.block w.heap.size with h' | h'
 ·exact h'
 ·rw [Array.getElem?_eq_none h'] at h
  cases h
theorem opens_slice {P : Program} {t e : TypeId} {d : Ty} (ht : P.underlying t = some (.slice e)) (hsz : P.cellsOf e = d.sz) (he : Opens P e d) : Opens P t (.sl e d) := by
 intro H enc w base spare held fuel cs x h
 rcases DataW.trod_slice ht h with ⟨rfl, _⟩ | ⟨a, len, cap, elems, rest, n, _, rfl, _, _, hl, hm, hlen, hel, _, _⟩
 ·refine ⟨[], ?_, fun x hx => by simp at hx, by simp⟩
  simp only [Rp]
  exact ⟨none, 0, rfl, Nat.le_refl _, Nat.zero_le _, fun h => absurd h (by simp)⟩
 ·obtain ⟨ys, hyl, hys⟩ := collect (α := d.T) (Q := fun i y => d.ok y ∧ ∃ c, c.length = d.sz ∧ Rp (here w) w d y c ∧ ∀ (q : Nat) (u : Value), c[q]? = some u → w.cell? (a.add (i * d.sz + q)) = some u) len (fun i hi => by
   have h1 := hel i hi
   rw [List.getElem?_eq_getElem (by omega), Option.bind_eq_some_iff] at h1
   obtain ⟨c, hc, hx⟩ := h1
   obtain ⟨y, hy, hok⟩ := he H enc w base spare held n c _ hx
   obtain ⟨_, hcg⟩ := cells_get hc
   refine ⟨y, hok, c, hy.len, hy, fun q u hq => ?_⟩
   have := hcg q u hq
   rwa [addr_add_add, hsz] at this)
  have hmax : len ≤ 9223372036854775807 := Nat.le_trans hl hm
  refine ⟨ys, ?_, fun y hy => ?_, by omega⟩
  ·simp only [Rp]
   refine ⟨some a, cap, by rw [hyl], by omega, hm, fun hpos => ⟨a, rfl, ?_, fun j p hj => (hys j p hj).2⟩⟩
   obtain ⟨_, c, hc, _, hq⟩ := hys 0 ys[0] (List.getElem?_eq_getElem hpos)
   have h0 := hq 0 _ (List.getElem?_eq_getElem (by rw [hc]; exact d.sz_pos))
   have := cell_here h0
   rwa [add_block] at this
  ·obtain ⟨i, hi⟩ := List.getElem?_of_mem hy
   exact (hys i y hi).1
def Walk (P : Program) (T : TypeId → List Value → Prop) : List TypeId → List Value → Prop
 | [], cs => cs = []
 | t :: ts, cs => T t (cs.take (P.cellsOf t)) ∧ Walk P T ts (cs.drop (P.cellsOf t))
def offsOk (P : Program) (total : Nat) : Nat → List Field → Bool
 | o, [] => o == total
 | o, f :: fs => f.offset == o && offsOk P total (o + P.cellsOf f.type) fs
theorem walk_of {P : Program} {T : TypeId → List Value → Prop} {cs : List Value} : ∀ (fs : List Field) (o : Nat), offsOk P cs.length o fs = true →
  (∀ f, f ∈ fs → T f.type ((cs.drop f.offset).take (P.cellsOf f.type))) → Walk P T (fs.map (·.type)) (cs.drop o)
 | [], o, ho, _ => by
  have : o = cs.length := by simpa [offsOk] using ho
  subst this
  simp [Walk]
 | f :: fs, o, ho, h => by
  simp only [offsOk, Bool.and_eq_true, beq_iff_eq] at ho
  obtain ⟨h1, h2⟩ := ho
  refine ⟨?_, ?_⟩
  ·have := h f List.mem_cons_self
   rwa [h1] at this
  ·rw [List.drop_drop]
   exact walk_of fs (o + P.cellsOf f.type) h2 (fun g hg => h g (List.mem_cons_of_mem _ hg))
def OpensW (P : Program) (ts : List TypeId) (d : Ty) : Prop :=
 ∀ (H : Type) (enc : TypeId × Value → H) (w : World) (base : Nat) (spare : Nat → Bool) (held : Bool) (fuel : Nat) (cs : List Value),
  Walk P (fun t c => ∃ x, DataW.trod enc P w base spare held fuel t c = some x) ts cs → ∃ y : d.T, Rp (here w) w d y cs ∧ d.ok y
theorem opensW_one {P : Program} {t : TypeId} {d : Ty} (h : Opens P t d) : OpensW P [t] d := by
 intro H enc w base spare held fuel cs hw
 obtain ⟨⟨x, hx⟩, hd⟩ := hw
 have hcs : cs.take (P.cellsOf t) = cs := by
  rw [List.take_of_length_le]
  have := congrArg List.length hd
  rw [List.length_drop, List.length_nil] at this
  omega
 rw [hcs] at hx
 exact h H enc w base spare held fuel cs x hx
theorem opensW_cons {P : Program} {t : TypeId} {ts : List TypeId} {d d' : Ty} (h : Opens P t d) (h' : OpensW P ts d') : OpensW P (t :: ts) (.pair d d') := by
 intro H enc w base spare held fuel cs hw
 obtain ⟨⟨x, hx⟩, hd⟩ := hw
 obtain ⟨y, hy, hok⟩ := h H enc w base spare held fuel _ x hx
 obtain ⟨z, hz, hok'⟩ := h' H enc w base spare held fuel _ hd
 refine ⟨(y, z), ?_, hok, hok'⟩
 simp only [Rp]
 exact ⟨_, _, (List.take_append_drop _ _).symm, hy, hz⟩
theorem opens_struct {P : Program} {t : TypeId} {fs : Array Field} {d : Ty} (ht : P.underlying t = some (.struct fs)) (ho : offsOk P (P.cellsOf t) 0 fs.toList = true)
  (h : OpensW P (fs.toList.map (·.type)) d) : Opens P t d := by
 intro H enc w base spare held fuel cs x hx
 obtain ⟨xs, n, _, _, hl, hxl, hf⟩ := DataW.trod_struct ht hx
 have hw := walk_of (P := P) (T := fun t c => ∃ x, DataW.trod enc P w base spare held n t c = some x) (cs := cs) fs.toList 0 (by rw [hl]; exact ho) (fun f hfm => by
  obtain ⟨i, hi⟩ := List.getElem?_of_mem hfm
  have hi' : fs[i]? = some f := by simpa using hi
  have hlt : i < xs.length := by
   have := (Array.getElem?_eq_some_iff.1 hi').1
   omega
  exact ⟨_, (hf i f hi').trans (List.getElem?_eq_getElem hlt)⟩)
 exact h H enc w base spare held n cs hw
abbrev start (w : World) : CEnv := ⟨fun _ => .dead, fun _ => here w⟩
theorem arg_slice {P : Program} {t e : TypeId} {d : Ty} (ho : Opens P t (.sl e d)) (ht : P.underlying t = some (.slice e)) {H : Type} {enc : TypeId × Value → H} {w : World} {b base : Nat} {r : Reach} {spare : Nat → Bool} {held : Bool} {v : Value} {x : DataW H} {ps : List MemPlace}
  (hv : Value.okWide P w r b t v) (h : DataW.Trod enc P w base spare held t v x ps) : ∃ l : List d.T, rav (start w) w (.one (.emb e d l true)) v ∧ (Ty.sl e d).ok l := by
 obtain ⟨a, len, cap, rfl⟩ := okWide_slice ht hv
 obtain ⟨fuel, hf⟩ := h
 obtain ⟨l, hr, hok⟩ := ho H enc w base spare held fuel _ _ hf
 exact ⟨l, by simpa [rav, rc, Value.cells] using hr, hok⟩
theorem arg_struct {P : Program} {t : TypeId} {fs : Array Field} {d : Ty} (ho : Opens P t d) (ht : P.underlying t = some (.struct fs)) {H : Type} {enc : TypeId × Value → H} {w : World} {b base : Nat} {r : Reach} {spare : Nat → Bool} {held : Bool} {v : Value} {x : DataW H} {ps : List MemPlace}
  (hv : Value.okWide P w r b t v) (h : DataW.Trod enc P w base spare held t v x ps) : ∃ y : d.T, rav (start w) w (.agg (d.cells true y)) v ∧ d.ok y := by
 obtain ⟨cs, rfl, _⟩ := okWide_struct ht hv
 obtain ⟨fuel, hf⟩ := h
 obtain ⟨y, hy, hok⟩ := ho H enc w base spare held fuel _ _ hf
 refine ⟨y, ⟨cs.toList, by simp, ?_⟩, hok⟩
 exact cells_of_Rp (ρ := start w) (b := true) (by simpa [Value.cells] using hy)
theorem placed {H : Type} {enc : TypeId × Value → H} {P : Program} {W : World} {base : Nat} {spare : Nat → Bool} {held : Bool} {t : TypeId} {v : Value} {d : DataW H} {ps : List MemPlace} (h : DataW.Trod enc P W base spare held t v d ps) : ∀ x ∈ ps, x.block < W.heap.size := by
 obtain ⟨m, hm⟩ := h
 exact DataW.trod_lt m _ _ _ hm
theorem gh_start {P : Program} {W : World} (h : W.ShapedOpen P) : GH P (start W) W := fun G ⟨hg, zero, t, h0, hz, hb, hc, hu⟩ => by
 obtain ⟨m, hm⟩ := Go.Proofs.cell_of_shapedOpen_int h hg h0 hz hb hc hu
 exact ⟨cell_here hm, m, hm⟩
def optC {α R : Type} (o : Option α) (f : α → Option R) : Option R := match o with | some x => f x | none => none
theorem lookup_mem {α β : Type} [BEq α] [LawfulBEq α] {l : List (α × β)} {a : α} {b : β} (h : l.lookup a = some b) : (a, b) ∈ l := by
 induction l with
 | nil => cases h
 | cons q r ih =>
  obtain ⟨a', b'⟩ := q
  rw [List.lookup_cons] at h
  split at h
  ·rename_i heq
   cases h
   rw [eq_of_beq heq]
   exact List.mem_cons_self
  ·exact List.mem_cons_of_mem _ (ih h)
theorem LtOk.no {P : Program} : ∀ c : Code, LtOk P c .none
 | .seq a b => ⟨LtOk.no a, LtOk.no b⟩
 | .cond _ a b => ⟨LtOk.no a, LtOk.no b⟩
 | .block _ b => LtOk.no b
 | .loop b => LtOk.no b
 | .skip | .label _ | .region _ _ _ | .exit _ | .ret | .goto _ | .scope _ | .refuse _ | .rangeFunc _ _ _ _ => trivial
def loopAt : List Bool → Code → Code
 | p, .seq a b => (match p with | false :: p => loopAt p a | true :: p => loopAt p b | [] => .skip)
 | p, .cond _ a b => (match p with | false :: p => loopAt p a | true :: p => loopAt p b | [] => .skip)
 | p, .block _ b => loopAt p b
 | p, .loop b => (match p with | [] => b | _ :: p => loopAt p b)
 | _, _ => .skip
def ltPut : List Bool → Code → LT → LT → LT
 | p, .seq a b, t, s => (match p with | false :: p => .node (ltPut p a t.l s) t.r | true :: p => .node t.l (ltPut p b t.r s) | [] => t)
 | p, .cond _ a b, t, s => (match p with | false :: p => .node (ltPut p a t.l s) t.r | true :: p => .node t.l (ltPut p b t.r s) | [] => t)
 | p, .block _ b, t, s => .node (ltPut p b t.l s) .none
 | p, .loop b, t, s => (match p with | [] => s | _ :: p => .node (ltPut p b t.l s) .none)
 | _, _, t, _ => t
theorem LtOk.put {P : Program} {ss : List SP} {gs : List (Nat × GP)} {F : StT ss gs → Ways (Ex × St)} (hw : wfSt ss gs) : ∀ {p : List Bool} {c : Code} {t : LT}, LtOk P c t → LoopOk P (loopAt p c) ss gs F → LtOk P c (ltPut p c t (.sum ss gs F))
 | p, .seq a b, t, h, hl => by
  cases p with
  | nil => exact h
  | cons x p => cases x with
   | false => exact ⟨LtOk.put hw h.1 hl, h.2⟩
   | true => exact ⟨h.1, LtOk.put hw h.2 hl⟩
 | p, .cond _ a b, t, h, hl => by
  have h1 : p = [] ∨ (LtOk P a t.l ∧ LtOk P b t.r) := by
   cases t with
   | sum ss gs F => exact .inr ⟨LtOk.no a, LtOk.no b⟩
   | none => exact .inr h
   | node x y => exact .inr h
  cases p with
  | nil => exact h
  | cons x p =>
   have h := h1.resolve_left (by simp)
   cases x with
   | false => exact ⟨LtOk.put hw h.1 hl, h.2⟩
   | true => exact ⟨h.1, LtOk.put hw h.2 hl⟩
 | p, .block _ b, t, h, hl => LtOk.put (c := b) hw h hl
 | p, .loop b, t, h, hl => by
  cases p with
  | nil => exact ⟨hw, hl⟩
  | cons x p =>
   have : LtOk P b t.l := by
    cases t with
    | sum ss gs F => exact LtOk.no b
    | none => exact h
    | node x y => exact h
   exact LtOk.put (c := b) hw this hl
 | p, .skip, t, h, hl => h
 | p, .label _, t, h, hl => h
 | p, .region _ _ _, t, h, hl => h
 | p, .exit _, t, h, hl => h
 | p, .ret, t, h, hl => h
 | p, .goto _, t, h, hl => h
 | p, .scope _, t, h, hl => h
 | p, .refuse _, t, h, hl => h
 | p, .rangeFunc _ _ _ _, t, h, hl => h
def pieceAt : List Bool → Code → Code
 | p, .seq a b => (match p with | false :: p => pieceAt p a | true :: p => pieceAt p b | [] => .skip)
 | p, .cond c a b => (match p with | false :: p => pieceAt p a | true :: p => pieceAt p b | [] => .cond c a b)
 | p, .block _ b => pieceAt p b
 | p, .loop b => (match p with | [] => .loop b | _ :: p => pieceAt p b)
 | p, .region id ops d => (match p with | [] => .region id ops d | _ => .skip)
 | _, _ => .skip
def ltPutC : List Bool → Code → LT → LT → LT
 | p, .seq a b, t, s => (match p with | false :: p => .node (ltPutC p a t.l s) t.r | true :: p => .node t.l (ltPutC p b t.r s) | [] => t)
 | p, .cond _ a b, t, s => (match p with | false :: p => .node (ltPutC p a t.l s) t.r | true :: p => .node t.l (ltPutC p b t.r s) | [] => s)
 | p, .block _ b, t, s => .node (ltPutC p b t.l s) .none
 | p, .loop b, t, s => (match p with | [] => s | _ :: p => .node (ltPutC p b t.l s) .none)
 | p, .region _ _ _, t, s => (match p with | [] => s | _ => t)
 | _, _, t, _ => t
theorem LtOk.putC {P : Program} {ss : List SP} {gs : List (Nat × GP)} {F : StT ss gs → Ways (Ex × St)} (hw : wfSt ss gs) : ∀ {p : List Bool} {c : Code} {t : LT}, LtOk P c t → CodeOk P (pieceAt p c) ss gs F → LtOk P c (ltPutC p c t (.sum ss gs F))
 | p, .seq a b, t, h, hl => by
  cases p with
  | nil => exact h
  | cons x p => cases x with
   | false => exact ⟨LtOk.putC hw h.1 hl, h.2⟩
   | true => exact ⟨h.1, LtOk.putC hw h.2 hl⟩
 | p, .cond _ a b, t, h, hl => by
  have h1 : (LtOk P a t.l ∧ LtOk P b t.r) := by
   cases t with
   | sum ss gs F => exact ⟨LtOk.no a, LtOk.no b⟩
   | none => exact h
   | node x y => exact h
  cases p with
  | nil => exact ⟨hw, hl⟩
  | cons x p =>
   have h := h1
   cases x with
   | false => exact ⟨LtOk.putC hw h.1 hl, h.2⟩
   | true => exact ⟨h.1, LtOk.putC hw h.2 hl⟩
 | p, .block _ b, t, h, hl => LtOk.putC (c := b) hw h hl
 | p, .loop b, t, h, hl => by
  cases p with
  | nil => exact ⟨hw, hl⟩
  | cons x p =>
   have : LtOk P b t.l := by
    cases t with
    | sum ss gs F => exact LtOk.no b
    | none => exact h
    | node x y => exact h
   exact LtOk.putC (c := b) hw this hl
 | p, .skip, t, h, hl => h
 | p, .label _, t, h, hl => h
 | p, .region _ _ _, t, h, hl => by
  cases p with
  | nil => exact ⟨hw, hl⟩
  | cons x p => exact h
 | p, .exit _, t, h, hl => h
 | p, .ret, t, h, hl => h
 | p, .goto _, t, h, hl => h
 | p, .scope _, t, h, hl => h
 | p, .refuse _, t, h, hl => h
 | p, .rangeFunc _ _ _ _, t, h, hl => h
theorem LtOk.putL {P : Program} {p : List Bool} {c : Code} {t : LT} {ss : List SP} {gs : List (Nat × GP)} {F : StT ss gs → Ways (Ex × St)} (hp : pieceAt p c = .loop (loopAt p c)) (hw : wfSt ss gs) (h : LtOk P c t) (hl : LoopOk P (loopAt p c) ss gs F) : LtOk P c (ltPutC p c t (.sum ss gs F)) :=
 LtOk.putC hw h (by rw [hp]; exact hl)
def bodyOf (f : Func) : Code := f.body.getD .skip
theorem Env.Ok.of {P : Program} {E : Env} (h : ∀ q ∈ E.ti, TI.Ok P q.1 q.2) (hf : ∀ q ∈ E.fn, P.funcs[q.1]? = some q.2 ∧ (q.2.name == "runtime.NumGoroutine") = false) (hp : ∀ q ∈ E.prim, PrimOk P q.1 q.2) (hl : ∀ q ∈ E.lt, ∀ fn, P.funcs[q.1]? = some fn → LtOk P (bodyOf fn) q.2) (hm : ∀ q ∈ E.mark, MarkOk P q.1 q.2) (he : ∀ t ∈ E.eqt, EqT P t) (hg : ∀ q ∈ E.gen, GenOk P q.1 q.2) : Env.Ok P E :=
 ⟨fun t i hl => h _ (lookup_mem hl), fun f fn hl => hf _ (lookup_mem hl), hp, fun f fn c hf1 hb => by
  unfold Env.ltOf
  cases hlk : E.lt.lookup f with
  | none => exact LtOk.no c
  | some t =>
   have := hl _ (lookup_mem hlk) fn (hf _ (lookup_mem hf1)).1
   unfold bodyOf at this
   rw [hb] at this
   exact this, fun f m hl => hm _ (lookup_mem hl), he, hg⟩
theorem EqT.of {P : Program} {t : TypeId} {fa : Array Field} (h1 : P.stoodInHeld t = false) (h2 : P.eqGuardType P.depth t = false) (h3 : P.underlying t = some (.struct fa)) (h4 : fa.toList.all (fun f => f.name != "_") = true) : EqT P t :=
 ⟨h1, h2, fun fa' h5 f hf => by
  rw [h3] at h5
  cases h5
  have := List.all_eq_true.1 h4 f hf
  simpa using this⟩
theorem mem_nil {α : Type} {p : α → Prop} : ∀ q ∈ ([] : List α), p q := fun q h => by cases h
theorem mem_cons {α : Type} {p : α → Prop} {a : α} {l : List α} (h : p a) (h' : ∀ q ∈ l, p q) : ∀ q ∈ a :: l, p q := fun q hq => (List.mem_cons.1 hq).elim (fun e => e ▸ h) (h' q)
def notAgg : TypeDesc → Bool
 | .struct _ => false | .array _ _ => false | _ => true
theorem TI.ok_nul {P : Program} {t : TypeId} {ti : TypeInfo} {d : TypeDesc} {by_ : Nat} {z : Value} {fl : Bool} (h1 : P.info? t = some ti) (h2 : P.underlying t = some d) (h3 : ti.size = 1 ∧ ti.bytes = by_) (h4 : ti.zero = some z ∧ z.cells = #[nulV fl]) (h5 : notAgg d = true) : TI.Ok P t ⟨.other, 1, by_, some (.nul fl)⟩ :=
 ⟨⟨ti, h1, h3.1, h3.2, fun τ h => by cases h; exact ⟨rfl, z, h4.1, h4.2⟩⟩, _, h2, by clear h2; cases d <;> first | rfl | cases h5⟩
theorem TI.ok_int {P : Program} {t : TypeId} {ti : TypeInfo} {k : IntKind} {by_ : Nat} {z : Value} (h1 : P.info? t = some ti) (h2 : P.underlying t = some (.int k)) (h3 : ti.size = 1 ∧ ti.bytes = by_) (h4 : ti.zero = some z ∧ z.cells = #[.int k 0]) : TI.Ok P t ⟨.scal, 1, by_, some (.int k)⟩ :=
 ⟨⟨ti, h1, h3.1, h3.2, fun τ h => by cases h; exact ⟨rfl, z, h4.1, h4.2⟩⟩, _, h2, rfl⟩
theorem TI.ok_bool {P : Program} {t : TypeId} {ti : TypeInfo} {by_ : Nat} {z : Value} (h1 : P.info? t = some ti) (h2 : P.underlying t = some .bool) (h3 : ti.size = 1 ∧ ti.bytes = by_) (h4 : ti.zero = some z ∧ z.cells = #[.bool false]) : TI.Ok P t ⟨.scal, 1, by_, some .bool⟩ :=
 ⟨⟨ti, h1, h3.1, h3.2, fun τ h => by cases h; exact ⟨rfl, z, h4.1, h4.2⟩⟩, _, h2, rfl⟩
theorem TI.ok_str {P : Program} {t : TypeId} {ti : TypeInfo} {by_ : Nat} {z : Value} (h1 : P.info? t = some ti) (h2 : P.underlying t = some .string) (h3 : ti.size = 1 ∧ ti.bytes = by_) (h4 : ti.zero = some z ∧ z.cells = #[.string ByteArray.empty]) : TI.Ok P t ⟨.scal, 1, by_, some .str⟩ :=
 ⟨⟨ti, h1, h3.1, h3.2, fun τ h => by cases h; exact ⟨rfl, z, h4.1, h4.2⟩⟩, _, h2, rfl⟩
theorem TI.ok_slice {P : Program} {t e : TypeId} {ti : TypeInfo} {by_ : Nat} {z : Value} {τ : Ty} (h1 : P.info? t = some ti) (h2 : P.underlying t = some (.slice e)) (h3 : ti.size = 1 ∧ ti.bytes = by_) (h4 : ti.zero = some z ∧ z.cells = #[.slice none 0 0]) : TI.Ok P t ⟨.slice e, 1, by_, some (.sl e τ)⟩ :=
 ⟨⟨ti, h1, h3.1, h3.2, fun τ h => by cases h; exact ⟨rfl, z, h4.1, h4.2⟩⟩, _, h2, rfl⟩
theorem TI.ok_struct {P : Program} {t : TypeId} {ti : TypeInfo} {fa : Array Field} {fs : List (TypeId × Nat)} {sz by_ : Nat} {z : Value} {τ : Ty} (h1 : P.info? t = some ti) (h2 : P.underlying t = some (.struct fa)) (h3 : ti.size = sz ∧ ti.bytes = by_) (h4 : ti.zero = some z ∧ z.cells = τ.zv.toArray) (h5 : τ.sz = sz)
  (h6 : fs = fa.toList.map fun f => (f.type, f.offset)) (h7 : fa.toList.all (fun f => ((P.info? f.type).map (·.size)).getD 0 != 0) = true) : TI.Ok P t ⟨.struct fs, sz, by_, some τ⟩ :=
 ⟨⟨ti, h1, h3.1, h3.2, fun τ h => by cases h; exact ⟨h5, z, h4.1, h4.2⟩⟩, _, h2, fa, rfl, h6, fun f hf => by
  have := List.all_eq_true.1 h7 f hf
  cases hi : P.info? f.type with
  | none => rw [hi] at this; simp at this
  | some fi => rw [hi] at this; exact ⟨fi, rfl, by simpa using this⟩⟩
end Go.Proofs.Ytakmjjikiefheaa.Lib
namespace Go.Proofs.Ytakmjjikiefheaa.Lib
open Go Go.RowKit Go.WideShapes
set_option linter.unusedVariables false
section
variable {α V R S : Type}
def optV (o : Option α) (z : V) (v : α → V) : V := match o with | some x => v x | none => z
def optD (o : Option α) (d : α → Bool) : Bool := match o with | some x => d x | none => false
theorem tot_cond {c : Bool} {f : V → R} {A B : Option R} {x y : V} (hA : A = some (f x)) (hB : B = some (f y)) : cond c A B = some (f (cond c x y)) := by cases c <;> assumption
theorem run_fin {W : Type} {o : Option V} {z : V} {f : V → W} {A : Option W} (h : A = o.bind fun r => some (f r)) : A = (Ways.br o.isSome (.done (f (o.getD z))) .no).run some := by rw [h]; cases o <;> rfl
theorem par_some {f : V → R} (x : V) : some (f x) = cond true (some (f x)) none := rfl
theorem par_none {f : V → R} (x : V) : none = cond false (some (f x)) none := rfl
theorem par_cond {c dA dB : Bool} {f : V → R} {A B : Option R} {x y : V} (hA : A = cond dA (some (f x)) none) (hB : B = cond dB (some (f y)) none) : cond c A B = cond (cond c dA dB) (some (f (cond c x y))) none := by cases c <;> assumption
theorem par_ite {p : Prop} [Decidable p] {dA : Bool} {f : V → R} {A : Option R} {x : V} (hA : A = cond dA (some (f x)) none) : (if p then A else none) = cond (decide p && dA) (some (f x)) none := by
 by_cases hp : p
 ·rw [if_pos hp, hA, decide_eq_true hp]; rfl
 ·rw [if_neg hp, decide_eq_false hp]; rfl
theorem bnd_cond {c : Bool} {k : S → Option R} {A B : Option S} {A' B' : Option R} (hA : A' = A.bind k) (hB : B' = B.bind k) : cond c A' B' = (cond c A B).bind k := by cases c <;> assumption
theorem bnd_ite {p : Prop} [Decidable p] {k : S → Option R} {A : Option S} {A' : Option R} (hA : A' = A.bind k) : (if p then A' else none) = (if p then A else none : Option S).bind k := by split <;> first | assumption | rfl
theorem bnd_opt {o : Option α} {k : S → Option R} {A : α → Option S} {A' : α → Option R} (hA : ∀ x, A' x = (A x).bind k) : optC o A' = (optC o A).bind k := by
 cases o with
 | none => rfl
 | some x => exact hA x
def iter (s : V → Option (Nat × V)) : Nat → V → Option (Nat × V)
 | 0, _ => none
 | n + 1, v => (s v).bind fun q => match q.1 with | 0 => iter s n q.2 | c + 1 => some (c, q.2)
def iterAt (s : V → Option (Nat × V)) (n : Nat) (v : V) (c : Nat) : Bool := match iter s n v with | some q => q.1 == c | none => false
def iterV (s : V → Option (Nat × V)) (n : Nat) (v : V) : V := match iter s n v with | some q => q.2 | none => v
def kont (body : St → (Ex → St → Option R) → Option R) (z : Nz) (bld : V → St) (ex : List Ex) (n : Nat) (K : Ex → St → Option R) (q : Nat × V) : Option R :=
 match q.1 with | 0 => vloop body z n (bld q.2) K | c + 1 => K (ex.getD c .normal) (bld q.2)
theorem loop_iter {body : St → (Ex → St → Option R) → Option R} {z : Nz} {bld : V → St} {s : V → Option (Nat × V)} {ex : List Ex} {K : Ex → St → Option R}
  (h : ∀ n v, vloop body z (n + 1) (bld v) K = (s v).bind (kont body z bld ex n K)) : ∀ n v, vloop body z n (bld v) K = (iter s n v).bind fun q => K (ex.getD q.1 .normal) (bld q.2)
 | 0, v => rfl
 | n + 1, v => by
  rw [h, iter]
  cases s v with
  | none => rfl
  | some q =>
   obtain ⟨c, v'⟩ := q
   cases c with
   | zero => exact loop_iter h n v'
   | succ c => rfl
def waysOf (s : V → Option (Nat × V)) (N : Nat) (v : V) (bld : V → St) : List Ex → Nat → Ways (Ex × St)
 | [], _ => .no
 | e :: es, c => .br (iterAt s N v c) (.done (e, bld (iterV s N v))) (waysOf s N v bld es (c + 1))
theorem waysOf_run {s : V → Option (Nat × V)} {N : Nat} {v : V} {bld : V → St} {e : Ex} {st' : St} : ∀ (es : List Ex) (c : Nat), (waysOf s N v bld es c).run some = some (e, st') → ∃ i, es[i]? = some e ∧ iter s N v = some (c + i, iterV s N v) ∧ st' = bld (iterV s N v)
 | [], c, h => by cases h
 | x :: es, c, h => by
  simp only [waysOf, Ways.run] at h
  cases hc : iterAt s N v c with
  | true =>
   rw [hc] at h
   simp only [cond_true, Option.some.injEq, Prod.mk.injEq] at h
   obtain ⟨rfl, rfl⟩ := h
   refine ⟨0, rfl, ?_, rfl⟩
   unfold iterAt at hc
   unfold iterV
   cases hi : iter s N v with
   | none => rw [hi] at hc; cases hc
   | some q =>
    rw [hi] at hc
    obtain ⟨c', v'⟩ := q
    have : c' = c := by simpa using hc
    subst this
    rfl
  | false =>
   rw [hc] at h
   obtain ⟨i, h1, h2, h3⟩ := waysOf_run es (c + 1) h
   exact ⟨i + 1, by simpa using h1, by rw [h2]; simp only [Nat.add_assoc, Nat.add_comm 1 i], h3⟩
end
section
variable {P : Program} {E : Env}
theorem loopOk_iter (hE : Env.Ok P E) (hm : P.follows .mixedOrders = true) {b : Code} {lt : LT} (hlt : LtOk P b lt) {ss : List SP} {gs : List (Nat × GP)} {s : StT ss gs → Option (Nat × StT ss gs)} {N : StT ss gs → Nat} {ex : List Ex}
  (h : ∀ (n : Nat) (v : StT ss gs) (K : Ex → St → Option (Ex × St)), vloop (vcode E (vcall E drawB 0) drawB 0 b lt) (.norm ss gs) (n + 1) (bldSt ss gs v) K = (s v).bind (kont (vcode E (vcall E drawB 0) drawB 0 b lt) (.norm ss gs) (bldSt ss gs) ex n K)) :
  LoopOk P b ss gs fun v => waysOf s (N v) v (bldSt ss gs) ex 0 := by
 refine loopOk_of (draw := drawB) hE (fun call hC => drawB_ok hE hm call hC) hlt 0 0 (.norm ss gs) fun v e st' hv => ⟨N v, ?_⟩
 obtain ⟨i, h1, h2, h3⟩ := waysOf_run ex 0 hv
 rw [loop_iter (K := fun e st => some (e, st)) (fun n v => h n v _) (N v) v, h2, h3, Nat.zero_add]
 simp [h1]
theorem codeOk_eq (hE : Env.Ok P E) (hm : P.follows .mixedOrders = true) {c : Code} {lt : LT} (hlt : LtOk P c lt) {ss : List SP} {gs : List (Nat × GP)} {F : StT ss gs → Ways (Ex × St)} {sx : List SP} {gx : List (Nat × GP)}
  (h : ∀ (v : StT ss gs), vcode E (vcall E drawB 0) drawB 0 c lt (bldSt ss gs v) (fun e st => bif st.sl.length == sx.length then some (e, st.norm sx gx) else none) = (F v).run some) : CodeOk P c ss gs F := by
 intro B O w0 w ρ a v e st' Q hF hS hn
 have hD := fun call hC => drawB_ok hE hm call hC
 have hC := vcall_sound hE hD 0
 refine vcode_sound (R := Ex × St) (r := (e, st')) hE hC (hD _ hC) 0 c lt _ ρ a w _ Q hlt hS ((h v).trans hF) fun e1 ρ1 st1 a1 w1 hk h1 => ?_
 simp only [bifs] at hk
 split at hk
 ·rename_i hl
  cases hk
  obtain ⟨ρ2, h2⟩ := h1.norm sx gx
  exact hn ρ2 a1 w1 h2
 ·cases hk
theorem codeOk_plans (hE : Env.Ok P E) (hm : P.follows .mixedOrders = true) {id : Nat} {ops : Array Oper} (hb : planB ops = true) (n : Nat) {ss : List SP} {gs : List (Nat × GP)} {F : StT ss gs → Ways (Ex × St)} {sx : List SP} {gx : List (Nat × GP)}
  (h : ∀ (v : StT ss gs), ((plans E ops (ops.size + 1) (Array.replicate ops.size false)).map fun π => vguard E (vcall E drawB 0) ops.toList (π.map (opAt ops)) (bldSt ss gs v) (fun st => bif st.sl.length == sx.length then some (Ex.normal, st.norm sx gx) else none)) = List.replicate n ((F v).run some)) : CodeOk P (.region id ops true) ss gs F := by
 intro B O w0 w ρ a v e st' Q hF hS hn
 have hC := vcall_sound hE (fun call hC => drawB_ok hE hm call hC) 0
 refine region_plans (R := Ex × St) (r := (e, st')) hE hC hm hb hS (k := fun st => bif st.sl.length == sx.length then some (Ex.normal, st.norm sx gx) else none) (fun π hπ => ?_) fun ρ1 st1 a1 w1 hk h1 => ?_
 ·have h1 := List.mem_map_of_mem (f := fun π => vguard E (vcall E drawB 0) ops.toList (π.map (opAt ops)) (bldSt ss gs v) (fun st => bif st.sl.length == sx.length then some (Ex.normal, st.norm sx gx) else none)) hπ
  rw [h v] at h1
  rw [List.eq_of_mem_replicate h1]
  exact hF
 ·simp only [bifs] at hk
  split at hk
  ·rename_i hl
   cases hk
   obtain ⟨ρ2, h2⟩ := h1.norm sx gx
   exact hn ρ2 a1 w1 h2
  ·cases hk
@[reducible] def U2 (l : List SP) : List SP := .und :: .und :: l
@[reducible] def U4 (l : List SP) : List SP := .und :: .und :: .und :: .und :: l
@[reducible] def U8 (l : List SP) : List SP := U4 (U4 l)
@[reducible] def U16 (l : List SP) : List SP := U8 (U8 l)
@[reducible] def U32 (l : List SP) : List SP := U16 (U16 l)
@[reducible] def U64 (l : List SP) : List SP := U32 (U32 l)
def regOps : Code → Array Oper | .region _ ops _ => ops | _ => #[]
def isDraw : Code → Bool | .region _ _ d => d | _ => false
theorem codeOk_drawn {c : Code} (hc : isDraw c = true) (hE : Env.Ok P E) (hm : P.follows .mixedOrders = true) (hb : planB (regOps c) = true) (n : Nat) {ss : List SP} {gs : List (Nat × GP)} {F : StT ss gs → Ways (Ex × St)} {sx : List SP} {gx : List (Nat × GP)}
  (h : ∀ (v : StT ss gs), ((plans E (regOps c) ((regOps c).size + 1) (Array.replicate (regOps c).size false)).map fun π => vguard E (vcall E drawB 0) (regOps c).toList (π.map (opAt (regOps c))) (bldSt ss gs v) (fun st => bif st.sl.length == sx.length then some (Ex.normal, st.norm sx gx) else none)) = List.replicate n ((F v).run some)) : CodeOk P c ss gs F := by
 cases c with
 | region id ops d =>
  have : d = true := hc
  subst this
  exact codeOk_plans hE hm hb n h
 | _ => cases hc
theorem primOk_eq (hE : Env.Ok P E) (hm : P.follows .mixedOrders = true) {f : FuncId} {p : Prim} (h : ∀ v, vcall E drawB 1 f (SPs.bld (R := Unit) p.ss v).1 [] = (p.F v).run some) : PrimOk P f p :=
 primOk_of (draw := drawB) hE (fun call hC => drawB_ok hE hm call hC) fun v res out hv => ⟨1, by rw [h v]; exact hv⟩
theorem markOk_eq (hE : Env.Ok P E) (hm : P.follows .mixedOrders = true) {f : FuncId} {m : Mrk} (hwf : wfSt m.ss m.gs) (hfn : ∃ fn c, E.fn.lookup f = some fn ∧ fn.body = some c) (h : ∀ v, vmcall E drawB 0 f (bldSt m.ss m.gs v) = (m.F v).run some) : MarkOk P f m :=
 markOk_of (draw := drawB) hE (fun call hC => drawB_ok hE hm call hC) hwf hfn fun v res upd hv => ⟨0, by rw [h v]; exact hv⟩
theorem ltOk_of {g : FuncId} {f : Func} {t : LT} (hf : P.funcs[g]? = some f) (h : LtOk P (bodyOf f) t) : ∀ fn, P.funcs[g]? = some fn → LtOk P (bodyOf fn) t := fun fn hfn => by
 rw [hf] at hfn
 cases hfn
 exact h
theorem prim_calls {f : FuncId} {p : Prim} (hp : PrimOk P f p) {v : SPs.T p.ss Unit} {b : Bool} (h : (p.F v).run some = some (.one (.bool b), [])) {W : World} (hsh : W.ShapedOpen P) {vs : List Value} (hr : All2 (rav (start W) W) (SPs.bld (R := Unit) p.ss v).1 vs) (hu : ∀ x ∈ (SPs.bld (R := Unit) p.ss v).1, ∀ d, x.uses d = false) :
  Calls P f vs.toArray W fun e w' => e = .returned (.bool b) ∧ Below W.heap.size W w' := by
 refine (hp v _ _ h (start W) W vs (fun _ _ h => h) (fun _ h => h) (gh_start hsh) hr hu).2.mono fun e w' hh => ?_
 obtain ⟨v, ρ', he, hv, _, _, hb⟩ := hh
 have hv : v = .bool b := hv
 subst hv
 exact ⟨he, hb⟩
def onlyDat (ss : List SP) : Bool := ss.all fun s => match s with | .one (.dat _ _) => true | .agg ps => ps.all (fun p => match p with | .dat _ _ => true | _ => false) | _ => false
theorem bld_dat {ss : List SP} (h : onlyDat ss = true) (v : SPs.T ss Unit) : ∀ x ∈ (SPs.bld (R := Unit) ss v).1, ∀ d, x.uses d = false := by
 have hc : ∀ {R : Type} (ps : List CP) (y : CPs.T ps R) (d : Nat), ps.all (fun p => match p with | .dat _ _ => true | _ => false) = true → (CPs.bld ps y).1.any (·.uses d) = false := by
  intro R ps
  induction ps with
  | nil => intro y d h; rfl
  | cons p r ih =>
   intro y d h
   simp only [List.all_cons, Bool.and_eq_true] at h
   cases p with
   | dat t b => simp only [CPs.bld, List.any_append, cells_any, Bool.false_or]; exact ih _ d h.2
   | own j => cases h.1
   | ptr j c => cases h.1
   | und => cases h.1
   | fnc f ts => cases h.1
   | ept t => cases h.1
   | fnp f js => cases h.1
 have main : ∀ {R : Type} (ss : List SP) (y : SPs.T ss R), onlyDat ss = true → ∀ x ∈ (SPs.bld ss y).1, ∀ d, x.uses d = false := by
  intro R ss
  induction ss with
  | nil => intro y h x hx; simp [SPs.bld] at hx
  | cons s r ih =>
   intro y h x hx d
   simp only [onlyDat, List.all_cons, Bool.and_eq_true] at h
   cases s with
   | und => cases h.1
   | one p =>
    cases p with
    | dat t b =>
     rcases List.mem_cons.1 hx with rfl | hx
     ·have := hc [.dat t b] y d rfl
      generalize (CPs.bld [.dat t b] y).1 = l at this
      unfold oneOf
      split
      ·simpa [AV.uses] using this
      ·rfl
     ·exact ih _ h.2 x hx d
    | own j => cases h.1
    | ptr j c => cases h.1
    | und => cases h.1
    | fnc f ts => cases h.1
    | ept t => cases h.1
    | fnp f js => cases h.1
   | agg ps =>
    rcases List.mem_cons.1 hx with rfl | hx
    ·exact hc ps y d h.1
    ·exact ih _ h.2 x hx d
 exact main ss v h
theorem arg_struct' {P : Program} {t : TypeId} {fs : Array Field} {d : Ty} (ho : Opens P t d) (ht : P.underlying t = some (.struct fs)) {H : Type} {enc : TypeId × Value → H} {w : World} {b base : Nat} {r : Reach} {spare : Nat → Bool} {held : Bool} {v : Value} {x : DataW H} {ps : List MemPlace}
  (hv : Value.okWide P w r b t v) (h : DataW.Trod enc P w base spare held t v x ps) : ∃ y : d.T, rav (start w) w (.agg (d.cells true y ++ [])) v ∧ d.ok y := by
 obtain ⟨y, h1, h2⟩ := arg_struct ho ht hv h
 exact ⟨y, by rw [List.append_nil]; exact h1, h2⟩
end
structure EnvOk (P : Program) where
 E : Env
 ok : Env.Ok P E
def EnvOk.base (P : Program) (ti : List (TypeId × TI)) (fn : List (FuncId × Func)) (eqt : List TypeId) (h : ∀ q ∈ ti, TI.Ok P q.1 q.2) (hf : ∀ q ∈ fn, P.funcs[q.1]? = some q.2 ∧ (q.2.name == "runtime.NumGoroutine") = false) (he : ∀ t ∈ eqt, EqT P t) : EnvOk P :=
 ⟨{ ti := ti, fn := fn, eqt := eqt }, Env.Ok.of h hf (fun _ h => nomatch h) (fun _ h => nomatch h) (fun _ h => nomatch h) he (fun _ h => nomatch h)⟩
theorem mem_two {α : Type} {Q : α → Prop} {x : α} {l : List α} (h : Q x) (hl : ∀ q ∈ l, Q q) : ∀ q ∈ x :: l, Q q := fun q hq => (List.mem_cons.1 hq).elim (fun e => e ▸ h) (hl q)
def EnvOk.p {P : Program} {f : FuncId} {p : Prim} (e : EnvOk P) (h : PrimOk P f p) : EnvOk P := ⟨{ e.E with prim := (f, p) :: e.E.prim }, ⟨e.ok.ti, e.ok.fn, mem_two (Q := fun q : FuncId × Prim => PrimOk P q.1 q.2) h e.ok.prim, e.ok.lt, e.ok.mark, e.ok.eqt, e.ok.gen⟩⟩
def EnvOk.g {P : Program} {f : FuncId} {p : Gen} (e : EnvOk P) (h : GenOk P f p) : EnvOk P := ⟨{ e.E with gen := (f, p) :: e.E.gen }, ⟨e.ok.ti, e.ok.fn, e.ok.prim, e.ok.lt, e.ok.mark, e.ok.eqt, mem_two (Q := fun q : FuncId × Gen => GenOk P q.1 q.2) h e.ok.gen⟩⟩
def EnvOk.m {P : Program} {f : FuncId} {p : Mrk} (e : EnvOk P) (h : MarkOk P f p) : EnvOk P := ⟨{ e.E with mark := (f, p) :: e.E.mark }, ⟨e.ok.ti, e.ok.fn, e.ok.prim, e.ok.lt, fun f' m hm => by
 simp only [List.lookup] at hm
 split at hm
 ·rename_i hb
  have := eq_of_beq hb
  subst this
  cases hm
  exact h
 ·exact e.ok.mark f' m hm, e.ok.eqt, e.ok.gen⟩⟩
def EnvOk.l {P : Program} {g : FuncId} {t : LT} (e : EnvOk P) (h : ∀ fn, P.funcs[g]? = some fn → LtOk P (bodyOf fn) t) : EnvOk P := ⟨{ e.E with lt := (g, t) :: e.E.lt }, ⟨e.ok.ti, e.ok.fn, e.ok.prim, fun f fn c hf hb => by
 unfold Env.ltOf
 simp only [List.lookup]
 split
 ·rename_i hg
  have := eq_of_beq hg
  subst this
  have h1 := h fn (e.ok.fn _ _ hf).1
  unfold bodyOf at h1
  rw [hb] at h1
  exact h1
 ·exact e.ok.lt f fn c hf hb, e.ok.mark, e.ok.eqt, e.ok.gen⟩⟩
end Go.Proofs.Ytakmjjikiefheaa.Lib
namespace Go.Proofs.Ytakmjjikiefheaa.Lib
open Go Go.RowKit Go.Sort Go.Proofs
variable {P : Program}
def setI (zs : List Int) : List Int := Go.Lib.compact (zs.mergeSort fun x y => decide (x ≤ y))
theorem setI_len (zs : List Int) : (setI zs).length ≤ zs.length := by
 unfold setI Go.Lib.compact Go.Lib.compactUpTo
 rw [List.length_map]
 refine Nat.le_trans (List.length_filter_le _ _) ?_
 simp
theorem own_open {w0 w : World} {e : TypeId} {n : Nat} {v : Value} {xs : List Value} (hr : w.ownsRow w0.heap.size e 1 v n xs) (hne : v ≠ .slice none 0 0) (hb : Below w0.heap.size w0 w) : ∃ g cap cur, v = .slice (some ⟨g, 0, none⟩) n cap ∧ Hid (xs.length = n ∧ w0.heap.size ≤ g ∧ w.heap[g]? = some (.cells cur e (0, 0)) ∧ n ≤ cap ∧ cap ≤ maxLen ∧ cur.size = cap ∧ cur.toList.take n = xs ∧ Below w0.heap.size w0 w) := by
 obtain ⟨hx, hnil | ⟨g, cap, cur, rfl, hg, hh, hle, hm, hsz, htk⟩⟩ := hr
 ·exact absurd hnil.1 hne
 ·exact ⟨g, cap, cur, rfl, by simpa using hx, hg, hh, hle, hm, by simpa using hsz, by simpa using htk, hb⟩
theorem set_end {w0 w1 w2 w3 : World} {e : TypeId} {zs : List Int} {g cap : Nat} {cur : Array Value}
  (H : Hid ((zs.map (Value.int .i64)).length = zs.length ∧ w0.heap.size ≤ g ∧ w1.heap[g]? = some (.cells cur e (0, 0)) ∧ zs.length ≤ cap ∧ cap ≤ maxLen ∧ cur.size = cap ∧ cur.toList.take zs.length = zs.map (Value.int .i64) ∧ Below w0.heap.size w0 w1))
  (B : w1.grownBy w2 (some g)) (C : Hid (w3.heap[g]? = some (.cells (putCells (Value.int .i64) 0 (setI zs ++ List.replicate (zs.length - (setI zs).length) 0).toArray (putCells (Value.int .i64) 0 (zs.mergeSort fun x y => decide (x ≤ y)).toArray cur)) e (0, 0)) ∧ w2.grownBy w3 (some g))) :
  w3.ownsRow w0.heap.size e 1 (.slice (some ⟨g, 0, none⟩) (setI zs).length cap) (setI zs).length ((setI zs).map (Value.int .i64)) ∧ Below w0.heap.size w0 w3 := by
 have k2 := setI_len zs
 obtain ⟨h1, h2, h3, h4, h5, h6, h7, h8⟩ := H.out
 obtain ⟨b2, b3, b4, b5, b6⟩ := B
 obtain ⟨c1, c2, c3, c4, c5, c6⟩ := C.out
 have hlen : (setI zs ++ List.replicate (zs.length - (setI zs).length) 0).length = zs.length := by rw [List.length_append, List.length_replicate]; omega
 have hsz : (putCells (Value.int .i64) 0 (zs.mergeSort fun x y => decide (x ≤ y)).toArray cur).size = cur.size := by simp [putCells]
 have t := take_putCellsI (putCells (Value.int .i64) 0 (zs.mergeSort fun x y => decide (x ≤ y)).toArray cur) (setI zs ++ List.replicate (zs.length - (setI zs).length) 0) (by omega)
 refine ⟨⟨by simp, .inr ⟨g, cap, _, rfl, h2, c1, by omega, h5, by simp [putCells, h6], ?_⟩⟩, ⟨c2.trans (b2.trans h8.os), c3.trans (b3.trans h8.tape), c4.trans (b4.trans h8.output), Nat.le_trans h8.size (Nat.le_trans b5 c5), fun k hk => ?_⟩⟩
 ·rw [Nat.mul_one]
  have := congrArg (List.take (setI zs).length) t
  rw [List.take_take, Nat.min_eq_left (by rw [hlen]; exact k2)] at this
  rw [this, List.map_append, List.take_left' (by simp)]
 ·have hk1 : k < w1.heap.size := Nat.lt_of_lt_of_le hk h8.size
  have hkg : some k ≠ (some g : Option Nat) := fun e => by cases e; omega
  rw [c6 k (Nat.lt_of_lt_of_le hk1 b5) hkg, b6 k hk1 hkg, h8.block k hk]
def setP (e : TypeId) : Prim := ⟨[.one (.dat (.sl e (.int .i64)) true)], fun v => .br (decide (List.length (α := Int) v.1 ≤ 17592186044416)) (.done (.one (.sl 4096), [(4096, .arr e (.int .i64) (setI v.1) false)])) .no⟩
theorem own_mem {ρ : CEnv} {w w' : World} {e : TypeId} {l : List Int} {v : Value} (hsz : ∀ b g, ρ.ok b g → g < w.heap.size) (hmono : ∀ g, ρ.ok false g → ρ.ok true g) (hb : Below w.heap.size w w')
  (h : w'.ownsRow w.heap.size e 1 v l.length (l.map (Value.int .i64))) : ∃ ρ', rav ρ' w' (.one (.sl 4096)) v ∧ Mem w.heap.size ⟨fun _ => False, ρ.ok, ρ.loc⟩ ρ' [(4096, .arr e (.int .i64) l false)] w' := by
 have hel : ∀ ok, Elems ok w' (.int .i64) l (l.map (Value.int .i64)) := fun ok => by
  refine ⟨by simp [Ty.sz], fun j p hj => ?_⟩
  have hlt := (List.getElem?_eq_some_iff.1 hj).1
  show _ = _
  have hd : (l.map (Value.int .i64)).drop (j * Ty.sz (.int .i64)) = Value.int .i64 p :: (l.map (Value.int .i64)).drop (j + 1) := by
   have e1 : j * Ty.sz (.int .i64) = j := by simp [Ty.sz]
   rw [e1, List.drop_eq_getElem_cons (by simpa using hlt)]
   congr 1
   rw [List.getElem_map]
   congr 1
   exact (List.getElem?_eq_some_iff.1 hj).2
  rw [hd]
  rfl
 have key : ∃ g : Option Nat, (∀ k, g = some k → w.heap.size ≤ k ∧ k < w'.heap.size) ∧ (match g with | some g => w'.ownsRow 0 e (Ty.sz (.int .i64)) v l.length (l.map (Value.int .i64)) ∧ v.ownBlock = some g | none => l = [] ∧ ∃ A, v = .slice A 0 0) := by
  obtain ⟨h1, ⟨rfl, h2⟩ | ⟨g, cap, cur, rfl, h2, h3, h4⟩⟩ := h
  ·exact ⟨none, (fun k hk => by cases hk), List.eq_nil_of_length_eq_zero h2, none, rfl⟩
  ·exact ⟨some g, (fun k hk => by cases hk; exact ⟨h2, (Array.getElem?_eq_some_iff.1 h3).1⟩), ⟨h1, .inr ⟨g, cap, cur, rfl, Nat.zero_le _, h3, h4⟩⟩, rfl⟩
 obtain ⟨g, hg, hm⟩ := key
 have howns : ∀ i k, Owns (ρ.upd 4096 (.arr v g (Ty.sz (.int .i64)))) [(4096, Blk.arr e (.int .i64) l false)] i k → i = 4096 ∧ g = some k := by
  intro i k ho
  obtain ⟨b, a1, a2, a3⟩ := owns_iff.1 ho
  simp only [Sig.get, bifs] at a1
  split at a1
  ·rename_i hi
   have hi : i = 4096 := (eq_of_beq hi).symm
   subst hi
   cases a1
   rw [CEnv.upd_same] at a3
   rcases a3 with ⟨_, _, h, _⟩ | ⟨_, _, _, _, _, _, _, h⟩
   ·cases h
   ·cases h
    exact ⟨rfl, rfl⟩
  ·cases a1
 refine ⟨ρ.upd 4096 (.arr v g (Ty.sz (.int .i64))), ⟨g, _, CEnv.upd_same _ _ _⟩, ⟨fun j b hj => ?_, fun i j k h1 h2 => (howns i k h1).1.trans (howns j k h2).1.symm, fun j k h1 => .inl (hg k (howns j k h1).2).1, fun b k hk => Nat.lt_of_lt_of_le (hsz b k hk) hb.size, fun b k hk j h1 => absurd (hsz b k hk) (by have := (hg k (howns j k h1).2).1; omega), hmono, fun b k hk => .inl hk, fun b k hk => hk, fun j b d hj hd => ?_⟩⟩
 ·simp only [Sig.get, bifs] at hj
  split at hj
  ·rename_i hi
   have hi : j = 4096 := (eq_of_beq hi).symm
   subst hi
   cases hj
   exact ⟨v, g, _, CEnv.upd_same _ _ _, hel _, hm⟩
  ·cases hj
 ·simp only [Sig.get, bifs] at hj
  split at hj
  ·cases hj; cases hd
  ·cases hj
theorem setOk {f : FuncId} {e : TypeId} (hf : ∃ fn, P.funcs[f]? = some fn ∧ fn.body.isSome = true ∧ (fn.name == "runtime.NumGoroutine") = false)
  (h0 : ∀ (c : Nat) (w : World), Calls P f #[.slice none 0 c] w fun e w' => e = .returned (.slice none 0 0) ∧ w' = w)
  (h1 : ∀ (a : Addr) (c : Nat) (w : World), Calls P f #[.slice (some a) 0 c] w fun ex w' => ∃ v', ex = .returned v' ∧ w'.ownsRow w.heap.size e 1 v' 0 [] ∧ Below w.heap.size w w')
  (h2 : ∀ (b o c : Nat) (zs : List Int) (w : World), zs.length ≤ 17592186044416 → (∀ j, j < zs.length → w.cell? ⟨b, o + j, none⟩ = some (.int .i64 (zs.getD j 0))) → Calls P f #[.slice (some ⟨b, o, none⟩) zs.length c] w fun ex w' => ∃ v', ex = .returned v' ∧ w'.ownsRow w.heap.size e 1 v' (setI zs).length ((setI zs).map (Value.int .i64)) ∧ Below w.heap.size w w') : PrimOk P f (setP e) := by
 intro v res out hv ρ w vs hsz hmono _ hargs hu
 refine ⟨hf, ?_⟩
 obtain ⟨l, u⟩ := v
 simp only [setP, Ways.run] at hv
 by_cases hc : List.length (α := Int) l ≤ 17592186044416
 ·rw [decide_eq_true hc] at hv
  simp only [cond_true, Option.some.injEq, Prod.mk.injEq] at hv
  obtain ⟨rfl, rfl⟩ := hv
  have hst : (SPs.bld (R := Unit) (setP e).ss (l, u)).1 = [.one (.emb e (.int .i64) l true)] := rfl
  rw [hst] at hargs
  obtain ⟨v0, rfl, hr0⟩ := hargs.single
  have hr0 : Rp (ρ.ok true) w (.sl e (.int .i64)) l [v0] := hr0
  simp only [Rp] at hr0
  obtain ⟨A, c, e1, hle, hm, hd⟩ := hr0
  have e1 : v0 = .slice A l.length c := by simpa using e1
  subst e1
  have fin : ∀ (ex : Ending) (w' : World) (l' : List Int), l' = setI l → (∃ v', ex = .returned v' ∧ w'.ownsRow w.heap.size e 1 v' l'.length (l'.map (Value.int .i64)) ∧ Below w.heap.size w w') → ∃ v ρ', ex = .returned v ∧ rav ρ' w' (.one (.sl 4096)) v ∧ Mem w.heap.size ⟨fun _ => False, ρ.ok, ρ.loc⟩ ρ' [(4096, .arr e (.int .i64) (setI l) false)] w' ∧ (∀ d, (AV.one (.sl 4096)).uses d = true → (Sig.get d [(4096, Blk.arr e (.int .i64) (setI l) false)]).isSome = true) ∧ Below w.heap.size w w' := by
   rintro ex w' l' rfl ⟨v', rfl, ho, hb⟩
   obtain ⟨ρ', g1, g2⟩ := own_mem hsz hmono hb ho
   exact ⟨v', ρ', rfl, g1, g2, fun d hd => (by have := eq_of_beq hd; subst this; rfl), hb⟩
  by_cases hl : l.length = 0
  ·have : l = [] := List.eq_nil_of_length_eq_zero hl
   subst this
   have hs : ([] : List Int) = setI [] := by simp [setI, Go.Lib.compact, Go.Lib.compactUpTo]
   cases A with
   | none => exact (h0 c w).mono fun ex w' he => fin ex w' [] hs ⟨_, he.1, by rw [he.2]; exact World.ownsRow_nil w _ e 1, he.2 ▸ Below.refl _ _⟩
   | some a => exact (h1 a c w).mono fun ex w' he => fin ex w' [] hs he
  ·obtain ⟨ad, rfl, _, q1⟩ := hd (by omega)
   have cell : ∀ (j : Nat) x, l[j]? = some x → w.cell? (ad.add (j * Ty.sz (.int .i64) + 0)) = some (.int .i64 x) := fun j x hj => by
    obtain ⟨c, q2, q3, q4⟩ := q1 j x hj
    have q3 : c = [.int .i64 x] := q3
    exact q4 0 (.int .i64 x) (by rw [q3]; rfl)
   obtain ⟨x0, hx0⟩ : ∃ x, l[0]? = some x := ⟨_, List.getElem?_eq_getElem (by omega)⟩
   have c0 := cell 0 x0 hx0
   have c0 : w.cell? ad = some (.int .i64 x0) := by simpa [Addr.add] using c0
   obtain ⟨bk, o, sp⟩ := ad
   have hsp : sp = none := by
    cases sp with
    | none => rfl
    | some s =>
     unfold World.cell? at c0
     revert c0
     cases h : w.heap[bk]? with
     | none => intro c0; cases c0
     | some o' => cases o' <;> intro c0 <;> first | (cases c0; done) | simp at c0
   subst hsp
   exact (h2 bk o c l w hc (fun j hj => by
    have := cell j _ (List.getElem?_eq_getElem hj)
    rw [show l.getD j 0 = l[j] from by simp [List.getD, List.getElem?_eq_getElem hj]]
    have e : (⟨bk, o, none⟩ : Addr).add (j * Ty.sz (.int .i64) + 0) = ⟨bk, o + j, none⟩ := by
     simp only [Addr.add, Ty.sz, Nat.mul_one, Nat.add_zero]
     split
     ·rename_i h; rw [h]; rfl
     ·rfl
    rw [e] at this
    exact this)).mono fun ex w' he => fin ex w' _ rfl he
 ·rw [decide_eq_false hc] at hv
  cases hv
end Go.Proofs.Ytakmjjikiefheaa.Lib
namespace Go.Proofs.Ytakmjjikiefheaa.Lib
open Go Go.RowKit
set_option linter.unusedVariables false
theorem wrap_in {n : Int} (h0 : -9223372036854775808 ≤ n) (h1 : n ≤ 9223372036854775807) : IntKind.wrap .i64 n = n := by
 simp only [IntKind.wrap, IntKind.bits, IntKind.signed, Bool.true_and]
 split
 ·rename_i h
  simp only [decide_eq_true_eq, ge_iff_le] at h
  omega
 ·rename_i h
  simp only [decide_eq_true_eq, ge_iff_le] at h
  omega
theorem wrap_nat {n : Nat} (h1 : (n : Int) + 1 ≤ 9223372036854775807) : IntKind.wrap .i64 ((n : Int) + 1) = ((n + 1 : Nat) : Int) := by
 rw [wrap_in (by omega) h1]; rfl
theorem pair_eta {α β : Type} (p : α × β) : (p.1, p.2) = p := rfl
theorem optC_some {α R : Type} (x : α) (f : α → Option R) : optC (some x) f = f x := rfl
def Ty.short : (t : Ty) → t.T → Prop
 | .sl _ t, l => l.length ≤ 1048576 ∧ ∀ x, x ∈ l → t.short x
 | .pair a b, p => a.short p.1 ∧ b.short p.2
 | _, _ => True
section
variable {V X Y : Type}
theorem map_iter {s : V → Option (Nat × V)} {mk : Int → List Y → V} {xs : List X} {conv : X → Y}
  (h1 : ∀ (i : Nat) (out : List Y) (x : X), xs[i]? = some x → out.length = xs.length → s (mk (i : Int) out) = some (0, mk ((i + 1 : Nat) : Int) (out.set i (conv x))))
  (h2 : ∀ out : List Y, out.length = xs.length → s (mk (xs.length : Int) out) = some (1, mk (xs.length : Int) out)) :
  ∀ (k i : Nat) (out : List Y) (n : Nat), i + k = xs.length → out.length = xs.length → k < n → iter s n (mk (i : Int) out) = some (0, mk (xs.length : Int) (out.take i ++ (xs.drop i).map conv))
 | 0, i, out, n, hk, hl, hn => by
  obtain ⟨m, rfl⟩ : ∃ m, n = m + 1 := ⟨n - 1, by omega⟩
  have hi : i = xs.length := by omega
  subst hi
  rw [iter, h2 out hl]
  show some (0, mk (xs.length : Int) out) = _
  rw [List.drop_eq_nil_of_le (Nat.le_refl _), ← hl, List.take_length]
  simp
 | k + 1, i, out, n, hk, hl, hn => by
  obtain ⟨m, rfl⟩ : ∃ m, n = m + 1 := ⟨n - 1, by omega⟩
  have hi : i < xs.length := by omega
  rw [iter, h1 i out xs[i] (List.getElem?_eq_getElem hi) hl]
  show iter s m (mk ((i + 1 : Nat) : Int) (out.set i (conv xs[i]))) = _
  rw [map_iter h1 h2 k (i + 1) _ m (by omega) (by simp [hl]) (by omega)]
  have e1 : (out.set i (conv xs[i])).take (i + 1) = out.take i ++ [conv xs[i]] := by
   rw [List.take_add_one, List.take_set_of_le (Nat.le_refl i), List.getElem?_set_self (by omega)]; rfl
  rw [e1, List.append_assoc, List.drop_eq_getElem_cons hi]
  rfl
theorem all_iter {s : V → Option (Nat × V)} {mk : Int → V} {c : Nat} {N : Nat}
  (h1 : ∀ i : Nat, i < N → s (mk (i : Int)) = some (0, mk ((i + 1 : Nat) : Int)))
  (h2 : s (mk (N : Int)) = some (c + 1, mk (N : Int))) :
  ∀ (k i : Nat) (n : Nat), i + k = N → k < n → iter s n (mk (i : Int)) = some (c, mk (N : Int))
 | 0, i, n, hk, hn => by
  obtain ⟨m, rfl⟩ : ∃ m, n = m + 1 := ⟨n - 1, by omega⟩
  have hi : i = N := by omega
  subst hi
  rw [iter, h2]
  rfl
 | k + 1, i, n, hk, hn => by
  obtain ⟨m, rfl⟩ : ∃ m, n = m + 1 := ⟨n - 1, by omega⟩
  rw [iter, h1 i (by omega)]
  exact all_iter h1 h2 k (i + 1) m (by omega) (by omega)
theorem fold_iter {A : Type} {s : V → Option (Nat × V)} {mk : A → Int → V} {xs : List X} {f : A → X → A} {Inv : Nat → A → Prop}
  (h1 : ∀ (i : Nat) (x : X) (a : A), xs[i]? = some x → Inv i a → s (mk a (i : Int)) = some (0, mk (f a x) ((i + 1 : Nat) : Int)) ∧ Inv (i + 1) (f a x))
  (h2 : ∀ a, s (mk a (xs.length : Int)) = some (1, mk a (xs.length : Int))) :
  ∀ (k i : Nat) (a : A) (n : Nat), i + k = xs.length → k < n → Inv i a → iter s n (mk a (i : Int)) = some (0, mk ((xs.drop i).foldl f a) (xs.length : Int))
 | 0, i, a, n, hk, hn, hI => by
  obtain ⟨m, rfl⟩ : ∃ m, n = m + 1 := ⟨n - 1, by omega⟩
  have hi : i = xs.length := by omega
  subst hi
  rw [iter, h2 a, List.drop_eq_nil_of_le (Nat.le_refl _)]
  rfl
 | k + 1, i, a, n, hk, hn, hI => by
  obtain ⟨m, rfl⟩ : ∃ m, n = m + 1 := ⟨n - 1, by omega⟩
  have hi : i < xs.length := by omega
  obtain ⟨h3, h4⟩ := h1 i xs[i] a (List.getElem?_eq_getElem hi) hI
  rw [iter, h3, List.drop_eq_getElem_cons hi]
  exact fold_iter h1 h2 k (i + 1) (f a xs[i]) m (by omega) (by omega) h4
theorem at_of {s : V → Option (Nat × V)} {n : Nat} {v v' : V} {c : Nat} (h : iter s n v = some (c, v')) (d : Nat) : iterAt s n v d = (c == d) := by unfold iterAt; rw [h]
theorem val_of {s : V → Option (Nat × V)} {n : Nat} {v v' : V} {c : Nat} (h : iter s n v = some (c, v')) : iterV s n v = v' := by unfold iterV; rw [h]
def first (p : Nat → Bool) : Nat → Nat → Option Nat
 | _, 0 => none
 | i, k + 1 => bif p i then some i else first p (i + 1) k
theorem first_none {p : Nat → Bool} : ∀ {k i : Nat}, first p i k = none → ∀ j, i ≤ j → j < i + k → p j = false
 | 0, i, _, j, h1, h2 => by omega
 | k + 1, i, h, j, h1, h2 => by
  simp only [first] at h
  cases hp : p i with
  | true => rw [hp] at h; cases h
  | false =>
   rw [hp] at h
   by_cases hj : j = i
   ·subst hj; exact hp
   ·exact first_none (k := k) (i := i + 1) h j (by omega) (by omega)
theorem first_some {p : Nat → Bool} : ∀ {k i j : Nat}, first p i k = some j → i ≤ j ∧ j < i + k ∧ p j = true
 | 0, i, j, h => by cases h
 | k + 1, i, j, h => by
  simp only [first] at h
  cases hp : p i with
  | true => rw [hp] at h; cases h; exact ⟨by omega, by omega, hp⟩
  | false =>
   rw [hp] at h
   obtain ⟨h1, h2, h3⟩ := first_some (k := k) (i := i + 1) h
   exact ⟨by omega, by omega, h3⟩
theorem find_iter {s : V → Option (Nat × V)} {mk : Int → V} {fin : Nat → V} {p : Nat → Bool} {N : Nat}
  (h1 : ∀ i : Nat, i < N → s (mk (i : Int)) = bif p i then some (1, fin i) else some (0, mk ((i + 1 : Nat) : Int)))
  (h2 : s (mk (N : Int)) = some (2, mk (N : Int))) :
  ∀ (k i : Nat) (n : Nat), i + k = N → k < n → iter s n (mk (i : Int)) = some (match first p i k with | some j => (0, fin j) | none => (1, mk (N : Int)))
 | 0, i, n, hk, hn => by
  obtain ⟨m, rfl⟩ : ∃ m, n = m + 1 := ⟨n - 1, by omega⟩
  have hi : i = N := by omega
  subst hi
  rw [iter, h2]
  rfl
 | k + 1, i, n, hk, hn => by
  obtain ⟨m, rfl⟩ : ∃ m, n = m + 1 := ⟨n - 1, by omega⟩
  rw [iter, h1 i (by omega)]
  simp only [first]
  cases hp : p i with
  | true => rfl
  | false => exact find_iter h1 h2 k (i + 1) m (by omega) (by omega)
theorem first_lists {q : X → X → Bool} [DecidableEq X] (hq : ∀ x y, q x y = !decide (x = y)) {xs ys : List X} (hl : xs.length = ys.length) {p : Nat → Bool} (hp : ∀ (i : Nat) (x y : X), xs[i]? = some x → ys[i]? = some y → p i = q x y) : (first p 0 xs.length).isNone = decide (xs = ys) := by
 cases h : first p 0 xs.length with
 | none =>
  have h0 := first_none h
  have : xs = ys := by
   apply List.ext_getElem hl
   intro i h1 h2
   have := hp i xs[i] ys[i] (List.getElem?_eq_getElem h1) (List.getElem?_eq_getElem h2)
   rw [h0 i (Nat.zero_le _) (by omega), hq] at this
   simpa using this.symm
  simp [this]
 | some j =>
  obtain ⟨h1, h2, h3⟩ := first_some h
  have hj : j < xs.length := by omega
  have := hp j xs[j] ys[j] (List.getElem?_eq_getElem hj) (List.getElem?_eq_getElem (hl ▸ hj))
  rw [h3, hq] at this
  have hne : xs ≠ ys := by
   rintro rfl
   simp at this
  simp [hne]
theorem first_any {p : X → Bool} {xs : List X} {q : Nat → Bool} (hq : ∀ (i : Nat) (x : X), xs[i]? = some x → q i = p x) : (first q 0 xs.length).isSome = xs.any p := by
 cases h : first q 0 xs.length with
 | none =>
  have h0 := first_none h
  symm
  rw [Option.isSome_none, List.any_eq_false]
  intro x hx
  obtain ⟨i, hi⟩ := List.getElem?_of_mem hx
  have hlt := (List.getElem?_eq_some_iff.1 hi).1
  rw [← hq i x hi, h0 i (Nat.zero_le _) (by omega)]
  simp
 | some j =>
  obtain ⟨h1, h2, h3⟩ := first_some h
  have hj : j < xs.length := by omega
  symm
  rw [Option.isSome_some, List.any_eq_true]
  exact ⟨xs[j], List.getElem_mem hj, by rw [← hq j _ (List.getElem?_eq_getElem hj)]; exact h3⟩
theorem march_iter {A : Type} {s : V → Option (Nat × V)} {mk : A → Int → V} {N c : Nat} {Inv : Nat → A → Prop}
  (h1 : ∀ (i : Nat) (a : A), i < N → Inv i a → ∃ a', s (mk a (i : Int)) = some (0, mk a' ((i + 1 : Nat) : Int)) ∧ Inv (i + 1) a')
  (h2 : ∀ a, Inv N a → s (mk a (N : Int)) = some (c + 1, mk a (N : Int))) :
  ∀ (k i : Nat) (a : A) (n : Nat), i + k = N → k < n → Inv i a → ∃ a', iter s n (mk a (i : Int)) = some (c, mk a' (N : Int)) ∧ Inv N a'
 | 0, i, a, n, hk, hn, hI => by
  obtain ⟨m, rfl⟩ : ∃ m, n = m + 1 := ⟨n - 1, by omega⟩
  have hi : i = N := by omega
  subst hi
  exact ⟨a, by rw [iter, h2 a hI]; rfl, hI⟩
 | k + 1, i, a, n, hk, hn, hI => by
  obtain ⟨m, rfl⟩ : ∃ m, n = m + 1 := ⟨n - 1, by omega⟩
  obtain ⟨a', h3, h4⟩ := h1 i a (by omega) hI
  rw [iter, h3]
  exact march_iter h1 h2 k (i + 1) a' m (by omega) (by omega) h4
def ramp (k : Int) (n : Nat) : List Int := (List.range n).map fun (j : Nat) => k + (j : Int)
theorem ramp_length (k : Int) (n : Nat) : (ramp k n).length = n := by simp [ramp]
theorem ramp_get (k : Int) (n i : Nat) (h : i < n) : (ramp k n)[i]? = some (k + (i : Int)) := by simp [ramp, h]
theorem ramp_set (k : Int) (l : List Int) (i : Nat) (h : i < l.length) : (ramp k i ++ l.drop i).set i (k + (i : Int)) = ramp k (i + 1) ++ l.drop (i + 1) := by
 have e : ramp k (i + 1) = ramp k i ++ [k + (i : Int)] := by simp [ramp, List.range_succ]
 rw [e, List.drop_eq_getElem_cons h, List.set_append_right _ _ (by rw [ramp_length]; exact Nat.le_refl _), ramp_length, Nat.sub_self, List.append_assoc]
 rfl
end
end Go.Proofs.Ytakmjjikiefheaa.Lib
namespace Go.Proofs.Ytakmjjikiefheaa.Lib
open Go Go.RowKit
set_option linter.unusedVariables false
section
variable {α β : Type}
theorem getD_cond {b : Bool} {x y : Option α} {z : α} : (cond b x y).getD z = cond b (x.getD z) (y.getD z) := by cases b <;> rfl
theorem isSome_cond {b : Bool} {x y : Option α} : (cond b x y).isSome = cond b x.isSome y.isSome := by cases b <;> rfl
theorem getD_sm {x z : α} : (some x).getD z = x := rfl
theorem getD_no {z : α} : (none : Option α).getD z = z := rfl
theorem isSome_sm {x : α} : (some x).isSome = true := rfl
theorem isSome_no : (none : Option α).isSome = false := rfl
theorem getD_opt {o : Option β} {f : β → Option α} {z : α} : (optC o f).getD z = optV o z fun x => (f x).getD z := by cases o <;> rfl
theorem isSome_opt {o : Option β} {f : β → Option α} : (optC o f).isSome = optD o fun x => (f x).isSome := by cases o <;> rfl
theorem isSome_ite {p : Prop} [Decidable p] {x : Option α} : (if p then x else none).isSome = (decide p && x.isSome) := by by_cases h : p <;> simp [h]
theorem isSome_ifz {p : Prop} [Decidable p] {x : Option α} : (if p then none else x).isSome = (!decide p && x.isSome) := by by_cases h : p <;> simp [h]
end
def Sat {α : Type} (o : Option α) (P : α → Prop) : Prop := ∃ r, o = some r ∧ P r
section
variable {α β V : Type} {P Q : α → Prop}
theorem Sat.d {o : Option α} (h : Sat o P) : o.isSome = true := by obtain ⟨r, rfl, _⟩ := h; rfl
theorem Sat.v {o : Option α} {z : α} (h : Sat o P) : P (o.getD z) := by obtain ⟨r, rfl, h⟩ := h; exact h
theorem Sat.mono {o : Option α} (h : Sat o P) (hq : ∀ r, P r → Q r) : Sat o Q := by obtain ⟨r, rfl, h⟩ := h; exact ⟨r, rfl, hq r h⟩
theorem run_iter {s : V → Option (Nat × V)} {Q : V → Prop} (Inv : Nat → V → Prop) (h : ∀ k v, Inv k v → (∃ v', s v = some (1, v') ∧ Q v') ∨ (∃ k' v', k = k' + 1 ∧ s v = some (0, v') ∧ Inv k' v')) : ∀ (k : Nat) (v : V) (n : Nat), Inv k v → k < n → ∃ v', iter s n v = some (0, v') ∧ Q v'
 | k, v, 0, _, hn => by omega
 | k, v, n + 1, hI, hn => by
  rcases h k v hI with ⟨v', h1, h2⟩ | ⟨k', v', rfl, h1, h2⟩
  ·exact ⟨v', by simp [iter, h1], h2⟩
  ·obtain ⟨v2, h3, h4⟩ := run_iter Inv h k' v' n h2 (by omega)
   exact ⟨v2, by simp [iter, h1, h3], h4⟩
end
theorem take_snoc {α : Type} {xs : List α} {i : Nat} {x : α} (h : xs[i]? = some x) : xs.take (i + 1) = xs.take i ++ [x] := by rw [List.take_add_one, h]; rfl
theorem inv_iter {V K : Type} {s : V → Option (Nat × V)} {mk : K → V} {Inv : Nat → K → Prop} {Q : V → Prop} {c N : Nat}
  (h1 : ∀ i k, i < N → Inv i k → ∃ k', s (mk k) = some (0, mk k') ∧ Inv (i + 1) k') (h2 : ∀ k, Inv N k → ∃ v', s (mk k) = some (c + 1, v') ∧ Q v') :
  ∀ (m i n : Nat) (k : K), i + m = N → m < n → Inv i k → ∃ v', iter s n (mk k) = some (c, v') ∧ Q v'
 | 0, i, n, k, hm, hn, hI => by
  obtain ⟨n, rfl⟩ : ∃ n', n = n' + 1 := ⟨n - 1, by omega⟩
  have : i = N := by omega
  subst this
  obtain ⟨v', h3, h4⟩ := h2 k hI
  refine ⟨v', ?_, h4⟩
  rw [iter, h3]
  rfl
 | m + 1, i, n, k, hm, hn, hI => by
  obtain ⟨n, rfl⟩ : ∃ n', n = n' + 1 := ⟨n - 1, by omega⟩
  obtain ⟨k', h3, h4⟩ := h1 i k (by omega) hI
  obtain ⟨v', h5, h6⟩ := inv_iter h1 h2 m (i + 1) n k' (by omega) (by omega) h4
  refine ⟨v', ?_, h6⟩
  rw [iter, h3]
  exact h5
end Go.Proofs.Ytakmjjikiefheaa.Lib
