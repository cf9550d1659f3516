/- An interpreter over plain values for translated functions, and that it says what the model does (calls, statements, loops, arguments). No condition. -/
import Derived.Test.YtcladakiniekcaaVmLibOne
import Derived.Great.BuildSlice
import Derived.StillTail
import Derived.WalkKit
import Derived.ProofKit
import Derived.OpenShut
import Derived.ShutString
import Derived.ChangeOld
import Derived.Below
import Derived.SizedLaws
import Derived.KernelRfl
/- Appends. No condition. -/
namespace Go.Proofs.Ytcladakiniekcaa.Lib
open Go Go.RowKit
set_option linter.unusedVariables false
set_option linter.unusedSimpArgs false
/-- A slice value whose elements can be read. -/
def Row (ok : Nat → Prop) (w : World) (t : Ty) (l : List t.T) (v : Value) : Prop :=
  ∃ A c, v = .slice A l.length c ∧ (0 < l.length → ∃ ad : Addr, A = some ad ∧ ∀ i x, l[i]? = some x → ∃ c, c.length = t.sz ∧ Rp ok w t x c ∧ ∀ q u, c[q]? = some u → w.cell? (ad.add (i * t.sz + q)) = some u)
theorem Row.of_Rp {ok : Nat → Prop} {w : World} {e : TypeId} {t : Ty} {l : List t.T} {v : Value} (h : Rp ok w (.sl e t) l [v]) : Row ok w t l v := by
  simp only [Rp] at h
  obtain ⟨A, c, h1, _, _, h2⟩ := h
  simp only [List.cons.injEq, and_true] at h1
  refine ⟨A, c, h1, fun hp => ?_⟩
  obtain ⟨ad, h3, _, h4⟩ := h2 hp
  exact ⟨ad, h3, h4⟩
theorem Row.of_own {ok : Nat → Prop} {w : World} {e : TypeId} {t : Ty} {l : List t.T} {v : Value} {xs : List Value} {g : Option Nat} (hx : Elems ok w t l xs)
    (h : match g with | some g => w.ownsRow 0 e t.sz v l.length xs ∧ v.ownBlock = some g | none => l = [] ∧ ∃ A, v = .slice A 0 0) : Row ok w t l v := by
  cases g with
  | none =>
    obtain ⟨rfl, A, rfl⟩ := h
    exact ⟨A, 0, rfl, fun hp => absurd hp (by simp)⟩
  | some g =>
    obtain ⟨ho, hg⟩ := h
    rcases ho.2 with ⟨rfl, _⟩ | ⟨g', cap, cur, rfl, _⟩
    · cases hg
    · refine ⟨_, cap, rfl, fun hp => ⟨_, rfl, fun i x hxi => ⟨_, (hx.2 i x hxi).len, hx.2 i x hxi, fun q u hq => ?_⟩⟩⟩
      rw [List.getElem?_take] at hq
      split at hq
      · rw [List.getElem?_drop] at hq
        exact ho.cells (g := g') rfl _ u hq
      · cases hq
theorem Row.sub {ok : Nat → Prop} {w : World} {t : Ty} {l : List t.T} {A : Option Addr} {c off len : Nat} {v : Value} (h : Row ok w t l (.slice A l.length c)) (hle : off + len ≤ l.length) (hv : subV A c t.sz off len v) : Row ok w t ((l.drop off).take len) v := by
  obtain ⟨A', c', h1, h4⟩ := h
  simp only [Value.slice.injEq, true_and] at h1
  obtain ⟨rfl, rfl⟩ := h1
  have hl : ((l.drop off).take len).length = len := by rw [List.length_take, List.length_drop]; omega
  have hget : ∀ i x, ((l.drop off).take len)[i]? = some x → i < len ∧ l[off + i]? = some x := by
    intro i x hx
    rw [List.getElem?_take] at hx
    split at hx
    · rw [List.getElem?_drop] at hx; exact ⟨by assumption, hx⟩
    · cases hx
  rcases hv with ⟨rfl, rfl⟩ | ⟨h5, h6, ad, rfl, rfl⟩ | ⟨rfl, _, A', c', rfl, hc'⟩
  · refine ⟨A, c, by rw [hl], fun hp => ?_⟩
    obtain ⟨ad, hA, hr⟩ := h4 (by omega)
    refine ⟨ad, hA, fun i x hx => ?_⟩
    have := (hget i x hx).2
    rw [Nat.zero_add] at this
    exact hr i x this
  · refine ⟨some (ad.add (off * t.sz)), c - off, by rw [hl], fun hp => ?_⟩
    obtain ⟨ad', hA, hr⟩ := h4 (by omega)
    cases hA
    refine ⟨_, rfl, fun i x hx => ?_⟩
    obtain ⟨cs, hcl, hcr, hcc⟩ := hr _ x (hget i x hx).2
    refine ⟨cs, hcl, hcr, fun q u hq => ?_⟩
    rw [addr_add_add, ← Nat.add_assoc, ← Nat.add_mul]
    exact hcc q u hq
  · exact ⟨A', c', by simp, fun hp => by simp at hp⟩
theorem Elems.cons {ok : Nat → Prop} {w : World} {t : Ty} {x : t.T} {l : List t.T} {c xs : List Value} (h0 : Rp ok w t x c) (h : Elems ok w t l xs) : Elems ok w t (x :: l) (c ++ xs) := by
  have hc := h0.len
  refine ⟨by rw [List.length_append, List.length_cons, hc, h.1, Nat.succ_mul]; omega, fun j p hp => ?_⟩
  cases j with
  | zero =>
    simp only [List.getElem?_cons_zero, Option.some.injEq] at hp
    subst hp
    rw [Nat.zero_mul, List.drop_zero, ← hc, List.take_left]
    exact h0
  | succ j =>
    rw [List.getElem?_cons_succ] at hp
    have := h.2 j p hp
    rw [Nat.succ_mul, Nat.add_comm, ← hc, ← List.drop_drop, List.drop_left, hc]
    exact this
theorem Elems.append {ok : Nat → Prop} {w : World} {t : Ty} {m : List t.T} {ys : List Value} (hm : Elems ok w t m ys) : ∀ {l : List t.T} {xs : List Value}, Elems ok w t l xs → Elems ok w t (l ++ m) (xs ++ ys)
  | [], xs, h => by
    have : xs = [] := List.eq_nil_of_length_eq_zero (by simpa using h.1)
    subst this
    exact hm
  | x :: l, xs, h => by
    have hl := h.1
    rw [List.length_cons, Nat.succ_mul] at hl
    have h0 := h.2 0 x rfl
    rw [Nat.zero_mul, List.drop_zero] at h0
    have hd : Elems ok w t l (xs.drop t.sz) := by
      refine ⟨by rw [List.length_drop]; omega, fun j p hp => ?_⟩
      have := h.2 (j + 1) p (by simpa using hp)
      rwa [Nat.succ_mul, Nat.add_comm, ← List.drop_drop] at this
    have := Elems.cons h0 (Elems.append hm hd)
    rw [← List.append_assoc, List.take_append_drop] at this
    exact this
theorem elems_take {ok : Nat → Prop} {w : World} {t : Ty} {l : List t.T} {xs : List Value} (h : Elems ok w t l xs) {n : Nat} (hn : n ≤ l.length) : Elems ok w t (l.take n) (xs.take (n * t.sz)) := by
  have hle : n * t.sz ≤ l.length * t.sz := Nat.mul_le_mul_right _ hn
  refine ⟨by rw [List.length_take, List.length_take, h.1]; rw [Nat.min_eq_left hn]; omega, fun j p hp => ?_⟩
  rw [List.getElem?_take] at hp
  split at hp
  · rename_i hj
    have hj' : j * t.sz + t.sz ≤ n * t.sz := by rw [← Nat.succ_mul]; exact Nat.mul_le_mul_right _ hj
    have := h.2 j p hp
    have he : (((xs.take (n * t.sz)).drop (j * t.sz)).take t.sz) = (xs.drop (j * t.sz)).take t.sz := by
      rw [List.drop_take, List.take_take, Nat.min_eq_left (by omega)]
    rw [he]
    exact this
  · cases hp
theorem row_flat {ok : Nat → Prop} {w : World} {t : Ty} (ad : Addr) : ∀ (l : List t.T) (o : Nat), (∀ i x, l[i]? = some x → ∃ c, c.length = t.sz ∧ Rp ok w t x c ∧ ∀ q u, c[q]? = some u → w.cell? (ad.add (o + (i * t.sz + q))) = some u) →
    ∃ news, Elems ok w t l news ∧ (∀ j u, news[j]? = some u → w.cell? (ad.add (o + j)) = some u) ∧ ∀ u ∈ news, u.oneCell' = true
  | [], o, h => ⟨[], ⟨by simp, fun j p hp => by simp at hp⟩, fun j u hu => by simp at hu, fun u hu => by cases hu⟩
  | x :: l, o, h => by
    obtain ⟨c, h1, h2, h3⟩ := h 0 x rfl
    obtain ⟨news, h4, h5, h6⟩ := row_flat ad l (o + t.sz) (fun i x hx => by
      obtain ⟨c, h1, h2, h3⟩ := h (i + 1) x (by simpa using hx)
      refine ⟨c, h1, h2, fun q u hu => ?_⟩
      have := h3 q u hu
      rwa [show o + ((i + 1) * t.sz + q) = o + t.sz + (i * t.sz + q) by rw [Nat.succ_mul]; omega] at this)
    refine ⟨c ++ news, Elems.cons h2 h4, fun j u hu => ?_, fun u hu => ?_⟩
    · rcases Nat.lt_or_ge j c.length with hj | hj
      · rw [List.getElem?_append_left hj] at hu
        have := h3 j u hu
        rwa [Nat.zero_mul, Nat.zero_add] at this
      · rw [List.getElem?_append_right hj] at hu
        have := h5 _ u hu
        rwa [show o + t.sz + (j - c.length) = o + j by omega] at this
    · rcases List.mem_append.1 hu with hu | hu
      · exact h2.one u hu
      · exact h6 u hu
/-- What a row of one's own is, by its own block (none: nothing in it yet). -/
def Own (w : World) (e : TypeId) (sz : Nat) (v : Value) (n : Nat) (xs : List Value) : Option Nat → Prop
  | some g => w.ownsRow 0 e sz v n xs ∧ v.ownBlock = some g
  | none => n = 0 ∧ xs = [] ∧ ∃ A, v = .slice A 0 0
theorem append_run {P : Program} {w : World} {t e ty : TypeId} {ti : TypeInfo} {z : Value} {τ : Ty} (ht : P.underlying t = some (.slice e)) (hi : P.info? e = some ti) (hz : ti.zero = some z) (hsz : ti.size = τ.sz) (hzc : z.cells.size = τ.sz)
    {v : Value} {n : Nat} {xs : List Value} {g : Option Nat} (hv : Own w e τ.sz v n xs g) {ok : Nat → Prop} {m : List τ.T} {u : Value} (hu : Row ok w τ m u) (hle : (n + m.length) * ti.bytes ≤ 140737488351232) (hby : ti.bytes ≠ 0) :
    ∃ v' w' g' news, (Builtin.append_ #[t, t] ty #[v, u]).run P w = .ok v' w' ∧ Elems ok w τ m news ∧ Own w' e τ.sz v' (n + m.length) (xs ++ news) g' ∧
      w'.os = w.os ∧ w'.tape = w.tape ∧ w'.output = w.output ∧ w.heap.size ≤ w'.heap.size ∧ (∀ k, k < w.heap.size → g ≠ some k → w'.heap[k]? = w.heap[k]?) ∧ (∀ k, g' = some k → g = some k ∨ w.heap.size ≤ k) := by
  have h63 : n + m.length ≤ maxLen := by
    have := Nat.le_trans (Nat.le_mul_of_pos_right (n + m.length) (Nat.pos_of_ne_zero hby)) hle
    unfold maxLen; omega
  obtain ⟨A, c, rfl, hr⟩ := hu
  rcases Nat.eq_zero_or_pos m.length with hm | hm
  · have hm' : m = [] := List.eq_nil_of_length_eq_zero hm
    subst hm'
    refine ⟨v, w, g, [], ?_, ⟨by simp, fun j p hp => by simp at hp⟩, by simpa using hv, rfl, rfl, rfl, Nat.le_refl _, fun _ _ _ => rfl, fun k hk => .inl hk⟩
    have hform : ∃ B n' cap, v = .slice B n' cap ∧ n' ≤ cap := by
      cases g with
      | none => obtain ⟨_, _, A, rfl⟩ := hv; exact ⟨A, 0, 0, rfl, Nat.le_refl _⟩
      | some g =>
        rcases hv.1.2 with ⟨rfl, _⟩ | ⟨g', cap, cur, rfl, _, _, h, _⟩
        · exact ⟨_, _, _, rfl, Nat.le_refl _⟩
        · exact ⟨_, _, _, rfl, h⟩
    obtain ⟨B, n', cap, rfl, hle'⟩ := hform
    cases A <;> cases B <;> simp [Builtin.append_, run_underlying ht, sizeOf, typeInfo, hi, Builtin.lenOf, Builtin.firstCells, Go.loadCells, loadCellsFrom, hle', storeCells]
  · obtain ⟨ad, hA, hrd⟩ := hr hm
    subst hA
    obtain ⟨news, h1, h2, h3⟩ := row_flat ad m 0 (fun i x hx => by
      obtain ⟨c, h1, h2, h3⟩ := hrd i x hx
      exact ⟨c, h1, h2, fun q u hu => by rw [Nat.zero_add]; exact h3 q u hu⟩)
    simp only [Nat.zero_add] at h2
    have own : ∀ (hw : w.ownsRow 0 e τ.sz v n xs), g = v.ownBlock → ∃ v' w' g' news, (Builtin.append_ #[t, t] ty #[v, .slice (some ad) m.length c]).run P w = .ok v' w' ∧ Elems ok w τ m news ∧ Own w' e τ.sz v' (n + m.length) (xs ++ news) g' ∧
      w'.os = w.os ∧ w'.tape = w.tape ∧ w'.output = w.output ∧ w.heap.size ≤ w'.heap.size ∧ (∀ k, k < w.heap.size → g ≠ some k → w'.heap[k]? = w.heap[k]?) ∧ (∀ k, g' = some k → g = some k ∨ w.heap.size ≤ k) := by
      intro hw hg
      obtain ⟨v', w', hrun, ho, hgr, hnil⟩ := run_append_own (P := P) w 0 t ty e ti z τ.sz ti.bytes ht hi hz hsz rfl hzc (Ty.sz_pos τ) v n xs hw ad m.length c news h1.1 h2 h3 h63 (by omega) (Nat.zero_le _)
      have hob : ∃ k, v'.ownBlock = some k := by
        rcases ho.2 with ⟨_, h⟩ | ⟨g', cap, cur, rfl, _⟩
        · omega
        · exact ⟨g', rfl⟩
      obtain ⟨k, hk⟩ := hob
      refine ⟨v', w', some k, news, hrun, h1, ⟨ho, hk⟩, hgr.os, hgr.tape, hgr.output, hgr.size, fun k' hk' hne => hgr.block k' hk' (by rw [← hg]; exact Ne.symm hne), fun k' hk' => ?_⟩
      cases hk'
      by_cases hlt : k < w.heap.size
      · left
        have hl : news.length = m.length * ti.size := by rw [h1.1, hsz]
        rcases hw.2 with ⟨rfl, rfl⟩ | ⟨g0, cap, cur, rfl, hb0, hg0, hnc, hcm, hcs, htake⟩
        · have hr := run_append_nil (P := P) w t ty e ti z ht hi hz ad m.length c news hl h2 hm (by unfold maxLen at h63; omega) (by simp only [Nat.zero_add] at hle; omega)
          rw [hrun] at hr
          cases hr
          simp only [Value.ownBlock, Option.some.injEq] at hk
          omega
        · by_cases hroom : n + m.length ≤ cap
          · have hr := run_append_room (P := P) w t ty e ti ht hi g0 n cap cur hg0 ad m.length c news hl h2 h3 hroom (by rw [hl, hcs, hsz, ← Nat.add_mul]; exact Nat.mul_le_mul_right _ hroom)
            rw [hrun] at hr
            cases hr
            rw [hg, ← hk]
            rfl
          · have hr := run_append_grow (P := P) w t ty e ti z ht hi hz ⟨g0, 0, none⟩ n cap xs (by rw [hw.1, hsz]) (hw.cells (g := g0) rfl) ad m.length c news hl h2 (by omega) (by unfold maxLen at h63; omega) (growslice_fits (by omega) (by omega))
            rw [hrun] at hr
            cases hr
            simp only [Value.ownBlock, Option.some.injEq] at hk
            omega
      · right; omega
    cases g with
    | some g => exact own hv.1 hv.2.symm
    | none =>
      obtain ⟨rfl, rfl, A, rfl⟩ := hv
      cases A with
      | none => exact own (World.ownsRow_nil w 0 e τ.sz) rfl
      | some a0 =>
        have hr := run_append_grow (P := P) w t ty e ti z ht hi hz a0 0 0 [] (by simp) (fun j u hu => by simp at hu) ad m.length c news (by rw [h1.1, hsz]) h2 (by omega) (by unfold maxLen at h63; omega) (growslice_fits (by omega) (by omega))
        have hge := grownCap_ge w (0 + m.length) 0 e
        have hcm := grownCap_le_maxLen w (0 + m.length) 0 e h63
        refine ⟨_, _, some w.heap.size, news, hr, h1, ⟨⟨?_, .inr ⟨w.heap.size, _, _, rfl, Nat.zero_le _, heap_alloc_new w.drew _, hge, hcm, ?_, ?_⟩⟩, rfl⟩, rfl, rfl, rfl, by simp, fun k hk _ => heap_alloc_old w.drew _ hk, fun k hk => .inr (by cases hk; exact Nat.le_refl _)⟩
        · simp [h1.1]
        · simp only [Array.size_append, List.size_toArray, size_zeroCells, hzc, h1.1, List.length_nil, Nat.zero_add, ← Nat.add_mul] at hge ⊢
          congr 1
          omega
        · simp only [Array.toList_append, List.append_assoc, List.nil_append, Nat.zero_add]
          rw [← h1.1]
          exact List.take_left
end Go.Proofs.Ytcladakiniekcaa.Lib

/- Handles struck, and appends. No condition. -/
namespace Go.Proofs.Ytcladakiniekcaa.Lib
open Go Go.RowKit
set_option linter.unusedVariables false
set_option linter.unusedSimpArgs false
theorem strike_uses {p : Nat → Bool} {c : Cell} {d : Nat} (h : (c.strike p).uses d = true) : c.uses d = true ∧ p d = false := by
  cases c <;> simp only [Cell.strike] at h
  case sl j =>
    cases hp : p j with
    | true => rw [hp] at h; cases h
    | false => rw [hp] at h; have hj : (j == d) = true := h; exact ⟨hj, by rw [← eq_of_beq hj]; exact hp⟩
  case sub j o n =>
    cases hp : p j with
    | true => rw [hp] at h; cases h
    | false => rw [hp] at h; have hj : (j == d) = true := h; exact ⟨hj, by rw [← eq_of_beq hj]; exact hp⟩
  case ptr j i c =>
    cases hp : p j with
    | true => rw [hp] at h; cases h
    | false => rw [hp] at h; have hj : (j == d) = true := h; exact ⟨hj, by rw [← eq_of_beq hj]; exact hp⟩
  case fnp f js =>
    cases hp : js.any p with
    | true => rw [hp] at h; cases h
    | false =>
      rw [hp] at h
      have hj : js.contains d = true := h
      refine ⟨hj, ?_⟩
      rw [List.any_eq_false] at hp
      simpa using hp d (by simpa using hj)
  all_goals cases h
theorem strike_rc {ρ : CEnv} {w : World} {p : Nat → Bool} {c : Cell} {v : Value} (h : rc ρ w c v) : rc ρ w (c.strike p) v := by
  cases c <;> simp only [Cell.strike] <;> first | exact h | skip
  case sl j => cases p j <;> first | exact h | exact trivial
  case sub j o n => cases p j <;> first | exact h | exact trivial
  case ptr j i c => cases p j <;> first | exact h | exact trivial
  case fnp f js => cases js.any p <;> first | exact h | exact trivial
theorem strike_cells {ρ : CEnv} {w : World} {p : Nat → Bool} {cs : List Cell} {vs : List Value} (h : All2 (rc ρ w) cs vs) : All2 (rc ρ w) (cs.map (·.strike p)) vs :=
  h.map_left _ (fun _ _ _ h => strike_rc h)
theorem strike_rav {ρ : CEnv} {w : World} {p : Nat → Bool} {c : AV} {v : Value} (h : rav ρ w c v) : rav ρ w (c.strike p) v := by
  cases c with
  | one c => exact strike_rc h
  | agg cs => obtain ⟨vs, h0, h1⟩ := h; exact ⟨vs, h0, strike_cells h1⟩
  | tup ps =>
    obtain ⟨vs, h0, h1⟩ := h
    refine ⟨vs, h0, h1.map_left _ fun q v _ h => ?_⟩
    obtain ⟨g, cs⟩ := q
    cases g with
    | true => obtain ⟨vs, h0, h1⟩ := h; exact ⟨vs, h0, strike_cells h1⟩
    | false => obtain ⟨c, rfl, h⟩ := h; exact ⟨c.strike p, rfl, strike_rc h⟩
theorem strike_any {p : Nat → Bool} {cs : List Cell} {d : Nat} (h : (cs.map (·.strike p)).any (·.uses d) = true) : cs.any (·.uses d) = true ∧ p d = false := by
  obtain ⟨c, hc, hd⟩ := List.any_eq_true.1 h
  obtain ⟨c', hc', rfl⟩ := List.mem_map.1 hc
  obtain ⟨h1, h2⟩ := strike_uses hd
  exact ⟨List.any_eq_true.2 ⟨c', hc', h1⟩, h2⟩
theorem strike_av {p : Nat → Bool} {v : AV} {d : Nat} (h : (v.strike p).uses d = true) : v.uses d = true ∧ p d = false := by
  cases v with
  | one c => exact strike_uses h
  | agg cs => exact strike_any h
  | tup ps =>
    obtain ⟨q, hq, hd⟩ := List.any_eq_true.1 h
    obtain ⟨q', hq', rfl⟩ := List.mem_map.1 hq
    obtain ⟨h1, h2⟩ := strike_any hd
    exact ⟨List.any_eq_true.2 ⟨q', hq', h1⟩, h2⟩
theorem strike_blk {p : Nat → Bool} {b : Blk} {d : Nat} (h : (b.strike p).uses d = true) : b.uses d = true ∧ p d = false := by
  cases b with
  | box t cs => exact strike_any h
  | _ => cases h
section
variable {P : Program} {E : Env} {B : Nat} {O : Ow} {w0 w w' : World} {ρ ρ' : CEnv} {a : Act} {R : Type} {r : R} {sg sg' : Sig} {st : St}
theorem strike_rblk {p : Nat → Bool} {j : Nat} {b : Blk} (h : rblk ρ w j b) : rblk ρ w j (b.strike p) := by
  cases b with
  | box t cs => obtain ⟨g, vs, h0, h1, h2⟩ := h; exact ⟨g, vs, h0, h1, strike_cells h2⟩
  | arr e t l b => exact h
  | fro e t l b => exact h
theorem Mem.strike (h : Mem B O ρ sg w) {p : Nat → Bool} (hs : ∀ i b', sg'.get i = some b' → ∃ b, sg.get i = some b ∧ b' = b.strike p) (hd : ∀ d, (sg.get d).isSome = true → p d = false → (sg'.get d).isSome = true) : Mem B O ρ sg' w := by
  have hown : ∀ i g, Owns ρ sg' i g → Owns ρ sg i g := by
    intro i g ho
    obtain ⟨b', h1, h2, h3⟩ := owns_iff.1 ho
    obtain ⟨b, h4, rfl⟩ := hs i b' h1
    refine owns_iff.2 ⟨b, h4, ?_, ?_⟩
    · rintro e t l q rfl
      exact h2 e t l q rfl
    · cases b with
      | box ty cs =>
        rcases h3 with ⟨_, _, _, h3⟩ | ⟨_, _, _, _, h3, _⟩
        · exact .inl ⟨_, _, rfl, h3⟩
        · cases h3
      | arr e t l q =>
        rcases h3 with ⟨_, _, h3, _⟩ | ⟨_, _, _, _, _, h3⟩
        · cases h3
        · exact .inr ⟨_, _, _, _, rfl, h3⟩
      | fro e t l q => exact absurd rfl (h2 e t l q)
  exact ⟨fun i b' hi => by obtain ⟨b, h1, rfl⟩ := hs i b' hi; exact strike_rblk (h.blk i b h1), fun i k g hi hk => h.inj i k g (hown i g hi) (hown k g hk), fun i g hi => h.old i g (hown i g hi), h.okb,
    fun q g hq i hi => h.oko q g hq i (hown i g hi), h.okm, h.okx, h.oky, fun i b' d hi hu => by
      obtain ⟨b, h1, rfl⟩ := hs i b' hi
      obtain ⟨h2, h3⟩ := strike_blk hu
      exact hd d (h.dom i b d h1 h2) h3⟩
theorem Sim.loosen (h : Sim B O w0 ρ st a w) (j : Nat) : Sim B O w0 ρ (st.loosen j) a w := by
  have hget : ∀ i, Sig.get i (st.loosen j).sg = (st.sg.get i).map (·.strike (· == j)) := fun i => Sig.get_map _ _ _
  refine ⟨h.mem.strike (p := (· == j)) (fun i b' hi => ?_) (fun d hd _ => ?_), by simp [St.loosen, h.len], fun i v hi => ?_, fun i v d hi hd => ?_, h.defers, h.fr, h.base, h.pin⟩
  · rw [hget, Option.map_eq_some_iff] at hi
    obtain ⟨b, h1, h2⟩ := hi
    exact ⟨b, h1, h2.symm⟩
  · rw [hget, Option.isSome_map]; exact hd
  · simp only [St.loosen, List.getElem?_map, Option.map_eq_some_iff] at hi
    obtain ⟨v', h1, rfl⟩ := hi
    obtain ⟨u, h2, h3⟩ := h.sl i v' h1
    exact ⟨u, h2, strike_rav h3⟩
  · simp only [St.loosen, List.getElem?_map, Option.map_eq_some_iff] at hi
    obtain ⟨v', h1, rfl⟩ := hi
    rw [hget, Option.isSome_map]
    exact h.dom i v' d h1 (strike_av hd).1
theorem row_sound (h : Mem B O ρ sg w) {τ : Ty} {c : Cell} {u : Value} {l : List τ.T} {b : Bool} (hr : rowOf τ sg c = some (l, b)) (hc : rc ρ w c u) : Row (ρ.ok b) w τ l u := by
  have own : ∀ {j : Nat} {e : TypeId} {l : List τ.T} {b : Bool}, sg.get j = some (.arr e τ l b) → ∃ v g, ρ.loc j = .arr v g τ.sz ∧ Row (ρ.ok b) w τ l v := by
    intro j e l b hj
    obtain ⟨v, g, xs, h1, h2, h3⟩ := h.blk j _ hj
    exact ⟨v, g, h1, Row.of_own h2 h3⟩
  have fro : ∀ {j : Nat} {e : TypeId} {l : List τ.T} {b : Bool}, sg.get j = some (.fro e τ l b) → ∃ v g, ρ.loc j = .arr v g τ.sz ∧ Row (ρ.ok b) w τ l v := by
    intro j e l b hj
    obtain ⟨v, g, h1, h2⟩ := h.blk j _ hj
    exact ⟨v, g, h1, Row.of_Rp h2⟩
  have sub : ∀ {j o n : Nat} {l : List τ.T} {b : Bool} {u v : Value} {g : Option Nat}, ρ.loc j = .arr v g τ.sz → Row (ρ.ok b) w τ l v → rc ρ w (.sub j o n) u → Row (ρ.ok b) w τ ((l.drop o).take n) u := by
    intro j o n l b u v g h1 h2 hc
    obtain ⟨A, m, cp, g', sz, h3, h4, h5⟩ := hc
    rw [h1] at h3; cases h3
    have h6 := h2
    obtain ⟨A', c', h6, _⟩ := h6
    cases h6
    exact Row.sub h2 h4 h5
  unfold rowOf at hr
  split at hr
  · cases hr; exact ⟨none, 0, hc, fun hp => by simp at hp⟩
  · cases hr
    obtain ⟨A, hc⟩ := hc
    exact ⟨A, 0, hc, fun hp => by simp at hp⟩
  · split at hr
    · rename_i ht
      subst ht
      cases hr
      exact Row.of_Rp hc
    · cases hr
  · rename_i j
    split at hr
    · rename_i e t' l' b' hj
      split at hr
      · rename_i ht
        subst ht
        cases hr
        obtain ⟨v, g, h1, h2⟩ := own hj
        obtain ⟨g', sz, h3⟩ := hc
        rw [h1] at h3; cases h3
        exact h2
      · cases hr
    · rename_i e t' l' b' hj
      split at hr
      · rename_i ht
        subst ht
        cases hr
        obtain ⟨v, g, h1, h2⟩ := fro hj
        obtain ⟨g', sz, h3⟩ := hc
        rw [h1] at h3; cases h3
        exact h2
      · cases hr
    · cases hr
  · rename_i j o n
    split at hr
    · rename_i e t' l' b' hj
      split at hr
      · rename_i ht
        subst ht
        cases hr
        obtain ⟨v, g, h1, h2⟩ := own hj
        exact sub h1 h2 hc
      · cases hr
    · rename_i e t' l' b' hj
      split at hr
      · rename_i ht
        subst ht
        cases hr
        obtain ⟨v, g, h1, h2⟩ := fro hj
        exact sub h1 h2 hc
      · cases hr
    · cases hr
  · cases hr
end
end Go.Proofs.Ytcladakiniekcaa.Lib

/- Appends, and slices written out. No condition. -/
namespace Go.Proofs.Ytcladakiniekcaa.Lib
open Go Go.RowKit
set_option linter.unusedVariables false
set_option linter.unusedSimpArgs false
section
variable {P : Program} {E : Env} {B : Nat} {O : Ow} {w0 w w' : World} {ρ ρ' : CEnv} {a : Act} {R : Type} {r : R} {sg sg' : Sig} {st : St}
theorem ok_or {ρ : CEnv} (hm : ∀ g, ρ.ok false g → ρ.ok true g) (b b' : Bool) : (∀ g, ρ.ok b g → ρ.ok (b || b') g) ∧ ∀ g, ρ.ok b' g → ρ.ok (b || b') g := by
  cases b <;> cases b' <;> simp <;> exact hm
/-- What an append starts from. -/
theorem target_pin {d : Nat} {e : TypeId} {s : Cell} {j : Nat} (ht : target st d e s = some j) : j < PIN := by
  unfold target at ht
  split at ht
  · simp only [bifs] at ht
    split at ht
    · rename_i hn; cases ht; exact (Sig.free_iff.1 hn).2
    · cases ht
  · simp only [bifs] at ht
    split at ht
    · rename_i hn; cases ht; exact (Sig.free_iff.1 hn).2
    · cases ht
  · split at ht
    · simp only [bifs] at ht
      split at ht
      · rename_i hn
        cases ht
        simp only [Bool.and_eq_true, Nat.blt_eq] at hn
        exact hn.2
      · cases ht
    · cases ht
  · split at ht
    · simp only [bifs] at ht
      split at ht
      · rename_i hn
        cases ht
        simp only [Bool.and_eq_true, Nat.blt_eq] at hn
        exact hn.2
      · cases ht
    · cases ht
  · cases ht
theorem target_sound (h : Mem B O ρ st.sg w) {d : Nat} {e : TypeId} {τ : Ty} {s : Cell} {u : Value} {j : Nat} {l : List τ.T} {b : Bool} (hs : rc ρ w s u) (ht : target st d e s = some j) (hl : rowOf τ st.sg s = some (l, b)) :
    ∃ g xs, Own w e τ.sz u l.length xs g ∧ Elems (ρ.ok b) w τ l xs ∧ (∀ k, g = some k → Owns ρ st.sg j k) ∧ (st.sg.get j = none ∧ j = d ∨ ∃ e' τ' l' b', st.sg.get j = some (.arr e' τ' l' b')) := by
  unfold target at ht
  unfold rowOf at hl
  split at ht
  · simp only [bifs] at ht
    split at ht
    · rename_i hn
      cases ht
      cases hl
      have hs : u = _ := hs
      exact ⟨none, [], ⟨rfl, rfl, none, hs⟩, ⟨by simp, fun j p hp => by simp at hp⟩, (fun k hk => by cases hk), .inl ⟨(Sig.free_iff.1 hn).1, rfl⟩⟩
    · cases ht
  · simp only [bifs] at ht
    split at ht
    · rename_i hn
      cases ht
      cases hl
      obtain ⟨A, hs⟩ := hs
      exact ⟨none, [], ⟨rfl, rfl, A, hs⟩, ⟨by simp, fun j p hp => by simp at hp⟩, (fun k hk => by cases hk), .inl ⟨(Sig.free_iff.1 hn).1, rfl⟩⟩
    · cases ht
  · rename_i j'
    split at ht
    · rename_i e' τ' l' b' hj
      rw [bifs] at ht
      split at ht
      · rename_i he
        cases ht
        simp only [Bool.and_eq_true, beq_iff_eq] at he
        obtain ⟨he, _⟩ := he
        subst he
        simp only [hj] at hl
        split at hl
        · rename_i ht
          subst ht
          cases hl
          obtain ⟨v, g, xs, h1, h2, h3⟩ := h.blk j _ hj
          obtain ⟨g', sz, h4⟩ := hs
          rw [h1] at h4; cases h4
          refine ⟨g, xs, ?_, h2, fun k hk => owns_iff.2 ⟨_, hj, by simp, .inr ⟨_, _, _, _, rfl, u, τ'.sz, by rw [h1, hk]⟩⟩, .inr ⟨_, _, _, _, hj⟩⟩
          cases g with
          | none =>
            obtain ⟨rfl, A, rfl⟩ := h3
            exact ⟨rfl, List.eq_nil_of_length_eq_zero (by simpa using h2.1), A, rfl⟩
          | some g => exact h3
        · cases hl
      · cases ht
    · cases ht
  · rename_i j' o n
    split at ht
    · rename_i e' τ' l' b' hj
      rw [bifs] at ht
      split at ht
      · rename_i he
        cases ht
        simp only [Bool.and_eq_true, beq_iff_eq] at he
        obtain ⟨he, _⟩ := he
        subst he
        simp only [hj] at hl
        split at hl
        · rename_i ht
          subst ht
          have hl : some ((l'.drop 0).take n, b') = some (l, b) := hl
          cases hl
          obtain ⟨v, g, xs, h1, h2, h3⟩ := h.blk j _ hj
          obtain ⟨A, m, c, g', sz, h4, h5, h6⟩ := hs
          rw [h1] at h4; cases h4
          have hu : u = .slice A n c := by
            rcases h6 with ⟨_, h6⟩ | ⟨_, _, ad, rfl, h6⟩ | ⟨_, h6, _⟩
            · exact h6
            · rw [h6]; simp [Addr.add]
            · exact absurd rfl h6
          subst hu
          rw [List.drop_zero]
          cases g with
          | none =>
            obtain ⟨rfl, A', h7⟩ := h3
            cases h7
            have hn : n = 0 := by omega
            subst hn
            exact ⟨none, [], ⟨by simp, rfl, _, rfl⟩, ⟨by simp, fun j p hp => by simp at hp⟩, (fun k hk => by cases hk), .inr ⟨_, _, _, _, hj⟩⟩
          | some g =>
            obtain ⟨⟨h7, h8⟩, h9⟩ := h3
            rcases h8 with ⟨h8, _⟩ | ⟨g', cap, cur, h8, hb, hg, hle, hm, hcs, htake⟩
            · cases h8; cases h9
            · cases h8
              simp only [Value.ownBlock, Option.some.injEq] at h9
              subst h9
              have hnl : (l'.take n).length = n := by rw [List.length_take]; omega
              have hmul : n * τ'.sz ≤ l'.length * τ'.sz := Nat.mul_le_mul_right _ (by omega)
              refine ⟨some g', xs.take (n * τ'.sz), ⟨⟨?_, .inr ⟨g', c, cur, by rw [hnl], hb, hg, by omega, hm, hcs, ?_⟩⟩, rfl⟩, elems_take h2 (by omega), fun k hk => owns_iff.2 ⟨_, hj, by simp, .inr ⟨_, _, _, _, rfl, _, τ'.sz, by rw [h1, hk]⟩⟩, .inr ⟨_, _, _, _, hj⟩⟩
              · rw [hnl, List.length_take, h7]; omega
              · rw [hnl, ← htake, List.take_take, Nat.min_eq_left hmul]
        · cases hl
      · cases ht
    · cases ht
  · cases ht
theorem vappend_sound (hE : Env.Ok P E) (h : Sim B O w0 ρ st a w) {o : Oper} {c : Call} {t : TypeId} {s x : Operand} (ho : o.op = .call c) (hc : c.callee = .builtin .append) (ha : c.args.toList = [s, x]) (hat : c.argTypes.toList = [t, t]) {k : St → Option R} (hk : vappend E st o.dst t (evalO st.sl s) (evalO st.sl x) k = some r) :
    ∃ ρ' st' w' v, k st' = some r ∧ (execOp a.eval o).run P w = .ok (.value v) w' ∧ Sim B O w0 ρ' st' (a.put o.dst v) w' := by
  have ha := toArr ha
  have hat := toArr hat
  unfold vappend at hk
  split at hk
  · rename_i e sz by_ ty d cs cx ht hd hs hx
    split at hk
    · rename_i td sz' by' τ he
      split at hk
      · rename_i l b m b' hl hm
        split at hk
        · rename_i j hj
          split at hk
          · rename_i hle
            rw [bifs] at hk
            split at hk
            · rename_i hby
              have hs' := (h.eval s).1
              have hx' := (h.eval x).1
              rw [hs] at hs'
              rw [hx] at hx'
              obtain ⟨g, xs, h1, h2, h3, h4⟩ := target_sound h.mem hs' hj hl
              have hjp := target_pin hj
              have hrow := row_sound h.mem hm hx'
              obtain ⟨ti, h5, h6, h7, h8⟩ := (hE.ti _ _ he).info
              obtain ⟨h9, z, h10, h11⟩ := h8 τ rfl
              simp only at h6 h7 h9
              have hok := ok_or h.mem.okm b b'
              obtain ⟨v', w', g', news, hrun, h12, h13, hos, htape, hout, hsize, hheap, hg'⟩ := append_run (P := P) (ty := o.type) (slice_run (hE.ti _ _ ht)) h5 h10 (h6.trans h9.symm) (by rw [h11]; simp [Ty.zv_length]) h1 hrow (by rw [h7, ← List.length_append]; exact hle) (by rw [h7]; simpa using hby)
              have hl' := h.loosen j
              have hno : ∀ (i : Nat) (v : AV) (d' : Nat), (st.loosen j).sl[i]? = some v → v.uses d' = true → d' ≠ j := by
                intro i v d' hi hu
                simp only [St.loosen, List.getElem?_map, Option.map_eq_some_iff] at hi
                obtain ⟨v', _, rfl⟩ := hi
                have := (strike_av hu).2
                simpa using this
              have hnob : ∀ (i : Nat) (b : Blk) (d' : Nat), Sig.get i (st.loosen j).sg = some b → b.uses d' = true → d' ≠ j := by
                intro i b d' hi hu
                rw [show (st.loosen j).sg = st.sg.map fun q => (q.1, q.2.strike (· == j)) from rfl, Sig.get_map, Option.map_eq_some_iff] at hi
                obtain ⟨b', _, rfl⟩ := hi
                have := (strike_blk hu).2
                simpa using this
              have hownl : ∀ k, g = some k → Owns ρ (st.loosen j).sg j k := by
                intro k hk
                rcases h4 with ⟨h4, _⟩ | ⟨e', τ', l', q, h4⟩
                · obtain ⟨b0, hb0, _⟩ := owns_iff.1 (h3 k hk)
                  rw [h4] at hb0; cases hb0
                · obtain ⟨b0, hb0, _, hb1⟩ := owns_iff.1 (h3 k hk)
                  rw [h4] at hb0; cases hb0
                  rcases hb1 with ⟨_, _, hb1, _⟩ | ⟨_, _, _, _, _, hb1⟩
                  · cases hb1
                  · refine owns_iff.2 ⟨.arr e' τ' l' q, ?_, by simp, .inr ⟨_, _, _, _, rfl, hb1⟩⟩
                    rw [show (st.loosen j).sg = st.sg.map fun q => (q.1, q.2.strike (· == j)) from rfl, Sig.get_map, h4]
                    rfl
              have hge : ∀ k, k < w.heap.size → ¬ Owns ρ (st.loosen j).sg j k → w'.heap[k]? = w.heap[k]? := fun k hk hn => hheap k hk (fun e => hn (hownl k e))
              have hokh : ∀ q g0, ρ.ok q g0 → w'.heap[g0]? = w.heap[g0]? := fun q g0 hq => hge g0 (h.mem.okb q g0 hq) (hl'.mem.oko q g0 hq j)
              have hkp : Keeps B O w w' := ⟨hos, htape, hout, hsize, fun k hk hn => hheap k (Nat.lt_of_lt_of_le hk h.base) (fun e => by
                rcases h.mem.old j k (h3 k e) with h0 | h0
                · omega
                · exact hn h0)⟩
              have hM : Mem B O (ρ.upd j (.arr v' g' τ.sz)) ((st.loosen j).sg.put j (.arr e τ (l ++ m) (b || b'))) w' := by
                refine hl'.mem.renew h.base rfl (fun i hi => CEnv.upd_ne ρ _ hi) (fun i b0 d' hi hij hu => CEnv.upd_ne ρ _ (hnob i b0 d' hi hu)) hge hsize ?_ ?_ (fun d' hd' => by cases hd')
                · refine ⟨v', g', xs ++ news, CEnv.upd_same _ _ _, ?_, ?_⟩
                  · exact Elems.append (h12.step hok.2 (hokh b')) (h2.step hok.1 (hokh b))
                  · cases g' with
                    | some g' => rw [List.length_append]; exact h13
                    | none =>
                      obtain ⟨h14, h15, A, rfl⟩ := h13
                      rw [← List.length_append] at h14
                      exact ⟨List.eq_nil_of_length_eq_zero h14, A, rfl⟩
                · intro k hk
                  rw [CEnv.upd_same] at hk
                  cases g' with
                  | none => cases hk
                  | some g' =>
                    have hk : k = g' := hk
                    subst hk
                    rcases hg' k rfl with h0 | h0
                    · exact .inr (hownl k h0)
                    · exact .inl h0
              have hS := hl'.renew hM hkp (fun _ _ h => h) hokh (fun i v d' hi hu => CEnv.upd_ne ρ _ (hno i v d' hi hu)) (fun i hi => CEnv.upd_ne ρ _ (by omega))
              refine ⟨ρ.upd j (.arr v' g' τ.sz), _, w', v', hk, ?_, ?_⟩
              · unfold execOp
                simp [ho, hc, ha, hat, Sem.run_bind, resolve, invoke, builtin, hrun]
              · rw [hd]
                exact hS.put (some d) ⟨g', τ.sz, CEnv.upd_same _ _ _⟩ (fun d' hd' => by
                  have hd' : (j == d') = true := hd'
                  rw [← eq_of_beq hd', Sig.get_put, if_pos rfl]
                  rfl)
            · cases hk
          · cases hk
        · cases hk
      · cases hk
    · cases hk
  · cases hk
end
end Go.Proofs.Ytcladakiniekcaa.Lib

/- Slices written out. No condition. -/
namespace Go.Proofs.Ytcladakiniekcaa.Lib
open Go Go.RowKit
set_option linter.unusedVariables false
set_option linter.unusedSimpArgs false
section
variable {P : Program} {E : Env} {B : Nat} {O : Ow} {w0 w w' : World} {ρ ρ' : CEnv} {a : Act} {R : Type} {r : R} {sg sg' : Sig} {st : St}
theorem settleAV_sound (h : Mem B O ρ sg w) {v v' : AV} {u : Value} (hr : rav ρ w v u) (hs : settleAV sg v = some (sg', v')) :
    ∃ ρ', More ρ ρ' ∧ Mem B O ρ' sg' w ∧ Froze sg sg' ∧ rav ρ' w v' u ∧ ∀ d, v'.uses d = true → v.uses d = true := by
  unfold settleAV at hs
  split at hs
  · rename_i c
    split at hs
    · rename_i sg1 c' hc
      simp only [Option.some.injEq, Prod.mk.injEq] at hs
      obtain ⟨rfl, rfl⟩ := hs
      obtain ⟨ρ1, h1, h2, h3, h4, h5⟩ := settle_sound [c] sg ρ [u] _ _ h (.cons hr .nil) hc
      obtain ⟨u', h6, h7⟩ := h4.single
      cases h6
      exact ⟨ρ1, h1, h2, h3, h7, fun d hd => by have := h5 d (by simp only [List.any_cons, List.any_nil, Bool.or_false]; exact hd); simp only [List.any_cons, List.any_nil, Bool.or_false] at this; exact this⟩
    · cases hs
  · rename_i cs
    split at hs
    · rename_i sg1 cs' hc
      simp only [Option.some.injEq, Prod.mk.injEq] at hs
      obtain ⟨rfl, rfl⟩ := hs
      obtain ⟨vs, rfl, hr⟩ := hr
      obtain ⟨ρ1, h1, h2, h3, h4, h5⟩ := settle_sound cs sg ρ vs _ _ h hr hc
      exact ⟨ρ1, h1, h2, h3, ⟨vs, rfl, h4⟩, h5⟩
    · cases hs
  · simp only [Option.some.injEq, Prod.mk.injEq] at hs
    obtain ⟨rfl, rfl⟩ := hs
    exact ⟨ρ, More.refl _, h, Froze.refl _, hr, fun _ h => h⟩
theorem settleParts_sound : ∀ (ps : List (Nat × AV)) (sg : Sig) (ρ : CEnv) (us : List Value) (sg' : Sig) (ps' : List (Nat × AV)), Mem B O ρ sg w → All2 (fun q u => rav ρ w q.2 u) ps us → settleParts sg ps = some (sg', ps') →
    ∃ ρ', More ρ ρ' ∧ Mem B O ρ' sg' w ∧ Froze sg sg' ∧ All2 (fun q u => rav ρ' w q.2 u) ps' us ∧ ps'.map (·.1) = ps.map (·.1) ∧ ∀ d, ps'.any (·.2.uses d) = true → ps.any (·.2.uses d) = true
  | [], sg, ρ, us, sg', ps', h, hr, hs => by
    simp only [settleParts, Option.some.injEq, Prod.mk.injEq] at hs
    obtain ⟨rfl, rfl⟩ := hs
    exact ⟨ρ, More.refl _, h, Froze.refl _, hr, rfl, fun _ h => h⟩
  | (i, v) :: ps, sg, ρ, us, sg', ps', h, hr, hs => by
    simp only [settleParts] at hs
    cases hr with
    | @cons _ u0 _ us h0 h1 =>
    split at hs
    · rename_i sg1 v1 hv
      split at hs
      · rename_i sg2 ps2 hp
        simp only [Option.some.injEq, Prod.mk.injEq] at hs
        obtain ⟨rfl, rfl⟩ := hs
        obtain ⟨ρ1, a1, a2, a3, a4, a5⟩ := settleAV_sound h h0 hv
        obtain ⟨ρ2, b1, b2, b3, b4, b5, b6⟩ := settleParts_sound ps sg1 ρ1 us sg2 ps2 a2 (h1.imp fun q u _ hq => rav_step (a1.step w) (fun _ _ => trivial) hq) hp
        refine ⟨ρ2, a1.trans b1, b2, a3.trans b3, .cons (rav_step (b1.step w) (fun _ _ => trivial) a4) b4, by simp [b5], fun d hd => ?_⟩
        simp only [List.any_cons, Bool.or_eq_true] at hd ⊢
        exact hd.imp (a5 d) (b6 d)
      · cases hs
    · cases hs
theorem readElems_sound (h : Mem B O ρ sg w) {b : Bool} {τ : Ty} : ∀ (ps : List (Nat × AV)) (n : Nat) (us : List Value) (l : List τ.T), All2 (fun q u => rav ρ w q.2 u) ps us → (∀ d, ps.any (·.2.uses d) = true → (sg.get d).isSome = true) → readElems b τ ps n = some l →
    Elems (ρ.ok b) w τ l (us.flatMap fun u => u.cells.toList) ∧ (∀ u ∈ us, u.cells.size = τ.sz) ∧ l.length = us.length ∧ ps.map (·.1) = List.range' n us.length
  | [], n, us, l, hr, hu, hs => by
    cases hr
    simp only [readElems, Option.some.injEq] at hs
    subst hs
    exact ⟨⟨by simp, fun j p hp => by simp at hp⟩, (fun u hu => by cases hu), rfl, rfl⟩
  | (i, v) :: ps, n, us, l, hr, hu, hs => by
    cases hr with
    | @cons _ u0 _ us h0 h1 =>
    simp only [readElems, bifs] at hs
    split at hs
    · rename_i hi
      simp only [beq_iff_eq] at hi
      split at hs
      · rename_i cs hc
        split at hs
        · rename_i x hx
          split at hs
          · rename_i xs hxs
            simp only [Option.some.injEq] at hs
            subst hs
            obtain ⟨vs, a1, a2, _, _⟩ := rav_cells h h0 hc (fun d hd => hu d (by simp only [List.any_cons, Bool.or_eq_true]; exact .inl hd))
            have a3 := read_sound h.okm hx a2
            obtain ⟨b1, b2, b3, b4⟩ := readElems_sound h ps (n + 1) us xs h1 (fun d hd => hu d (by simp only [List.any_cons, Bool.or_eq_true]; exact .inr hd)) hxs
            refine ⟨?_, fun u hu => ?_, by simp [b3], by simp [b4, hi, List.range'_succ]⟩
            · rw [List.flatMap_cons, a1]
              exact Elems.cons a3 b1
            · rcases List.mem_cons.1 hu with rfl | hu
              · rw [a1, List.size_toArray]; exact a3.len
              · exact b2 u hu
          · cases hs
        · cases hs
      · cases hs
    · cases hs
theorem vbuild_sound (hE : Env.Ok P E) (h : Sim B O w0 ρ st a w) {o : Oper} {t e : TypeId} {n d : Nat} {ps : Array (Nat × Operand)} {ps' : List (Nat × AV)} {τ : Ty} {sz by_ sz' by' : Nat} {ty : Option Ty} {td : TD} (ho : o.op = .buildSlice t n ps) (hd : o.dst = some d)
    (hset : settleParts st.sg (ps.toList.map fun p => (p.1, evalO st.sl p.2)) = some (sg, ps')) (ht : E.ti.lookup t = some ⟨.slice e, sz, by_, ty⟩) (he : E.ti.lookup e = some ⟨td, sz', by', some τ⟩) (hn : sg.get d = none ∧ d < PIN) (hln : n = ps'.length) (hsm : n * τ.sz ≤ 16777216)
    {b : Bool} {l : List τ.T} (hl : readElems b τ ps' 0 = some l) :
    ∃ ρ' w' v, (execOp a.eval o).run P w = .ok (.value v) w' ∧ Sim B O w0 ρ' ⟨st.sl.set d (.one (.sl d)), (d, .arr e τ l b) :: sg⟩ (a.put o.dst v) w' := by
  have hpr : All2 (fun (q : Nat × AV) u => rav ρ w q.2 u) (ps.toList.map fun p => (p.1, evalO st.sl p.2)) (ps.toList.map fun p => a.eval p.2) := by
    induction ps.toList with
    | nil => exact .nil
    | cons p ps ih => exact .cons (h.eval p.2).1 ih
  have hpu : ∀ d, (ps.toList.map fun p => (p.1, evalO st.sl p.2)).any (·.2.uses d) = true → (st.sg.get d).isSome = true := by
    intro d hd
    obtain ⟨q, hq, hd⟩ := List.any_eq_true.1 hd
    obtain ⟨p, _, rfl⟩ := List.mem_map.1 hq
    exact (h.eval p.2).2 d hd
  obtain ⟨ρ1, h1, h2, h3, h4, h5, h6⟩ := settleParts_sound _ _ _ _ _ _ h.mem hpr hset
  have hs1 := h.more h1 h2 h3
  obtain ⟨b1, b2, b3, b4⟩ := readElems_sound h2 ps' 0 _ l h4 (fun d hd => by rw [h3.some]; exact hpu d (h6 d hd)) hl
  have hnl : n = l.length := by rw [hln, b3, h4.length]
  obtain ⟨ti, c1, c2, c3, c4⟩ := (hE.ti _ _ he).info
  obtain ⟨c5, z, c6, c7⟩ := c4 τ rfl
  simp only at c2 c5
  have hps : (ps.map fun (i, x) => (i, a.eval x)).toList = ((ps.toList.map fun p => a.eval p.2).zipIdx 0).map fun x => (x.2, x.1) := by
    rw [Array.toList_map]
    rw [h5, List.map_map] at b4
    have key : ∀ (l : List (Nat × Operand)) (k : Nat), l.map (Prod.fst ∘ fun p => (p.1, evalO st.sl p.2)) = List.range' k l.length → l.map (fun (i, x) => (i, a.eval x)) = ((l.map fun p => a.eval p.2).zipIdx k).map fun x => (x.2, x.1) := by
      intro l
      induction l with
      | nil => intro k _; rfl
      | cons p l ih =>
        intro k hk
        simp only [List.map_cons, List.length_cons, List.range'_succ, List.cons.injEq, Function.comp] at hk
        simp only [List.map_cons, List.zipIdx_cons, ih (k + 1) hk.2, hk.1]
    exact key _ 0 (by rw [b4, List.length_map])
  have run : (execOp a.eval o).run P w = .ok (.value (.slice (some ⟨w.heap.size, 0, none⟩) n n)) (w.alloc (.cells ((ps.toList.map fun p => a.eval p.2).flatMap fun u => u.cells.toList).toArray e)) := by
    have hz : z.cells.size = τ.sz := by rw [c7]; simp [Ty.zv_length]
    by_cases h0 : n = 0
    · subst h0
      have hl0 : (ps.toList.map fun p => a.eval p.2) = [] := by
        apply List.eq_nil_of_length_eq_zero
        rw [← b3, ← hnl]
      have hp0 : ps.map (fun (i, x) => (i, a.eval x)) = #[] := by
        apply Array.ext'
        rw [hps, hl0]
        rfl
      unfold execOp
      simp only [ho, hl0, hp0]
      simp [Instr.buildSlice, Sem.run_bind, run_underlying (slice_run (hE.ti _ _ ht)), size_run (hE.ti _ _ he), Instr.fill, newRow, Array.range_zero']
    · have hr := run_buildSlice (P := P) w t e n (ps.map fun (i, x) => (i, a.eval x)) ((ps.toList.map fun p => a.eval p.2).flatMap fun u => u.cells.toList).toArray ti z (slice_run (hE.ti _ _ ht)) c1 c6
        (by rw [c2, ← c5]; omega) (by rw [c2, ← c5]; have := Ty.sz_pos τ; exact Nat.mul_ne_zero h0 (by omega)) (by
          rw [hps, c2, ← c5]
          refine Great.fill_whole (Ty.sz_pos τ) _ _ b2 ?_
          rw [← b3, ← hnl]
          simp)
      unfold execOp
      simp only [ho, Sem.run_bind, hr, Result.andThen_ok]
      rfl
  have hadd : Adds ρ1 sg w (w.alloc (.cells ((ps.toList.map fun p => a.eval p.2).flatMap fun u => u.cells.toList).toArray e)) (some d) (.one (.sl d)) [(d, .arr e τ l b)] (.slice (some ⟨w.heap.size, 0, none⟩) n n) := by
    have hb : Below w.heap.size w (w.alloc (.cells ((ps.toList.map fun p => a.eval p.2).flatMap fun u => u.cells.toList).toArray e)) := (Below.refl _ _).alloc (Nat.le_refl _) _
    refine .inr ⟨d, _, .arr (.slice (some ⟨w.heap.size, 0, none⟩) n n) (some w.heap.size) τ.sz, rfl, hn, rfl, hb, ?_, ⟨_, _, CEnv.upd_same _ _ _⟩, ?_, (fun x hx => by cases hx), fun g hg => Nat.le_of_eq hg.symm⟩
    · refine ⟨_, some w.heap.size, _, CEnv.upd_same _ _ _, b1.step (fun _ h => h) (fun g hg => hb.block g (h2.okb b g hg)), ⟨b1.1, .inr ⟨w.heap.size, n, _, by rw [hnl], Nat.zero_le _, heap_alloc_new w _, by omega, ?_, ?_, ?_⟩⟩, rfl⟩
      · have := Nat.le_mul_of_pos_right n (Ty.sz_pos τ)
        unfold maxLen; omega
      · rw [List.size_toArray, b1.1, hnl]
      · rw [List.take_of_length_le (by rw [b1.1]; exact Nat.le_refl _)]
    · intro x hx
      have hx : (d == x) = true := hx
      exact (eq_of_beq hx).symm
  obtain ⟨ρ2, hs2⟩ := hs1.adds hadd
  exact ⟨ρ2, _, _, run, by rw [hd]; exact hs2⟩
end
end Go.Proofs.Ytcladakiniekcaa.Lib

/- Calls. No condition. -/
namespace Go.Proofs.Ytcladakiniekcaa.Lib
open Go Go.RowKit
set_option linter.unusedVariables false
set_option linter.unusedSimpArgs false
theorem All2.app {α β : Type} {R : α → β → Prop} {l l' : List α} {m m' : List β} (h : All2 R l m) (h' : All2 R l' m') : All2 R (l ++ l') (m ++ m') := h.append h'
def CEnv.strict (ρ : CEnv) : CEnv := ⟨ρ.loc, fun _ => ρ.ok false⟩
theorem nobor_rc {ρ : CEnv} {w : World} {c : Cell} {v : Value} (hn : c.nobor = true) (h : rc ρ w c v) : rc ρ.strict w c v := by
  cases c with
  | emb e t l b =>
    have : b = false := by simpa [Cell.nobor] using hn
    subst this; exact h
  | eptr t x c b =>
    have : b = false := by simpa [Cell.nobor] using hn
    subst this; exact h
  | fn f caps =>
    have : caps = [] := by simpa [Cell.nobor] using hn
    subst this
    obtain ⟨vs, h0, h1⟩ := h
    cases h1
    exact ⟨_, h0, .nil⟩
  | _ => exact h
theorem nobor_cells {ρ : CEnv} {w : World} {cs : List Cell} {vs : List Value} (hn : cs.all (·.nobor) = true) (h : All2 (rc ρ w) cs vs) : All2 (rc ρ.strict w) cs vs :=
  h.imp fun c v hc h => nobor_rc (List.all_eq_true.1 hn c hc) h
theorem nobor_rav {ρ : CEnv} {w : World} {x : AV} {v : Value} (hn : x.nobor = true) (h : rav ρ w x v) : rav ρ.strict w x v := by
  cases x with
  | one c => exact nobor_rc hn h
  | agg cs => obtain ⟨vs, h0, h1⟩ := h; exact ⟨vs, h0, nobor_cells hn h1⟩
  | tup ps =>
    obtain ⟨vs, h0, h1⟩ := h
    refine ⟨vs, h0, h1.imp fun q v hq h => ?_⟩
    have hq := List.all_eq_true.1 hn q hq
    obtain ⟨g, cs⟩ := q
    cases g with
    | true => obtain ⟨vs, h0, h1⟩ := h; exact ⟨vs, h0, nobor_cells hq h1⟩
    | false => obtain ⟨c, rfl, h⟩ := h; exact ⟨c, rfl, nobor_rc (by simpa using hq) h⟩
theorem nobor_blk {ρ : CEnv} {w : World} {j : Nat} {b : Blk} (hn : b.nobor = true) (h : rblk ρ w j b) : rblk ρ.strict w j b := by
  cases b with
  | box t cs => obtain ⟨g, vs, h0, h1, h2⟩ := h; exact ⟨g, vs, h0, h1, nobor_cells hn h2⟩
  | arr e t l b =>
    have : b = false := by simpa [Blk.nobor] using hn
    subst this; exact h
  | fro e t l b =>
    have : b = false := by simpa [Blk.nobor] using hn
    subst this; exact h
/-- Renumbered. -/
theorem shift_rc {ρ ρ' : CEnv} {w : World} {d : Nat} {c : Cell} {v : Value} (hl : ∀ j, c.uses j = true → ρ'.loc (j + d) = ρ.loc j) (ho : ρ'.ok = ρ.ok) (h : rc ρ w c v) : rc ρ' w (c.shift d) v := by
  cases c with
  | emb e t l b => rw [show Cell.shift d (.emb e t l b) = .emb e t l b from rfl]; unfold rc at h ⊢; rw [ho]; exact h
  | sl j =>
    obtain ⟨g, sz, h⟩ := h
    exact ⟨g, sz, (hl j (by simp [Cell.uses])).trans h⟩
  | sub j o n =>
    obtain ⟨A, m, c, g, sz, h, h1⟩ := h
    exact ⟨A, m, c, g, sz, (hl j (by simp [Cell.uses])).trans h, h1⟩
  | ptr j i c =>
    have hl := hl j (by simp [Cell.uses])
    rcases h with ⟨h0, g, h, h1⟩ | ⟨a, m, cp, g, sz, h, h1⟩
    · exact .inl ⟨h0, g, hl.trans h, h1⟩
    · exact .inr ⟨a, m, cp, g, sz, hl.trans h, h1⟩
  | eptr t x c b =>
    obtain ⟨a, h, h1⟩ := h
    exact ⟨a, by rw [ho]; exact h, h1⟩
  | fn f caps =>
    obtain ⟨vs, h, h1⟩ := h
    exact ⟨vs, h, h1.imp fun p u _ ⟨a, h, h2⟩ => ⟨a, by rw [ho]; exact h, h2⟩⟩
  | fnp f js =>
    obtain ⟨vs, h, h1⟩ := h
    exact ⟨vs, h, h1.map_left _ fun j u hj ⟨g, h, h2⟩ => ⟨g, (hl j (by simp [Cell.uses, hj])).trans h, h2⟩⟩
  | _ => exact h
theorem shift_cells {ρ ρ' : CEnv} {w : World} {d : Nat} {cs : List Cell} {vs : List Value} (hl : ∀ j, cs.any (·.uses j) = true → ρ'.loc (j + d) = ρ.loc j) (ho : ρ'.ok = ρ.ok) (h : All2 (rc ρ w) cs vs) : All2 (rc ρ' w) (cs.map (·.shift d)) vs :=
  h.map_left _ fun c v hc h => shift_rc (fun j hj => hl j (List.any_eq_true.2 ⟨c, hc, hj⟩)) ho h
theorem shift_rav {ρ ρ' : CEnv} {w : World} {d : Nat} {x : AV} {v : Value} (hl : ∀ j, x.uses j = true → ρ'.loc (j + d) = ρ.loc j) (ho : ρ'.ok = ρ.ok) (h : rav ρ w x v) : rav ρ' w (x.shift d) v := by
  cases x with
  | one c => exact shift_rc hl ho h
  | agg cs => obtain ⟨vs, h0, h1⟩ := h; exact ⟨vs, h0, shift_cells hl ho h1⟩
  | tup ps =>
    obtain ⟨vs, h0, h1⟩ := h
    refine ⟨vs, h0, h1.map_left _ fun q v hq h => ?_⟩
    have hl' : ∀ j, q.2.any (·.uses j) = true → ρ'.loc (j + d) = ρ.loc j := fun j hj => hl j (List.any_eq_true.2 ⟨q, hq, hj⟩)
    obtain ⟨g, cs⟩ := q
    cases g with
    | true => obtain ⟨vs, h0, h1⟩ := h; exact ⟨vs, h0, shift_cells hl' ho h1⟩
    | false => obtain ⟨c, rfl, h⟩ := h; exact ⟨c.shift d, rfl, shift_rc (fun j hj => hl' j (by simpa using hj)) ho h⟩
theorem shift_uses {d i : Nat} {c : Cell} (h : (c.shift d).uses i = true) : ∃ j, i = j + d ∧ c.uses j = true := by
  cases c with
  | sl j => have h : (j + d == i) = true := h; exact ⟨j, (eq_of_beq h).symm, by simp [Cell.uses]⟩
  | sub j o n => have h : (j + d == i) = true := h; exact ⟨j, (eq_of_beq h).symm, by simp [Cell.uses]⟩
  | ptr j k c => have h : (j + d == i) = true := h; exact ⟨j, (eq_of_beq h).symm, by simp [Cell.uses]⟩
  | fnp f js =>
    have h : (js.map (· + d)).contains i = true := h
    simp only [List.contains_eq_mem, List.mem_map, decide_eq_true_eq] at h
    obtain ⟨j, h1, h2⟩ := h
    exact ⟨j, h2.symm, by simp [Cell.uses, h1]⟩
  | _ => cases h
theorem shift_any {d i : Nat} {cs : List Cell} (h : (cs.map (·.shift d)).any (·.uses i) = true) : ∃ j, i = j + d ∧ cs.any (·.uses j) = true := by
  obtain ⟨c, hc, h⟩ := List.any_eq_true.1 h
  obtain ⟨c', hc', rfl⟩ := List.mem_map.1 hc
  obtain ⟨j, h1, h2⟩ := shift_uses h
  exact ⟨j, h1, List.any_eq_true.2 ⟨c', hc', h2⟩⟩
theorem shift_av {d i : Nat} {x : AV} (h : (x.shift d).uses i = true) : ∃ j, i = j + d ∧ x.uses j = true := by
  cases x with
  | one c => exact shift_uses h
  | agg cs => exact shift_any h
  | tup ps =>
    obtain ⟨q, hq, h⟩ := List.any_eq_true.1 h
    obtain ⟨q', hq', rfl⟩ := List.mem_map.1 hq
    obtain ⟨j, h1, h2⟩ := shift_any h
    exact ⟨j, h1, List.any_eq_true.2 ⟨q', hq', h2⟩⟩
theorem shift_rblk {ρ ρ' : CEnv} {w : World} {d j : Nat} {b : Blk} (hj : ρ'.loc (j + d) = ρ.loc j) (hl : ∀ i, b.uses i = true → ρ'.loc (i + d) = ρ.loc i) (ho : ρ'.ok = ρ.ok) (h : rblk ρ w j b) : rblk ρ' w (j + d) (b.shift d) := by
  cases b with
  | box t cs => obtain ⟨g, vs, h0, h1, h2⟩ := h; exact ⟨g, vs, hj.trans h0, h1, shift_cells hl ho h2⟩
  | arr e t l b =>
    obtain ⟨v, g, xs, h0, h1, h2⟩ := h
    exact ⟨v, g, xs, hj.trans h0, by rw [ho]; exact h1, h2⟩
  | fro e t l b =>
    obtain ⟨v, g, h0, h1⟩ := h
    exact ⟨v, g, hj.trans h0, by rw [ho]; exact h1⟩
section
variable {P : Program} {E : Env} {B : Nat} {O : Ow} {w0 w w' : World} {ρ ρ' : CEnv} {a : Act} {R : Type} {r : R} {sg sg' : Sig} {st : St}
/-- What may be read while a call runs: with rows of one's own lent, these too. -/
def CEnv.lent (ρ : CEnv) (sg : Sig) (own : Bool) : CEnv := ⟨ρ.loc, fun q k => ρ.ok q k ∨ (q = true ∧ own = true ∧ ∃ j, Owns ρ sg j k)⟩
theorem lendBoxes_sound (hE : Env.Ok P E) (h : Mem B O ρ sg w) {own : Bool} (ho : own = true) : ∀ {js : List Nat} {us : List Value} {l : List ((t : Ty) × t.T)}, All2 (fun j u => ∃ g, ρ.loc j = .box g ∧ u = .pointer (some ⟨g, 0, none⟩)) js us → lendBoxes E sg js = some l →
    All2 (fun (p : (t : Ty) × t.T) u => ∃ a, Peek ((ρ.lent sg own).ok true) w p.1 p.2 a ∧ u = .pointer (some a)) l us
  | [], us, l, hj, hl => by
    simp only [lendBoxes, Option.some.injEq] at hl
    subst hl
    cases hj
    exact .nil
  | j :: js, us, l, hj, hl => by
    cases hj with
    | cons h0 h1 =>
    simp only [lendBoxes] at hl
    split at hl
    · rename_i ty cs hb
      split at hl
      · rename_i td sz by_ τ ht
        split at hl
        · rename_i x hx
          split at hl
          · rename_i l' hl'
            simp only [Option.some.injEq] at hl
            subst hl
            obtain ⟨g, h2, rfl⟩ := h0
            obtain ⟨g', vs, h3, h4, h5⟩ := h.blk j _ hb
            rw [h2] at h3; cases h3
            refine .cons ⟨⟨g, 0, none⟩, ⟨?_, vs, ?_, ?_⟩, rfl⟩ (lendBoxes_sound hE h ho h1 hl')
            · exact .inr ⟨rfl, ho, j, owns_iff.2 ⟨_, hb, by simp, .inl ⟨ty, cs, rfl, h2⟩⟩⟩
            · exact (read_sound h.okm hx h5).step (fun g hg => .inl hg) (fun _ _ => rfl)
            · intro q u hq
              rw [addp, Nat.zero_add]
              rw [cell_of_row w g q vs.toArray ty (0, 0) h4]
              simpa using hq
          · cases hl
        · cases hl
      · cases hl
    · cases hl
theorem lend_sound (hE : Env.Ok P E) (h : Mem B O ρ sg w) {own : Bool} {c c' : Cell} {u : Bool} {v : Value} (hr : rc ρ w c v) (hl : lendCell E sg c = some (c', u)) (hu : u = true → own = true) : rc (ρ.lent sg own) w c' v ∧ ∀ d, c'.uses d = false := by
  have up : ∀ b g, ρ.ok b g → (ρ.lent sg own).ok b g := fun b g h => .inl h
  have step : Step (fun _ => True) ρ (ρ.lent sg own) w w := ⟨fun _ _ => rfl, up, fun _ _ _ => rfl⟩
  have upt : ∀ b g, ρ.ok b g → (ρ.lent sg own).ok true g := fun b g hg => by
    cases b with
    | true => exact .inl hg
    | false => exact .inl (h.okm g hg)
  have arr : ∀ {j : Nat} {e : TypeId} {t : Ty} {l : List t.T} {b : Bool}, sg.get j = some (.arr e t l b) → own = true → ∃ v g, ρ.loc j = .arr v g t.sz ∧ Rp ((ρ.lent sg own).ok true) w (.sl e t) l [v] := by
    intro j e t l b hj ho
    obtain ⟨v, g, xs, h1, h2, h3⟩ := h.blk j _ hj
    refine ⟨v, g, h1, ?_⟩
    cases g with
    | none =>
      obtain ⟨rfl, A, rfl⟩ := h3
      simp only [Rp]
      exact ⟨A, 0, rfl, Nat.zero_le _, Nat.zero_le _, fun hp => absurd hp (by simp)⟩
    | some g => exact Rp_own h3.1 h3.2 (.inr ⟨rfl, ho, j, owns_iff.2 ⟨_, hj, by simp, .inr ⟨_, _, _, _, rfl, v, t.sz, h1⟩⟩⟩) (h2.step (upt b) (fun _ _ => rfl))
  unfold lendCell at hl
  split at hl
  · rename_i j
    split at hl
    · rename_i e t l b hj
      cases hl
      obtain ⟨v', g, h1, h2⟩ := arr hj (hu rfl)
      obtain ⟨g', sz, h3⟩ := hr
      rw [h1] at h3; cases h3
      exact ⟨h2, fun _ => rfl⟩
    · rename_i e t l b hj
      cases hl
      exact ⟨rc_step step (fun _ _ => trivial) ((fro_row h hj).1 v hr), fun _ => rfl⟩
    · cases hl
  · rename_i j o n
    split at hl
    · rename_i e t l b hj
      cases hl
      obtain ⟨v', g, h1, h2⟩ := arr hj (hu rfl)
      obtain ⟨A, m, c, g', sz, h3, h4, h5⟩ := hr
      rw [h1] at h3; cases h3
      have h6 := h2
      simp only [Rp] at h6
      obtain ⟨A', c', h6, _⟩ := h6
      simp only [List.cons.injEq, Value.slice.injEq, and_true] at h6
      obtain ⟨rfl, rfl, rfl⟩ := h6
      exact ⟨Rp_sub h2 h4 h5, fun _ => rfl⟩
    · rename_i e t l b hj
      cases hl
      exact ⟨rc_step step (fun _ _ => trivial) ((fro_row h hj).2 o n v hr), fun _ => rfl⟩
    · cases hl
  · rename_i f js
    split at hl
    · rename_i l hl'
      cases hl
      obtain ⟨vs, h0, h1⟩ := hr
      exact ⟨⟨vs, h0, lendBoxes_sound hE h (hu rfl) h1 hl'⟩, fun _ => rfl⟩
    · cases hl
  · cases hl
  · cases hl
  · rename_i n1 n2 n4 n3 n5
    cases hl
    refine ⟨rc_step step (fun _ _ => trivial) hr, fun d => ?_⟩
    cases c <;> first | rfl | exact absurd rfl (n1 _) | exact absurd rfl (n2 _ _ _) | exact absurd rfl (n3 _ _ _) | exact absurd rfl (n4 _ _)
theorem lendCells_sound (hE : Env.Ok P E) (h : Mem B O ρ sg w) {own : Bool} : ∀ {cs cs' : List Cell} {u : Bool} {vs : List Value}, All2 (rc ρ w) cs vs → lendCells E sg cs = some (cs', u) → (u = true → own = true) → All2 (rc (ρ.lent sg own) w) cs' vs ∧ ∀ d, cs'.any (·.uses d) = false
  | [], cs', u, vs, hr, hl, hu => by
    simp only [lendCells, Option.some.injEq, Prod.mk.injEq] at hl
    obtain ⟨rfl, rfl⟩ := hl
    cases hr
    exact ⟨.nil, fun _ => rfl⟩
  | c :: cs, cs', u, vs, hr, hl, hu => by
    cases hr with
    | cons h0 h1 =>
    simp only [lendCells] at hl
    split at hl
    · rename_i c1 u1 hc
      split at hl
      · rename_i cs1 u2 hcs
        simp only [Option.some.injEq, Prod.mk.injEq] at hl
        obtain ⟨rfl, rfl⟩ := hl
        obtain ⟨a1, a2⟩ := lend_sound hE h (own := own) h0 hc (fun hu1 => hu (by simp [hu1]))
        obtain ⟨b1, b2⟩ := lendCells_sound hE h h1 hcs (fun hu1 => hu (by simp [hu1]))
        exact ⟨.cons a1 b1, fun d => by simp [a2 d, b2 d]⟩
      · cases hl
    · cases hl
theorem lendAV_sound (hE : Env.Ok P E) (h : Mem B O ρ sg w) {own : Bool} {x x' : AV} {u : Bool} {v : Value} (hr : rav ρ w x v) (hl : lend E sg x = some (x', u)) (hu : u = true → own = true) : rav (ρ.lent sg own) w x' v ∧ ∀ d, x'.uses d = false := by
  unfold lend at hl
  split at hl
  · split at hl
    · rename_i c1 u1 hc
      simp only [Option.some.injEq, Prod.mk.injEq] at hl
      obtain ⟨rfl, rfl⟩ := hl
      exact lend_sound hE h hr hc hu
    · cases hl
  · split at hl
    · rename_i c1 u1 hc
      simp only [Option.some.injEq, Prod.mk.injEq] at hl
      obtain ⟨rfl, rfl⟩ := hl
      obtain ⟨vs, h0, h1⟩ := hr
      obtain ⟨b1, b2⟩ := lendCells_sound hE h h1 hc hu
      exact ⟨⟨vs, h0, b1⟩, b2⟩
    · cases hl
  · cases hl
theorem lendAll_sound (hE : Env.Ok P E) (h : Mem B O ρ sg w) {own : Bool} : ∀ {xs xs' : List AV} {u : Bool} {vs : List Value}, All2 (rav ρ w) xs vs → lendAll E sg xs = some (xs', u) → (u = true → own = true) → All2 (rav (ρ.lent sg own) w) xs' vs ∧ ∀ x ∈ xs', ∀ d, x.uses d = false
  | [], xs', u, vs, hr, hl, hu => by
    simp only [lendAll, Option.some.injEq, Prod.mk.injEq] at hl
    obtain ⟨rfl, rfl⟩ := hl
    cases hr
    exact ⟨.nil, fun x hx => by cases hx⟩
  | x :: xs, xs', u, vs, hr, hl, hu => by
    cases hr with
    | cons h0 h1 =>
    simp only [lendAll] at hl
    split at hl
    · rename_i c1 u1 hc
      split at hl
      · rename_i cs1 u2 hcs
        simp only [Option.some.injEq, Prod.mk.injEq] at hl
        obtain ⟨rfl, rfl⟩ := hl
        obtain ⟨a1, a2⟩ := lendAV_sound hE h (own := own) h0 hc (fun hu1 => hu (by simp [hu1]))
        obtain ⟨b1, b2⟩ := lendAll_sound hE h h1 hcs (fun hu1 => hu (by simp [hu1]))
        exact ⟨.cons a1 b1, fun y hy => by
          rcases List.mem_cons.1 hy with rfl | hy
          · exact a2
          · exact b2 y hy⟩
      · cases hl
    · cases hl
end
end Go.Proofs.Ytcladakiniekcaa.Lib

/- What a summary takes of a state. No condition. -/
namespace Go.Proofs.Ytcladakiniekcaa.Lib
open Go Go.RowKit
set_option linter.unusedVariables false
set_option linter.unusedSimpArgs false
section
variable {P : Program} {E : Env} {B : Nat} {O : Ow} {w0 w w' : World} {ρ ρ' : CEnv} {a : Act} {R : Type}
theorem cells_any (t : Ty) (b : Bool) (x : t.T) (d : Nat) : (t.cells b x).any (·.uses d) = false := by
  induction t with
  | pair a c iha ihc => simp only [Ty.cells, List.any_append, iha, ihc]; rfl
  | _ => rfl
theorem Tys.sound : ∀ {ts : List Ty} {cs : List ((t : Ty) × t.T)} {k : Option R} {y : Tys.T ts R}, Tys.cap ts cs k = some y → (Tys.bld ts y).1 = cs ∧ k = some (Tys.bld ts y).2
  | [], cs, k, y, h => by
    cases cs with
    | nil => exact ⟨rfl, h⟩
    | cons c r => cases h
  | t :: ts, cs, k, y, h => by
    cases cs with
    | nil => cases h
    | cons c r =>
      obtain ⟨t', x⟩ := c
      simp only [Tys.cap] at h
      split at h
      · rename_i ht
        subst ht
        split at h
        · rename_i y1 h1
          cases h
          obtain ⟨h2, h3⟩ := Tys.sound h1
          exact ⟨by simp only [Tys.bld, h2], h3⟩
        · cases h
      · cases h
theorem CPs.sound (hm : ∀ g, ρ.ok false g → ρ.ok true g) : ∀ {ps : List CP} {cs : List Cell} {k : Option R} {y : CPs.T ps R}, CPs.cap ps cs k = some y → k = some (CPs.bld ps y).2 ∧ (∀ vs, All2 (rc ρ w) cs vs → All2 (rc ρ w) (CPs.bld ps y).1 vs)
  | [], cs, k, y, h => by
    cases cs with
    | nil => exact ⟨h, fun vs hv => hv⟩
    | cons c r => cases h
  | .dat t b :: r, cs, k, y, h => by
    simp only [CPs.cap] at h
    split at h
    · rename_i x cs1 hp
      split at h
      · rename_i y1 h1
        cases h
        obtain ⟨h2, h3⟩ := CPs.sound hm h1
        refine ⟨h2, fun vs hv => ?_⟩
        obtain ⟨v0, v1, rfl, h4, h5⟩ := parse_sound hm hp hv
        exact (cells_of_Rp h4).append (h3 v1 h5)
      · cases h
    · cases h
  | .own j :: r, cs, k, y, h => by
    cases cs with
    | nil => cases h
    | cons c cs =>
      cases c <;> simp only [CPs.cap] at h <;> try (cases h; done)
      rename_i j'
      simp only [bifs, beq_iff_eq] at h
      split at h
      · rename_i hj
        subst hj
        obtain ⟨h2, h3⟩ := CPs.sound hm h
        refine ⟨h2, fun vs hv => ?_⟩
        cases hv with
        | cons h0 h1 => exact .cons h0 (h3 _ h1)
      · cases h
  | .ptr j c :: r, cs, k, y, h => by
    cases cs with
    | nil => cases h
    | cons cc cs =>
      cases cc <;> simp only [CPs.cap] at h <;> try (cases h; done)
      rename_i j' i' c'
      simp only [bifs] at h
      split at h
      · rename_i hj
        simp only [Bool.and_eq_true, beq_iff_eq] at hj
        obtain ⟨⟨rfl, rfl⟩, rfl⟩ := hj
        obtain ⟨h2, h3⟩ := CPs.sound hm h
        refine ⟨h2, fun vs hv => ?_⟩
        cases hv with
        | cons h0 h1 => exact .cons h0 (h3 _ h1)
      · cases h
  | .und :: r, cs, k, y, h => by
    cases cs with
    | nil => cases h
    | cons c cs =>
      simp only [CPs.cap] at h
      obtain ⟨h2, h3⟩ := CPs.sound hm h
      refine ⟨h2, fun vs hv => ?_⟩
      cases hv with
      | cons h0 h1 => exact .cons trivial (h3 _ h1)
  | .fnc f ts :: r, cs, k, y, h => by
    cases cs with
    | nil => cases h
    | cons c cs =>
      cases c <;> simp only [CPs.cap] at h <;> try (cases h; done)
      rename_i f' caps
      simp only [bifs, beq_iff_eq] at h
      split at h
      · rename_i hf
        subst hf
        obtain ⟨h4, h5⟩ := Tys.sound h
        obtain ⟨h2, h3⟩ := CPs.sound hm h5
        refine ⟨h2, fun vs hv => ?_⟩
        cases hv with
        | cons h0 h1 =>
          simp only [CPs.bld]
          rw [h4]
          exact .cons h0 (h3 _ h1)
      · cases h
  | .ept t :: r, cs, k, y, h => by
    cases cs with
    | nil => cases h
    | cons c cs =>
      cases c <;> simp only [CPs.cap] at h <;> try (cases h; done)
      rename_i t' x c b
      split at h
      · rename_i ht
        subst ht
        simp only [bifs, beq_iff_eq] at h
        split at h
        · rename_i hc
          subst hc
          split at h
          · rename_i y1 hy
            cases h
            obtain ⟨h2, h3⟩ := CPs.sound hm hy
            refine ⟨h2, fun vs hv => ?_⟩
            cases hv with
            | cons h0 h1 =>
              refine .cons ?_ (h3 _ h1)
              obtain ⟨a, ha, hv⟩ := h0
              refine ⟨a, ha.step (fun g hg => ?_) (fun _ _ => rfl), hv⟩
              cases b with
              | true => exact hg
              | false => exact hm g hg
          · cases h
        · cases h
      · cases h
theorem CPs.len {ρ : CEnv} {w : World} : ∀ {ps : List CP} {y : CPs.T ps R} (d : Nat), (CPs.bld ps y).1.any (·.uses d) = true → ps.any (·.uses d) = true
  | [], y, d, h => h
  | .dat t b :: r, y, d, h => by
    simp only [CPs.bld, List.any_append, cells_any, Bool.false_or] at h
    simp only [List.any_cons, CP.uses, Bool.false_or]
    exact CPs.len (ρ := ρ) (w := w) d h
  | .own j :: r, y, d, h => by
    simp only [CPs.bld, List.any_cons, Cell.uses, Bool.or_eq_true] at h
    simp only [List.any_cons, CP.uses, Bool.or_eq_true]
    exact h.imp id (CPs.len (ρ := ρ) (w := w) d)
  | .ptr j c :: r, y, d, h => by
    simp only [CPs.bld, List.any_cons, Cell.uses, Bool.or_eq_true] at h
    simp only [List.any_cons, CP.uses, Bool.or_eq_true]
    exact h.imp id (CPs.len (ρ := ρ) (w := w) d)
  | .und :: r, y, d, h => by
    simp only [CPs.bld, List.any_cons, Cell.uses, Bool.false_or] at h
    simp only [List.any_cons, CP.uses, Bool.false_or]
    exact CPs.len (ρ := ρ) (w := w) d h
  | .fnc f ts :: r, y, d, h => by
    simp only [CPs.bld, List.any_cons, Cell.uses, Bool.false_or] at h
    simp only [List.any_cons, CP.uses, Bool.false_or]
    exact CPs.len (ρ := ρ) (w := w) d h
  | .ept t :: r, y, d, h => by
    simp only [CPs.bld, List.any_cons, Cell.uses, Bool.false_or] at h
    simp only [List.any_cons, CP.uses, Bool.false_or]
    exact CPs.len (ρ := ρ) (w := w) d h
/-- Slots: what was built says no more than what was there. -/
theorem SPs.sound (hm : ∀ g, ρ.ok false g → ρ.ok true g) : ∀ {ss : List SP} {vs : List AV} {k : Option R} {y : SPs.T ss R}, SPs.cap ss vs k = some y → k = some (SPs.bld ss y).2 ∧ (SPs.bld ss y).1.length = vs.length ∧
    (∀ (i : Nat) (v' : AV), (SPs.bld ss y).1[i]? = some v' → ∃ v, vs[i]? = some v ∧ (∀ u, rav ρ w v u → rav ρ w v' u) ∧ ∀ d, v'.uses d = true → ss.any (·.uses d) = true)
  | [], vs, k, y, h => by
    cases vs with
    | nil => exact ⟨h, rfl, fun i v' hi => by simp [SPs.bld] at hi⟩
    | cons c r => cases h
  | .und :: r, vs, k, y, h => by
    cases vs with
    | nil => cases h
    | cons v vs =>
      simp only [SPs.cap] at h
      obtain ⟨h1, h2, h3⟩ := SPs.sound hm h
      refine ⟨h1, by simp [SPs.bld, h2], fun i v' hi => ?_⟩
      cases i with
      | zero => simp only [SPs.bld, List.getElem?_cons_zero, Option.some.injEq] at hi; subst hi; exact ⟨v, rfl, fun _ _ => trivial, fun d hd => by cases hd⟩
      | succ i =>
        simp only [SPs.bld, List.getElem?_cons_succ] at hi
        obtain ⟨x, h4, h5, h6⟩ := h3 i v' hi
        exact ⟨x, by simpa using h4, h5, fun d hd => by simp only [List.any_cons, h6 d hd, Bool.or_true]⟩
  | .one p :: r, vs, k, y, h => by
    cases vs with
    | nil => cases h
    | cons v vs =>
      cases v <;> simp only [SPs.cap] at h <;> try (cases h; done)
      rename_i c
      obtain ⟨h0, h0'⟩ := CPs.sound (w := w) hm h
      obtain ⟨h1, h2, h3⟩ := SPs.sound hm h0
      refine ⟨h1, by simp [SPs.bld, h2], fun i v' hi => ?_⟩
      cases i with
      | zero =>
        simp only [SPs.bld, List.getElem?_cons_zero, Option.some.injEq] at hi
        subst hi
        refine ⟨.one c, rfl, fun u hu => ?_, fun d hd => ?_⟩
        · have := h0' [u] (.cons hu .nil)
          generalize (CPs.bld [p] y).1 = l at this
          cases this with
          | cons h4 h5 => cases h5; exact h4
        · have hl := CPs.len (ρ := ρ) (w := w) (ps := [p]) (y := y) d
          generalize (CPs.bld [p] y).1 = l at hl hd
          have : l.any (·.uses d) = true := by
            unfold oneOf at hd
            split at hd
            · simpa [AV.uses] using hd
            · cases hd
          have := hl this
          simp only [List.any_cons, SP.uses, List.any_nil, Bool.or_false] at this ⊢
          rw [this]; rfl
      | succ i =>
        simp only [SPs.bld, List.getElem?_cons_succ] at hi
        obtain ⟨x, h4, h5, h6⟩ := h3 i v' hi
        exact ⟨x, by simpa using h4, h5, fun d hd => by simp only [List.any_cons, h6 d hd, Bool.or_true]⟩
  | .agg ps :: r, vs, k, y, h => by
    cases vs with
    | nil => cases h
    | cons v vs =>
      cases v <;> simp only [SPs.cap] at h <;> try (cases h; done)
      rename_i cs
      obtain ⟨h0, h0'⟩ := CPs.sound (w := w) hm h
      obtain ⟨h1, h2, h3⟩ := SPs.sound hm h0
      refine ⟨h1, by simp [SPs.bld, h2], fun i v' hi => ?_⟩
      cases i with
      | zero =>
        simp only [SPs.bld, List.getElem?_cons_zero, Option.some.injEq] at hi
        subst hi
        refine ⟨.agg cs, rfl, fun u hu => ?_, fun d hd => ?_⟩
        · obtain ⟨us, rfl, hus⟩ := hu
          exact ⟨us, rfl, h0' us hus⟩
        · have := CPs.len (ρ := ρ) (w := w) (ps := ps) (y := y) d hd
          simp only [List.any_cons, SP.uses, this, Bool.true_or]
      | succ i =>
        simp only [SPs.bld, List.getElem?_cons_succ] at hi
        obtain ⟨x, h4, h5, h6⟩ := h3 i v' hi
        exact ⟨x, by simpa using h4, h5, fun d hd => by simp only [List.any_cons, h6 d hd, Bool.or_true]⟩
theorem rblk_arr_mono (hm : ∀ g, ρ.ok false g → ρ.ok true g) {j : Nat} {e : TypeId} {t : Ty} {l : List t.T} {b b' : Bool} (hb : (!b' || b) = true) (h : rblk ρ w j (.arr e t l b')) : rblk ρ w j (.arr e t l b) := by
  cases b' with
  | false =>
    cases b with
    | false => exact h
    | true =>
      obtain ⟨v, g, xs, h0, h1, h2⟩ := h
      exact ⟨v, g, xs, h0, h1.step hm (fun _ _ => rfl), h2⟩
  | true => cases b with | true => exact h | false => cases hb
theorem GPs.sound (hm : ∀ g, ρ.ok false g → ρ.ok true g) {sg : Sig} : ∀ {gs : List (Nat × GP)} {y : GPs.T gs}, GPs.cap gs sg = some y →
    (∀ j b', (GPs.bld gs y).get j = some b' → ∃ b, sg.get j = some b ∧ (rblk ρ w j b → rblk ρ w j b') ∧ (∀ g, (match b' with | .box _ _ => ρ.loc j = .box g | .arr _ _ _ _ => ∃ v sz, ρ.loc j = .arr v (some g) sz | _ => False) → Owns ρ sg j g) ∧ ∀ d, b'.uses d = true → gs.any (·.2.uses d) = true) ∧
    (∀ d, gs.any (·.1 == d) = true → ((GPs.bld gs y).get d).isSome = true)
  | [], y, h => by
    constructor
    · intro j b' hj
      cases hj
    · intro d hd
      cases hd
  | (i, .arr e t b) :: r, y, h => by
    simp only [GPs.cap] at h
    split at h
    · rename_i e' t' l b' hg
      split at h
      · rename_i ht
        subst ht
        simp only [bifs] at h
        split at h
        · rename_i hc
          simp only [Bool.and_eq_true, beq_iff_eq] at hc
          obtain ⟨rfl, hb⟩ := hc
          split at h
          · rename_i y1 h1
            cases h
            obtain ⟨ih, ih2⟩ := GPs.sound hm h1
            refine ⟨fun j b2 hj => ?_, fun d hd => ?_⟩
            · simp only [GPs.bld, Sig.get] at hj
              cases hij : (i == j) with
              | true =>
                rw [hij] at hj
                simp only [cond_true, Option.some.injEq] at hj
                have := eq_of_beq hij
                subst this
                subst hj
                exact ⟨_, hg, fun h => rblk_arr_mono hm hb h, fun g hh => by unfold Owns; rw [hg]; exact hh, fun d hd => by cases hd⟩
              | false =>
                rw [hij] at hj
                obtain ⟨b3, h3, h4, h5, h6⟩ := ih j b2 (by simpa using hj)
                exact ⟨b3, h3, h4, h5, fun d hd => by simp only [List.any_cons, h6 d hd, Bool.or_true]⟩
            · simp only [GPs.bld, Sig.get]
              simp only [List.any_cons, Bool.or_eq_true] at hd
              cases hij : (i == d) with
              | true => rfl
              | false => rw [hij] at hd; simpa using ih2 d (by simpa using hd)
          · cases h
        · cases h
      · cases h
    · cases h
  | (i, .box ty ps) :: r, y, h => by
    simp only [GPs.cap] at h
    split at h
    · rename_i ty' cs hg
      simp only [bifs, beq_iff_eq] at h
      split at h
      · rename_i hty
        subst hty
        obtain ⟨h0, h0'⟩ := CPs.sound (w := w) hm h
        obtain ⟨ih, ih2⟩ := GPs.sound hm h0
        refine ⟨fun j b2 hj => ?_, fun d hd => ?_⟩
        · simp only [GPs.bld, Sig.get] at hj
          cases hij : (i == j) with
          | true =>
            rw [hij] at hj
            simp only [cond_true, Option.some.injEq] at hj
            have := eq_of_beq hij
            subst this
            subst hj
            refine ⟨_, hg, fun h => ?_, fun g hh => by unfold Owns; rw [hg]; exact hh, fun d hd => ?_⟩
            · obtain ⟨g, vs, h1, h2, h3⟩ := h
              exact ⟨g, vs, h1, h2, h0' vs h3⟩
            · have := CPs.len (ρ := ρ) (w := w) (ps := ps) (y := y) d hd
              simp only [List.any_cons, GP.uses, this, Bool.true_or]
          | false =>
            rw [hij] at hj
            obtain ⟨b3, h3, h4, h5, h6⟩ := ih j b2 (by simpa using hj)
            exact ⟨b3, h3, h4, h5, fun d hd => by simp only [List.any_cons, h6 d hd, Bool.or_true]⟩
        · simp only [GPs.bld, Sig.get]
          simp only [List.any_cons, Bool.or_eq_true] at hd
          cases hij : (i == d) with
          | true => rfl
          | false => rw [hij] at hd; simpa using ih2 d (by simpa using hd)
      · cases h
    · cases h
/-- The state that a summary takes is the state that is there, in part. -/
theorem Sim.cap {st : St} {ss : List SP} {gs : List (Nat × GP)} {v : StT ss gs} (h : Sim B O w0 ρ st a w) (hwf : wfSt ss gs) (hc : capSt ss gs st = some v) : Sim B O w0 ρ (bldSt ss gs v) a w := by
  unfold capSt at hc
  obtain ⟨h1, h2, h3⟩ := SPs.sound (w := w) h.mem.okm hc
  obtain ⟨h4, h5⟩ := GPs.sound (w := w) h.mem.okm h1
  have ho : ∀ j g, Owns ρ (bldSt ss gs v).sg j g → Owns ρ st.sg j g := fun j g hj => by
    unfold Owns at hj
    cases hb : (bldSt ss gs v).sg.get j with
    | none => rw [hb] at hj; exact hj.elim
    | some b' =>
      obtain ⟨b, h6, h7, h8, h9⟩ := h4 j b' hb
      rw [hb] at hj
      exact h8 g (by cases b' <;> exact hj)
  refine ⟨⟨fun j b' hj => ?_, fun i j g hi hj => h.mem.inj i j g (ho i g hi) (ho j g hj), fun j g hj => h.mem.old j g (ho j g hj), h.mem.okb, fun b g hg j hj => h.mem.oko b g hg j (ho j g hj), h.mem.okm, h.mem.okx, h.mem.oky, fun j b' d hj hd => ?_⟩, ?_, fun i v' hi => ?_, fun i v' d hi hd => ?_, h.defers, h.fr, h.base, h.pin⟩
  · obtain ⟨b, h6, h7, _⟩ := h4 j b' hj
    exact h7 (h.mem.blk j b h6)
  · obtain ⟨b, h6, h7, h8, h9⟩ := h4 j b' hj
    exact h5 d (hwf d (by rw [h9 d hd, Bool.or_true]))
  · rw [h.len]; exact h2.symm
  · obtain ⟨x, h6, h7, _⟩ := h3 i v' hi
    obtain ⟨u, h8, h9⟩ := h.sl i x h6
    exact ⟨u, h8, h7 u h9⟩
  · obtain ⟨x, h6, h7, h8⟩ := h3 i v' hi
    exact h5 d (hwf d (by rw [h8 d hd, Bool.true_or]))
/-! ### calls of functions of which something is known -/
theorem Ways.run_bind {α : Type} (o : Ways α) (k : α → Option R) : o.run k = (o.run some).bind k := by
  induction o with
  | no => rfl
  | done x => rfl
  | br c a b iha ihb => simp only [Ways.run]; cases c <;> assumption
def callP (E : Env) (call : CallFn) (g : FuncId) (args : List AV) : Option (AV × Sig) :=
  match capPrim args g E.prim with
  | some o => o.run some
  | none => call g args []
theorem callK_eq {call : CallFn} {g : FuncId} {args : List AV} (k : AV × Sig → Option R) : callK E call g args k = (callP E call g args).bind k := by
  unfold callK callP
  cases hl : capPrim args g E.prim with
  | none => rfl
  | some o => exact Ways.run_bind _ _
theorem capPrim_spec {g : FuncId} {args : List AV} {o : Ways (AV × Sig)} : ∀ {l : List (FuncId × Prim)}, capPrim args g l = some o → ∃ p v, (g, p) ∈ l ∧ SPs.cap p.ss args (some ()) = some v ∧ o = p.F v
  | [], h => by cases h
  | (f, p) :: r, h => by
    simp only [capPrim, bifs, beq_iff_eq] at h
    split at h
    · rename_i hf
      subst hf
      split at h
      · rename_i v hv
        cases h
        exact ⟨p, v, List.mem_cons_self, hv, rfl⟩
      · obtain ⟨p', v, h1, h2, h3⟩ := capPrim_spec h
        exact ⟨p', v, List.mem_cons_of_mem _ h1, h2, h3⟩
    · obtain ⟨p', v, h1, h2, h3⟩ := capPrim_spec h
      exact ⟨p', v, List.mem_cons_of_mem _ h1, h2, h3⟩
theorem bld_nouse (w : World) {ss : List SP} {vs : List AV} {y : SPs.T ss Unit} (h : SPs.cap ss vs (some ()) = some y) (hu : ∀ v ∈ vs, ∀ d, v.uses d = false) : ∀ v ∈ (SPs.bld (R := Unit) ss y).1, ∀ d, v.uses d = false := by
  have hcp : ∀ {R : Type} {ps : List CP} {cs : List Cell} {k : Option R} {y : CPs.T ps R}, CPs.cap ps cs k = some y → ∀ d, cs.any (·.uses d) = false → (CPs.bld ps y).1.any (·.uses d) = false := by
    intro R ps
    induction ps with
    | nil => intro cs k y h d hd; rfl
    | cons p r ih =>
      intro cs k y h d hd
      cases p with
      | dat t b =>
        simp only [CPs.cap] at h
        split at h
        · rename_i x cs1 hp
          split at h
          · rename_i y1 h1
            cases h
            simp only [CPs.bld, List.any_append, cells_any, Bool.false_or]
            refine ih h1 d ?_
            have : ∀ {t : Ty} {cs : List Cell} {p : t.T × List Cell}, t.parse b cs = some p → cs.any (·.uses d) = false → p.2.any (·.uses d) = false := by
              intro t
              induction t with
              | pair a c iha ihc =>
                intro cs p h hd
                simp only [Ty.parse, Option.bind_eq_some_iff] at h
                obtain ⟨p1, h1, p2, h2, h3⟩ := h
                cases h3
                exact ihc h2 (iha h1 hd)
              | int k =>
                intro cs p h hd
                cases cs with
                | nil => simp [Ty.parse] at h
                | cons c r =>
                  cases c <;> simp only [Ty.parse] at h <;> try (cases h; done)
                  split at h
                  · cases h; simpa [Cell.uses] using hd
                  · cases h
              | bool =>
                intro cs p h hd
                cases cs with
                | nil => simp [Ty.parse] at h
                | cons c r =>
                  cases c <;> simp only [Ty.parse] at h <;> try (cases h; done)
                  cases h; simpa [Cell.uses] using hd
              | str =>
                intro cs p h hd
                cases cs with
                | nil => simp [Ty.parse] at h
                | cons c r =>
                  cases c <;> simp only [Ty.parse] at h <;> try (cases h; done)
                  cases h; simpa [Cell.uses] using hd
              | sl e t _ =>
                intro cs p h hd
                cases cs with
                | nil => simp [Ty.parse] at h
                | cons c r =>
                  simp only [List.any_cons, Bool.or_eq_false_iff] at hd
                  cases c <;> simp only [Ty.parse] at h <;> try (cases h; done)
                  · cases h; exact hd.2
                  · cases h; exact hd.2
                  · split at h
                    · split at h
                      · cases h; exact hd.2
                      · cases h
                    · cases h
            exact this hp hd
          · cases h
        · cases h
      | own j =>
        cases cs with
        | nil => cases h
        | cons c cs =>
          cases c <;> simp only [CPs.cap] at h <;> try (cases h; done)
          simp only [bifs, beq_iff_eq] at h
          split at h
          · rename_i hj
            subst hj
            simp only [List.any_cons, Bool.or_eq_false_iff] at hd
            simp only [CPs.bld, List.any_cons, hd.1, ih h d hd.2]; rfl
          · cases h
      | ptr j c =>
        cases cs with
        | nil => cases h
        | cons cc cs =>
          cases cc <;> simp only [CPs.cap] at h <;> try (cases h; done)
          simp only [bifs] at h
          split at h
          · rename_i hj
            simp only [Bool.and_eq_true, beq_iff_eq] at hj
            obtain ⟨⟨rfl, rfl⟩, rfl⟩ := hj
            simp only [List.any_cons, Bool.or_eq_false_iff] at hd
            simp only [CPs.bld, List.any_cons, hd.1, ih h d hd.2]; rfl
          · cases h
      | und =>
        cases cs with
        | nil => cases h
        | cons c cs =>
          simp only [CPs.cap] at h
          simp only [List.any_cons, Bool.or_eq_false_iff] at hd
          simp only [CPs.bld, List.any_cons, ih h d hd.2]; rfl
      | fnc f ts =>
        cases cs with
        | nil => cases h
        | cons c cs =>
          cases c <;> simp only [CPs.cap] at h <;> try (cases h; done)
          simp only [bifs, beq_iff_eq] at h
          split at h
          · simp only [List.any_cons, Bool.or_eq_false_iff] at hd
            obtain ⟨_, h5⟩ := Tys.sound h
            simp only [CPs.bld, List.any_cons, ih h5 d hd.2]; rfl
          · cases h
      | ept t =>
        cases cs with
        | nil => cases h
        | cons c cs =>
          cases c <;> simp only [CPs.cap] at h <;> try (cases h; done)
          split at h
          · simp only [bifs, beq_iff_eq] at h
            split at h
            · split at h
              · rename_i y1 hy
                cases h
                simp only [List.any_cons, Bool.or_eq_false_iff] at hd
                simp only [CPs.bld, List.any_cons, ih hy d hd.2]; rfl
              · cases h
            · cases h
          · cases h
  have main : ∀ {R : Type} {ss : List SP} {vs : List AV} {k : Option R} {y : SPs.T ss R}, SPs.cap ss vs k = some y → (∀ v ∈ vs, ∀ d, v.uses d = false) → ∀ v ∈ (SPs.bld ss y).1, ∀ d, v.uses d = false := by
    intro R ss
    induction ss with
    | nil => intro vs k y h hu v hv; simp [SPs.bld] at hv
    | cons s r ih =>
      intro vs k y h hu v hv d
      cases vs with
      | nil => cases s <;> cases h
      | cons v0 vs =>
        have hu' : ∀ v ∈ vs, ∀ d, v.uses d = false := fun v hv => hu v (List.mem_cons_of_mem _ hv)
        cases s with
        | und =>
          simp only [SPs.cap] at h
          rcases List.mem_cons.1 hv with rfl | hv
          · rfl
          · exact ih h hu' v hv d
        | one p =>
          cases v0 <;> simp only [SPs.cap] at h <;> try (cases h; done)
          rename_i c
          have h0 := (CPs.sound (ρ := ⟨fun _ => .dead, fun _ _ => False⟩) (w := w) (fun _ h => h) h).1
          rcases List.mem_cons.1 hv with rfl | hv
          · have := hcp h d (by simpa [AV.uses] using hu (.one c) List.mem_cons_self d)
            generalize (CPs.bld [p] y).1 = l at this
            unfold oneOf
            split
            · simpa [AV.uses] using this
            · rfl
          · exact ih h0 hu' v hv d
        | agg ps =>
          cases v0 <;> simp only [SPs.cap] at h <;> try (cases h; done)
          rename_i cs
          have h0 := (CPs.sound (ρ := ⟨fun _ => .dead, fun _ _ => False⟩) (w := w) (fun _ h => h) h).1
          rcases List.mem_cons.1 hv with rfl | hv
          · exact hcp h d (hu (.agg cs) List.mem_cons_self d)
          · exact ih h0 hu' v hv d
  exact main h hu
theorem callP_ok (hE : Env.Ok P E) {call : CallFn} (hC : CallOk P call) {g : FuncId} {args : List AV} {res : AV} {out : Sig} (h : callP E call g args = some (res, out)) : CallOk1 P g args res out := by
  unfold callP at h
  split at h
  · rename_i o ho
    obtain ⟨p, v, hp, hv, rfl⟩ := capPrim_spec ho
    intro ρ0 w vs h1 h2 h3 h4
    have hF := h
    obtain ⟨h5, h6, h7⟩ := SPs.sound (w := w) h2 hv
    refine hE.prim _ hp v res out hF ρ0 w vs h1 h2 ?_ (bld_nouse w hv h4)
    generalize (SPs.bld (R := Unit) p.ss v).1 = l at h6 h7
    clear hv h4 h ho
    induction h3 generalizing l with
    | nil =>
      cases l with
      | nil => exact .nil
      | cons x l => simp at h6
    | @cons x u xs us hx hxs ih =>
      cases l with
      | nil => simp at h6
      | cons y l =>
        refine .cons ?_ (ih l (by simpa using h6) fun i v' hi => by simpa using h7 (i + 1) v' (by simpa using hi))
        obtain ⟨z, h8, h9, _⟩ := h7 0 y rfl
        have : x = z := by simpa using h8
        subst this
        exact h9 u hx
  · exact hC g args res out h
end
end Go.Proofs.Ytcladakiniekcaa.Lib

/- What leaves a call. No condition. -/
namespace Go.Proofs.Ytcladakiniekcaa.Lib
open Go Go.RowKit
set_option linter.unusedVariables false
set_option linter.unusedSimpArgs false
theorem nodup_spec : ∀ {l : List Nat}, nodup l = true → ∀ (i j : Nat) (a : Nat), l[i]? = some a → l[j]? = some a → i = j
  | [], _, i, j, a, h, _ => by simp at h
  | x :: l, hn, i, j, a, hi, hj => by
    simp only [nodup, Bool.and_eq_true, Bool.not_eq_true'] at hn
    cases i with
    | zero =>
      cases j with
      | zero => rfl
      | succ j =>
        simp at hi hj
        subst hi
        have := List.mem_of_getElem? hj
        simp [this] at hn
    | succ i =>
      cases j with
      | zero =>
        simp at hi hj
        subst hj
        have := List.mem_of_getElem? hi
        simp [this] at hn
      | succ j =>
        simp at hi hj
        rw [nodup_spec hn.2 i j a hi hj]
theorem nodup_fst {js : List (Nat × Nat)} (h : leaveOk js = true) {i j k : Nat} (h1 : (i, j) ∈ js) (h2 : (i, k) ∈ js) : j = k := by
  simp only [leaveOk, Bool.and_eq_true] at h
  obtain ⟨a, ha⟩ := List.getElem?_of_mem h1
  obtain ⟨b, hb⟩ := List.getElem?_of_mem h2
  have := nodup_spec h.1 a b i (by rw [List.getElem?_map, ha]; rfl) (by rw [List.getElem?_map, hb]; rfl)
  subst this
  rw [ha] at hb
  cases hb; rfl
theorem nodup_snd {js : List (Nat × Nat)} (h : leaveOk js = true) {i j k : Nat} (h1 : (i, k) ∈ js) (h2 : (j, k) ∈ js) : i = j := by
  simp only [leaveOk, Bool.and_eq_true] at h
  obtain ⟨a, ha⟩ := List.getElem?_of_mem h1
  obtain ⟨b, hb⟩ := List.getElem?_of_mem h2
  have := nodup_spec h.2 a b k (by rw [List.getElem?_map, ha]; rfl) (by rw [List.getElem?_map, hb]; rfl)
  subst this
  rw [ha] at hb
  cases hb; rfl
section
variable {P : Program} {E : Env} {B : Nat} {O : Ow} {w0 w w' : World} {ρ ρ' : CEnv} {a : Act} {R : Type} {r : R} {sg sg' : Sig} {st : St} {call : CallFn}
/-- What leaves: each row by its new number. -/
def Out (sg out : Sig) (js : List (Nat × Nat)) : Prop := ∀ i b, out.get i = some b → ∃ j, (i, j) ∈ js ∧ sg.get j = some b ∧ ∃ e t l q, b = .arr e t l q
theorem leaveCells_sound (h : Mem B O ρ sg w) : ∀ {cs : List Cell} {n : Nat} {vs : List Value} {cs' : List Cell} {out : Sig} {js : List (Nat × Nat)}, All2 (rc ρ w) cs vs → leaveCells sg cs n = some (cs', out, js) →
    (∀ L : Nat → Loc, (∀ i j, (i, j) ∈ js → L i = ρ.loc j) → All2 (rc ⟨L, ρ.ok⟩ w) cs' vs) ∧ Out sg out js ∧ (∀ d, cs'.any (·.uses d) = true → (out.get d).isSome = true)
  | [], n, vs, cs', out, js, hr, hl => by
    simp only [leaveCells, Option.some.injEq, Prod.mk.injEq] at hl
    obtain ⟨rfl, rfl, rfl⟩ := hl
    cases hr
    exact ⟨fun _ _ => .nil, (fun i b hi => by cases hi), fun d hd => by cases hd⟩
  | c :: cs, n, vs, cs', out, js, hr, hl => by
    cases hr with
    | @cons _ u0 _ us h0 h1 =>
    simp only [leaveCells] at hl
    split at hl
    · rename_i cs1 out1 js1 hrec
      obtain ⟨i1, i2, i3⟩ := leaveCells_sound h h1 hrec
      have plain : ∀ {d : Cell}, (∀ x, d.uses x = false) → rc ρ w d u0 → (cs', out, js) = (d :: cs1, out1, js1) → (∀ L : Nat → Loc, (∀ i j, (i, j) ∈ js → L i = ρ.loc j) → All2 (rc ⟨L, ρ.ok⟩ w) cs' (u0 :: us)) ∧ Out sg out js ∧ (∀ d, cs'.any (·.uses d) = true → (out.get d).isSome = true) := by
        intro d hu hd he
        cases he
        refine ⟨fun L hL => .cons (rc_step (ρ := ρ) (ρ' := ⟨L, ρ.ok⟩) (w := w) (U := fun _ => False) ⟨fun _ h => h.elim, fun _ _ h => h, fun _ _ _ => rfl⟩ (fun x hx => by rw [hu x] at hx; cases hx) hd) (i1 L hL), i2, fun x hx => ?_⟩
        simp only [List.any_cons, hu x, Bool.false_or] at hx
        exact i3 x hx
      split at hl
      · rename_i j
        split at hl
        · rename_i e t l b hj
          simp only [Option.some.injEq, Prod.mk.injEq] at hl
          obtain ⟨rfl, rfl, rfl⟩ := hl
          refine ⟨fun L hL => .cons ?_ (i1 L (fun i j hij => hL i j (List.mem_cons_of_mem _ hij))), fun i b' hi => ?_, fun x hx => ?_⟩
          · obtain ⟨g, sz, h2⟩ := h0
            exact ⟨g, sz, (hL _ j List.mem_cons_self).trans h2⟩
          · simp only [Sig.get, bifs] at hi
            split at hi
            · rename_i he
              cases hi
              have he := eq_of_beq he
              subst he
              exact ⟨j, List.mem_cons_self, hj, _, _, _, _, rfl⟩
            · obtain ⟨j', a1, a2⟩ := i2 i b' hi
              exact ⟨j', List.mem_cons_of_mem _ a1, a2⟩
          · simp only [List.any_cons, Bool.or_eq_true] at hx
            simp only [Sig.get, bifs]
            split
            · rfl
            · rename_i hne
              rcases hx with hx | hx
              · exact absurd hx hne
              · exact i3 x hx
        · rename_i e t l b hj
          simp only [Option.some.injEq] at hl
          exact plain (fun _ => rfl) ((fro_row h hj).1 _ h0) hl.symm
        · cases hl
      · rename_i j o m
        split at hl
        · rename_i e t l b hj
          simp only [Option.some.injEq] at hl
          exact plain (fun _ => rfl) ((fro_row h hj).2 _ _ _ h0) hl.symm
        · cases hl
      · cases hl
      · cases hl
      · cases hl
      · rename_i n1 n2 n3 n4 n5
        simp only [Option.some.injEq] at hl
        refine plain (fun x => ?_) h0 hl.symm
        cases c <;> first | rfl | exact absurd rfl (n1 _) | exact absurd rfl (n2 _ _ _) | exact absurd rfl (n3 _ _ _) | exact absurd rfl (n4 _ _)
    · cases hl
theorem Out.append {out out' : Sig} {js js' : List (Nat × Nat)} (h : Out sg out js) (h' : Out sg out' js') : Out sg (out ++ out') (js ++ js') := by
  intro i b hi
  rw [Sig.get_append] at hi
  cases ho : out.get i with
  | some b0 =>
    rw [ho] at hi
    cases hi
    obtain ⟨j, a1, a2⟩ := h i _ ho
    exact ⟨j, List.mem_append_left _ a1, a2⟩
  | none =>
    rw [ho] at hi
    obtain ⟨j, a1, a2⟩ := h' i b hi
    exact ⟨j, List.mem_append_right _ a1, a2⟩
theorem pairOf_sound {v : AV} {u : Value} {g : Bool} {cs : List Cell} (hr : rav ρ w v u) (hp : pairOf v = some (g, cs)) : rp ρ w (g, cs) u := by
  unfold pairOf at hp
  split at hp
  · cases hp; exact ⟨_, rfl, hr⟩
  · cases hp; exact hr
  · cases hp
theorem rp_cells {g : Bool} {cs : List Cell} {u : Value} (h : rp ρ w (g, cs) u) : ∃ vs, All2 (rc ρ w) cs vs ∧ ∀ (ρ' : CEnv) (cs' : List Cell), All2 (rc ρ' w) cs' vs → rp ρ' w (g, cs') u := by
  cases g with
  | true =>
    obtain ⟨vs, rfl, h⟩ := h
    exact ⟨vs, h, fun ρ' cs' h' => ⟨vs, rfl, h'⟩⟩
  | false =>
    obtain ⟨c, rfl, h⟩ := h
    refine ⟨[u], .cons h .nil, fun ρ' cs' h' => ?_⟩
    cases h' with
    | cons h1 h2 => cases h2; exact ⟨_, rfl, h1⟩
theorem leaveTup_sound (h : Mem B O ρ sg w) : ∀ {vs : List AV} {n : Nat} {us : List Value} {ps : List (Bool × List Cell)} {out : Sig} {js : List (Nat × Nat)}, All2 (rav ρ w) vs us → leaveTup sg vs n = some (ps, out, js) →
    (∀ L : Nat → Loc, (∀ i j, (i, j) ∈ js → L i = ρ.loc j) → All2 (rp ⟨L, ρ.ok⟩ w) ps us) ∧ Out sg out js ∧ (∀ d, ps.any (·.2.any (·.uses d)) = true → (out.get d).isSome = true)
  | [], n, us, ps, out, js, hr, hl => by
    simp only [leaveTup, Option.some.injEq, Prod.mk.injEq] at hl
    obtain ⟨rfl, rfl, rfl⟩ := hl
    cases hr
    exact ⟨fun _ _ => .nil, (fun i b hi => by cases hi), fun d hd => by cases hd⟩
  | v :: vs, n, us, ps, out, js, hr, hl => by
    cases hr with
    | @cons _ u0 _ us h0 h1 =>
    simp only [leaveTup] at hl
    split at hl
    · rename_i g cs hp
      split at hl
      · rename_i cs1 out1 js1 ps2 out2 js2 hc ht
        simp only [Option.some.injEq, Prod.mk.injEq] at hl
        obtain ⟨rfl, rfl, rfl⟩ := hl
        obtain ⟨vs0, a1, a2⟩ := rp_cells (pairOf_sound h0 hp)
        obtain ⟨b1, b2, b3⟩ := leaveCells_sound h a1 hc
        obtain ⟨c1, c2, c3⟩ := leaveTup_sound h h1 ht
        refine ⟨fun L hL => .cons (a2 _ _ (b1 L fun i j hij => hL i j (List.mem_append_left _ hij))) (c1 L fun i j hij => hL i j (List.mem_append_right _ hij)), b2.append c2, fun d hd => ?_⟩
        rw [Sig.get_append]
        simp only [List.any_cons, Bool.or_eq_true] at hd
        rcases hd with hd | hd
        · have := b3 d hd
          obtain ⟨b, hb⟩ := Option.isSome_iff_exists.1 this
          rw [hb]; rfl
        · have := c3 d hd
          cases hb : out1.get d with
          | some b => rfl
          | none => exact this
      · cases hl
    · cases hl
/-- The results, laid into a memory of their own numbers. -/
theorem leave_mem (h : Mem B O ρ sg w) {out : Sig} {js : List (Nat × Nat)} (ho : Out sg out js) (hj : leaveOk js = true) :
    ∃ L : Nat → Loc, (∀ i j, (i, j) ∈ js → L i = ρ.loc j) ∧ Mem B O ⟨L, ρ.ok⟩ out w := by
  have hex : ∀ i, ∃ l : Loc, ∀ j, (i, j) ∈ js → l = ρ.loc j := by
    intro i
    by_cases hi : ∃ j, (i, j) ∈ js
    · obtain ⟨j, hj1⟩ := hi
      exact ⟨ρ.loc j, fun k hk => by rw [nodup_fst hj hj1 hk]⟩
    · exact ⟨.dead, fun j hj => absurd ⟨j, hj⟩ hi⟩
  refine ⟨fun i => Classical.choose (hex i), fun i j hij => Classical.choose_spec (hex i) j hij, ?_⟩
  have hL : ∀ i j, (i, j) ∈ js → Classical.choose (hex i) = ρ.loc j := fun i j hij => Classical.choose_spec (hex i) j hij
  have hown : ∀ i g, Owns ⟨fun i => Classical.choose (hex i), ρ.ok⟩ out i g → ∃ j, (i, j) ∈ js ∧ Owns ρ sg j g := by
    intro i g hi
    obtain ⟨b, h1, h2, h3⟩ := owns_iff.1 hi
    obtain ⟨j, a1, a2, e, t, l, q, rfl⟩ := ho i b h1
    refine ⟨j, a1, owns_iff.2 ⟨_, a2, h2, ?_⟩⟩
    rcases h3 with ⟨_, _, h3, _⟩ | ⟨_, _, _, _, _, h3⟩
    · cases h3
    · refine .inr ⟨_, _, _, _, rfl, ?_⟩
      obtain ⟨v, sz, h3⟩ := h3
      exact ⟨v, sz, (hL i j a1).symm.trans h3⟩
  refine ⟨fun i b hi => ?_, fun i k g hi hk => ?_, fun i g hi => ?_, h.okb, fun q g hq i hi => ?_, h.okm, h.okx, h.oky, fun i b d hi hd => ?_⟩
  · obtain ⟨j, a1, a2, e, t, l, q, rfl⟩ := ho i b hi
    obtain ⟨v, g, xs, b1, b2⟩ := h.blk j _ a2
    exact ⟨v, g, xs, (hL i j a1).trans b1, b2⟩
  · obtain ⟨j, a1, a2⟩ := hown i g hi
    obtain ⟨j', a3, a4⟩ := hown k g hk
    have := h.inj j j' g a2 a4
    subst this
    exact nodup_snd hj a1 a3
  · obtain ⟨j, a1, a2⟩ := hown i g hi
    exact h.old j g a2
  · obtain ⟨j, a1, a2⟩ := hown i g hi
    exact h.oko q g hq j a2
  · obtain ⟨j, a1, a2, e, t, l, q, rfl⟩ := ho i b hi
    cases hd
end
end Go.Proofs.Ytcladakiniekcaa.Lib

/- Calls that write the rows they are given: what the caller has then. No condition. -/
namespace Go.Proofs.Ytcladakiniekcaa.Lib
open Go Go.RowKit
set_option linter.unusedVariables false
set_option linter.unusedSimpArgs false
section
variable {P : Program} {E : Env} {B : Nat} {O O' : Ow} {w0 w w' : World} {ρ ρ' : CEnv} {a : Act} {R : Type} {r : R} {sg sg' : Sig} {st : St} {call : CallFn}
theorem Mem.ow (h : Mem B O ρ sg w) (h1 : O'.o = O.o) (h2 : O'.ok0 = O.ok0) : Mem B O' ρ sg w :=
  ⟨h.blk, h.inj, fun j g hj => by rw [h1]; exact h.old j g hj, h.okb, h.oko, h.okm, fun b g hg => by rw [h1, h2]; exact h.okx b g hg, fun b g hg => h.oky b g (by rw [← h2]; exact hg), h.dom⟩
theorem plain_rc {c : Cell} {v : Value} (hp : c.plain = true) (h : rc ρ w c v) : rc ρ' w' c v := by
  cases c with
  | int k n => exact h
  | bool b => exact h
  | str s => exact h
  | _ => cases hp
theorem plain_rav {x : AV} {v : Value} (hp : x.plain = true) (h : rav ρ w x v) : rav ρ' w' x v := by
  cases x with
  | one c => exact plain_rc hp h
  | agg cs =>
    obtain ⟨vs, h0, h1⟩ := h
    exact ⟨vs, h0, h1.imp fun c v hc h => plain_rc (List.all_eq_true.1 hp c hc) h⟩
  | tup ps => cases hp
theorem plain_cell {c : Cell} (hp : c.plain = true) (d : Nat) : c.uses d = false := by
  cases c with
  | int k n => rfl
  | bool b => rfl
  | str s => rfl
  | _ => cases hp
theorem plain_uses {x : AV} (hp : x.plain = true) (d : Nat) : x.uses d = false := by
  cases x with
  | one c => exact plain_cell hp d
  | agg cs =>
    cases h : (AV.agg cs).uses d with
    | false => rfl
    | true =>
      obtain ⟨c, hc, hu⟩ := List.any_eq_true.1 h
      rw [plain_cell (List.all_eq_true.1 hp c hc) d] at hu
      cases hu
  | tup ps => cases hp
theorem backOf_mem {js : List (Nat × Nat)} {i j : Nat} (h : backOf js j = some i) : (i, j) ∈ js := by
  induction js with
  | nil => cases h
  | cons q r ih =>
    obtain ⟨i', j'⟩ := q
    simp only [backOf, bifs, beq_iff_eq] at h
    split at h
    · rename_i he; cases h; rw [he]; exact List.mem_cons_self
    · exact List.mem_cons_of_mem _ (ih h)
theorem backOf_some {js : List (Nat × Nat)} {i j : Nat} (h : (i, j) ∈ js) : ∃ i', backOf js j = some i' := by
  induction js with
  | nil => cases h
  | cons q r ih =>
    obtain ⟨i0, j0⟩ := q
    simp only [backOf, bifs, beq_iff_eq]
    split
    · exact ⟨_, rfl⟩
    · rename_i hn
      rcases List.mem_cons.1 h with h | h
      · cases h; exact absurd rfl hn
      · exact ih h
theorem get_over (js : List (Nat × Nat)) (upd sg : Sig) (j : Nat) : (overSg js upd sg).get j = (sg.get j).map fun b => (match overB js upd j with | some b' => b' | none => b) := by
  induction sg with
  | nil => rfl
  | cons q r ih =>
    obtain ⟨i, b⟩ := q
    simp only [overSg, Sig.get, ih, bifs, beq_iff_eq]
    split
    · rename_i he; subst he; rfl
    · rfl
/-- Some rows have other contents now, at their old places. -/
theorem Mem.over (h : Mem B O ρ sg w) {js : List (Nat × Nat)} {upd : Sig}
    (hf : ∀ j b', overB js upd j = some b' → (sg.get j).isSome = true → (∃ e t l q, sg.get j = some (.arr e t l q)) ∧ (∃ e t l q, b' = .arr e t l q) ∧ rblk ρ w' j b')
    (hw : ∀ k, k < w.heap.size → (∀ i j, (i, j) ∈ js → ¬ Owns ρ sg j k) → w'.heap[k]? = w.heap[k]?) (hs : w.heap.size ≤ w'.heap.size)
    (hj : ∀ i j k, (i, j) ∈ js → Owns ρ sg j k → overB js upd j = none → w'.heap[k]? = w.heap[k]?) : Mem B O ρ (overSg js upd sg) w' := by
  have hown : ∀ j g, Owns ρ (overSg js upd sg) j g → Owns ρ sg j g := by
    intro j g ho
    obtain ⟨b', h1, h2, h3⟩ := owns_iff.1 ho
    rw [get_over, Option.map_eq_some_iff] at h1
    obtain ⟨b, h4, h5⟩ := h1
    cases hb : overB js upd j with
    | none =>
      rw [hb] at h5
      simp only at h5
      subst h5
      exact owns_iff.2 ⟨b, h4, h2, h3⟩
    | some b0 =>
      rw [hb] at h5
      simp only at h5
      subst h5
      obtain ⟨⟨e, t, l, q, h6⟩, ⟨e', t', l', q', rfl⟩, _⟩ := hf j b0 hb (by rw [h4]; rfl)
      refine owns_iff.2 ⟨_, h6, by simp, .inr ⟨_, _, _, _, rfl, ?_⟩⟩
      rcases h3 with ⟨_, _, h3, _⟩ | ⟨_, _, _, _, _, h3⟩
      · cases h3
      · exact h3
  have hok : ∀ b g, ρ.ok b g → w'.heap[g]? = w.heap[g]? := fun b g hg => hw g (h.okb b g hg) fun i j _ => h.oko b g hg j
  have hstep : Step (fun _ => True) ρ ρ w w' := ⟨fun _ _ => rfl, fun _ _ h => h, hok⟩
  refine ⟨fun j b' hb' => ?_, fun i j g hi hj => h.inj i j g (hown i g hi) (hown j g hj), fun j g hg => h.old j g (hown j g hg), fun b g hg => Nat.lt_of_lt_of_le (h.okb b g hg) hs, fun b g hg j hj => h.oko b g hg j (hown j g hj), h.okm, h.okx, h.oky, fun j b' d hb' hd => ?_⟩
  · rw [get_over, Option.map_eq_some_iff] at hb'
    obtain ⟨b, h4, h5⟩ := hb'
    cases hb : overB js upd j with
    | some b0 =>
      rw [hb] at h5
      simp only at h5
      subst h5
      exact (hf j b0 hb (by rw [h4]; rfl)).2.2
    | none =>
      rw [hb] at h5
      simp only at h5
      subst h5
      refine rblk_step hstep trivial (fun _ _ => trivial) (fun g hg hn => ?_) (h.blk j b h4)
      have ho : Owns ρ sg j g := by
        refine owns_iff.2 ⟨b, h4, hn, ?_⟩
        have hr := h.blk j b h4
        cases b with
        | fro e t l q => exact absurd rfl (hn e t l q)
        | box ty cs =>
          refine .inl ⟨ty, cs, rfl, ?_⟩
          rcases hg with hg | ⟨v, sz, hg⟩
          · exact hg
          · obtain ⟨g', vs, h3, _⟩ := hr
            rw [hg] at h3; cases h3
        | arr e t l q =>
          refine .inr ⟨e, t, l, q, rfl, ?_⟩
          rcases hg with hg | hg
          · obtain ⟨v', g', xs, h3, _⟩ := hr
            rw [hg] at h3; cases h3
          · exact hg
      by_cases hin : ∃ i, (i, j) ∈ js
      · obtain ⟨i, hi⟩ := hin
        exact hj i j g hi ho hb
      · refine hw g (h.lt ho) fun i k hk hk' => hin ⟨i, ?_⟩
        have := h.inj k j g hk' ho
        subst this
        exact hk
  · rw [get_over, Option.map_eq_some_iff] at hb'
    obtain ⟨b, h4, h5⟩ := hb'
    rw [get_over, Option.isSome_map]
    cases hb : overB js upd j with
    | some b0 =>
      rw [hb] at h5
      simp only at h5
      subst h5
      obtain ⟨_, ⟨e', t', l', q', rfl⟩, _⟩ := hf j b0 hb (by rw [h4]; rfl)
      cases hd
    | none =>
      rw [hb] at h5
      simp only at h5
      subst h5
      exact h.dom j b d h4 hd
theorem avOf_rav {p : Bool × List Cell} {v : Value} (h : rp ρ w p v) : rav ρ w (avOf p) v := by
  obtain ⟨g, cs⟩ := p
  cases g with
  | true => exact h
  | false => obtain ⟨c, rfl, h⟩ := h; exact h
theorem avOf_uses {p : Bool × List Cell} {d : Nat} (h : (avOf p).uses d = true) : p.2.any (·.uses d) = true := by
  obtain ⟨g, cs⟩ := p
  cases g with
  | true => exact h
  | false =>
    have h : (oneOf cs).uses d = true := h
    unfold oneOf at h
    split at h
    · simpa [AV.uses] using h
    · cases h
/-- Of what a summary takes, nothing owns more than what was there. -/
theorem bld_owns (w : World) (hm : ∀ g, ρ.ok false g → ρ.ok true g) {ss : List SP} {gs : List (Nat × GP)} {v : StT ss gs} (hc : capSt ss gs st = some v) {j g : Nat} (hj : Owns ρ (bldSt ss gs v).sg j g) : Owns ρ st.sg j g := by
  unfold capSt at hc
  obtain ⟨h1, _, _⟩ := SPs.sound (w := w) hm hc
  obtain ⟨h4, _⟩ := GPs.sound (w := w) hm h1
  unfold Owns at hj
  cases hb : (bldSt ss gs v).sg.get j with
  | none => rw [hb] at hj; exact hj.elim
  | some b' =>
    obtain ⟨b, h6, h7, h8, h9⟩ := h4 j b' hb
    rw [hb] at hj
    exact h8 g (by cases b' <;> exact hj)
theorem bld_arr (w : World) (hm : ∀ g, ρ.ok false g → ρ.ok true g) {ss : List SP} {gs : List (Nat × GP)} {v : StT ss gs} (hc : capSt ss gs st = some v) {j : Nat} (hj : ((bldSt ss gs v).sg.get j).isSome = true) : (st.sg.get j).isSome = true := by
  unfold capSt at hc
  obtain ⟨h1, _, _⟩ := SPs.sound (w := w) hm hc
  obtain ⟨h4, _⟩ := GPs.sound (w := w) hm h1
  obtain ⟨b', hb⟩ := Option.isSome_iff_exists.1 hj
  obtain ⟨b, h6, _⟩ := h4 j b' hb
  rw [h6]; rfl
theorem vmark_sound (h : Sim B O w0 ρ st a w) {o : Oper} {c : Call} {g : FuncId} (ho : o.op = .call c) (hc : c.callee = .value (.func g)) {m : Mrk} (hm : MarkOk P g m) {k : St → Option R} (hk : vmarkOp st o.dst m (c.args.toList.map (evalO st.sl)) k = some r)
    {next : Act → World → Prop} {Q : Exit → Act → World → Prop} (hnext : ∀ ρ' st' a' w', k st' = some r → Sim B O w0 ρ' st' a' w' → next a' w') : o.wp P a w next Q := by
  unfold vmarkOp at hk
  split at hk
  · rename_i ps out js ht
    rw [bifs] at hk
    split at hk
    · rename_i hj
      split at hk
      · rename_i v hv
        rw [Ways.run_bind, Option.bind_eq_some_iff] at hk
        obtain ⟨⟨res, upd⟩, hF, hk⟩ := hk
        simp only [bifs] at hk
        split at hk
        · rename_i hpl
          rw [Bool.and_eq_true] at hpl
          have hav : All2 (rav ρ w) (c.args.toList.map (evalO st.sl)) (c.args.toList.map a.eval) := by
            induction c.args.toList with
            | nil => exact .nil
            | cons x xs ih => exact .cons (h.eval x).1 ih
          obtain ⟨b1, b2, b3⟩ := leaveTup_sound h.mem hav ht
          obtain ⟨L, c1, c2⟩ := leave_mem h.mem b2 hj
          have hargs := b1 L c1
          obtain ⟨hwf, ⟨fn, hfn, hbody, hname⟩, hcalls⟩ := hm
          have hS : Sim B ⟨O.o, O.ok0, L⟩ w ⟨L, ρ.ok⟩ ⟨ps.map avOf, out⟩ { tmps := (c.args.toList.map a.eval).toArray, defers := [] } w := by
            have hal : All2 (rav ⟨L, ρ.ok⟩ w) (ps.map avOf) (c.args.toList.map a.eval) := hargs.map_left _ fun p u _ h => avOf_rav h
            refine ⟨c2.ow rfl rfl, by simp [← hal.length], fun i v hi => ?_, fun i v d hi hd => ?_, rfl, Keeps.refl _ _ _, h.base, fun _ _ => rfl⟩
            · obtain ⟨u, h1, h2⟩ := hal.get i hi
              exact ⟨u, by simpa using h1, h2⟩
            · simp only [List.getElem?_map, Option.map_eq_some_iff] at hi
              obtain ⟨p, hp, rfl⟩ := hi
              exact b3 d (List.any_eq_true.2 ⟨p, List.mem_of_getElem? hp, avOf_uses hd⟩)
          have hcl := hcalls v res upd hF _ _ _ _ _ (hS.cap hwf hv)
          have hrun : (execOp a.eval o).run P w = .ok (.enter g (c.args.toList.map a.eval).toArray) w := by
            have hargs : (c.args.toList.map a.eval).toArray = c.args.map a.eval := by
              apply Array.ext'
              simp
            rw [hargs]
            unfold execOp
            have hbn : ¬ (fn.body = none) := by intro hb; rw [hb] at hbody; cases hbody
            have hnn : ¬ (fn.name = "runtime.NumGoroutine") := by intro hn; rw [hn] at hname; simp at hname
            have hfe : a.eval (.func g) = .func (.func g) #[] #[] := rfl
            simp [ho, hc, resolve, hfe, Deferred.ofValue, Sem.run_bind, invoke, callFunc, hfn]
            rw [if_neg hnn, if_neg hbn]
          unfold Oper.wp
          rw [hrun, Oper.upon_enter]
          refine hcl.mono fun e w' hh => ?_
          obtain ⟨u, rfl, hr, hupd, hos, htape, hout, hsz, hfr⟩ := hh
          have hL : ∀ i j, (i, j) ∈ js → L i = ρ.loc j := c1
          have hown : ∀ i g, Owns ⟨L, ρ.ok⟩ out i g → ∃ j, (i, j) ∈ js ∧ Owns ρ st.sg j g := by
            intro i g hi
            obtain ⟨b, h1, h2, h3⟩ := owns_iff.1 hi
            obtain ⟨j, a1, a2, e, t, l, q, rfl⟩ := b2 i b h1
            refine ⟨j, a1, owns_iff.2 ⟨_, a2, h2, ?_⟩⟩
            rcases h3 with ⟨_, _, h3, _⟩ | ⟨_, _, _, _, _, h3⟩
            · cases h3
            · refine .inr ⟨_, _, _, _, rfl, ?_⟩
              obtain ⟨v, sz, h3⟩ := h3
              exact ⟨v, sz, (hL i j a1).symm.trans h3⟩
          have hframe : ∀ k, k < w.heap.size → (∀ i j, (i, j) ∈ js → ¬ Owns ρ st.sg j k) → w'.heap[k]? = w.heap[k]? := by
            intro k hk hn
            refine hfr k hk fun i hi => ?_
            obtain ⟨j, h1, h2⟩ := hown i k (bld_owns w (ρ := ⟨L, ρ.ok⟩) (st := ⟨ps.map avOf, out⟩) h.mem.okm hv hi)
            exact hn i j h1 h2
          have hup : ∀ j b', overB js upd j = some b' → (∃ e t l q, st.sg.get j = some (.arr e t l q)) ∧ (∃ e t l q, b' = .arr e t l q) ∧ rblk ρ w' j b' := by
            intro j b' hb
            unfold overB at hb
            split at hb
            · rename_i i hi
              have hij := backOf_mem hi
              obtain ⟨⟨e, t, l, q, h1⟩, ⟨e', t', l', q', rfl⟩, h3⟩ := hupd i b' hb
              have h4 := bld_arr w (ρ := ⟨L, ρ.ok⟩) (st := ⟨ps.map avOf, out⟩) h.mem.okm hv (j := i) (by rw [h1]; rfl)
              obtain ⟨b0, h5⟩ := Option.isSome_iff_exists.1 h4
              obtain ⟨j', h6, h7, e2, t2, l2, q2, rfl⟩ := b2 i b0 h5
              have := nodup_fst hj h6 hij
              subst this
              refine ⟨⟨_, _, _, _, h7⟩, ⟨_, _, _, _, rfl⟩, ?_⟩
              obtain ⟨va, gg, xs, d1, d2⟩ := h3
              exact ⟨va, gg, xs, (hL i _ h6).symm.trans d1, d2⟩
            · cases hb
          have hquiet : ∀ i j k, (i, j) ∈ js → Owns ρ st.sg j k → overB js upd j = none → w'.heap[k]? = w.heap[k]? := by
            intro i j k hij hjk hnone
            obtain ⟨i', hi'⟩ := backOf_some hij
            have h1 := List.all_eq_true.1 hpl.2 _ (backOf_mem hi')
            unfold overB at hnone
            rw [hi'] at hnone
            simp only at hnone h1
            rw [hnone] at h1
            cases h1
          have hM := h.mem.over (w' := w') (js := js) (upd := upd) (fun j b' hb _ => hup j b' hb) hframe hsz hquiet
          have hok : ∀ b g, ρ.ok b g → w'.heap[g]? = w.heap[g]? := fun b g hg => hframe g (h.mem.okb b g hg) fun i j _ => h.mem.oko b g hg j
          have hstep : Step (fun _ => True) ρ ρ w w' := ⟨fun _ _ => rfl, fun _ _ h => h, hok⟩
          have hkp : Keeps B O w w' := ⟨hos, htape, hout, hsz, fun k hk hn => hframe k (Nat.lt_of_lt_of_le hk h.base) fun i j _ hjk => by
            rcases h.mem.old j k hjk with h0 | h0
            · omega
            · exact hn h0⟩
          have hS' : Sim B O w0 ρ ⟨st.sl, overSg js upd st.sg⟩ a w' := by
            refine ⟨hM, h.len, fun i v hi => ?_, fun i v d hi hd => ?_, h.defers, h.fr.trans hkp, Nat.le_trans h.base hsz, h.pin⟩
            · obtain ⟨u, h1, h2⟩ := h.sl i v hi
              exact ⟨u, h1, rav_step hstep (fun _ _ => trivial) h2⟩
            · show (Sig.get d (overSg js upd st.sg)).isSome = true
              rw [get_over, Option.isSome_map]
              exact h.dom i v d hi hd
          exact hnext ρ _ _ w' hk (hS'.put o.dst (plain_rav hpl.1 hr) (fun d hd => by rw [plain_uses hpl.1 d] at hd; cases hd))
        · cases hk
      · cases hk
    · cases hk
  · cases hk
end
end Go.Proofs.Ytcladakiniekcaa.Lib

/- The call operation; all operations. No condition. -/
namespace Go.Proofs.Ytcladakiniekcaa.Lib
open Go Go.RowKit
set_option linter.unusedVariables false
set_option linter.unusedSimpArgs false
section
variable {P : Program} {E : Env} {B : Nat} {O : Ow} {w0 w w' : World} {ρ ρ' : CEnv} {a : Act} {R : Type} {r : R} {sg sg' : Sig} {st : St} {call : CallFn}
theorem get_shift_or (out : Sig) (d i : Nat) : (out.shift d).get i = if d ≤ i then (out.get (i - d)).map (·.shift d) else none := by
  split
  · rename_i h
    have := Sig.get_shift out d (i - d)
    rwa [Nat.sub_add_cancel h] at this
  · exact Sig.get_shift_none out d i (by omega)
/-- The world has moved on below what is one's own: nothing of it has changed. -/
theorem Sim.below (h : Sim B O w0 ρ st a w) (hb : Below w.heap.size w w') : Sim B O w0 ρ st a w' := by
  have hst : Step (fun _ => True) ρ ρ w w' := ⟨fun _ _ => rfl, fun _ _ h => h, fun b g hg => hb.block g (h.mem.okb b g hg)⟩
  refine ⟨⟨fun j b hj => ?_, h.mem.inj, h.mem.old, fun b g hg => Nat.lt_of_lt_of_le (h.mem.okb b g hg) hb.size, h.mem.oko, h.mem.okm, h.mem.okx, h.mem.oky, h.mem.dom⟩, h.len, fun i v hi => ?_, h.dom, h.defers,
    h.fr.trans ⟨hb.os, hb.tape, hb.output, hb.size, fun g h1 _ => hb.block g (Nat.lt_of_lt_of_le h1 h.base)⟩, Nat.le_trans h.base hb.size, h.pin⟩
  · refine rblk_step hst trivial (fun _ _ => trivial) (fun g hg hf => ?_) (h.mem.blk j b hj)
    have ho : Owns ρ st.sg j g := by
      refine owns_iff.2 ⟨b, hj, hf, ?_⟩
      have hr := h.mem.blk j b hj
      cases b with
      | fro e t l q => exact absurd rfl (hf e t l q)
      | box ty cs =>
        refine .inl ⟨ty, cs, rfl, ?_⟩
        rcases hg with hg | ⟨v, sz, hg⟩
        · exact hg
        · obtain ⟨g', vs, h3, _⟩ := hr
          rw [hg] at h3; cases h3
      | arr e t l q =>
        refine .inr ⟨e, t, l, q, rfl, ?_⟩
        rcases hg with hg | hg
        · obtain ⟨v', g', xs, h3, _⟩ := hr
          rw [hg] at h3; cases h3
        · exact hg
    exact hb.block g (h.mem.lt ho)
  · obtain ⟨u, hu, hr⟩ := h.sl i v hi
    exact ⟨u, hu, rav_step hst (fun _ _ => trivial) hr⟩
/-- What a call hands back is taken in. -/
theorem Sim.import (h : Sim B O w0 ρ st a w) (hb : Below w.heap.size w w') {ρr : CEnv} {out : Sig} {res : AV} {v : Value} {d : Nat} (hM : Mem w.heap.size ⟨fun _ => False, ρ.ok, ρ.loc⟩ ρr out w') (hr : rav ρr w' res v) (hu : ∀ x, res.uses x = true → (out.get x).isSome = true)
    (hfr : ∀ q ∈ out, st.sg.free (q.1 + d) = true) :
    ∃ ρ', Sim B O w0 ρ' ⟨st.sl.set d (res.shift d), out.shift d ++ st.sg⟩ (a.put (some d) v) w' := by
  have hok := hM.oky
  have hold : ∀ b g, ρr.ok b g → ρ.ok b g ∨ w.heap.size ≤ g := fun b g hg => by
    rcases hM.okx b g hg with h1 | h1 | h1
    · exact .inl h1
    · exact .inr h1
    · exact h1.elim
  let ρ2 : CEnv := ⟨fun i => if d ≤ i ∧ (out.get (i - d)).isSome = true then ρr.loc (i - d) else ρ.loc i, ρr.ok⟩
  have hin : ∀ j, (out.get j).isSome = true → ρ2.loc (j + d) = ρr.loc j := by
    intro j hj
    show (if _ then _ else _) = _
    rw [if_pos ⟨by omega, by rw [Nat.add_sub_cancel]; exact hj⟩, Nat.add_sub_cancel]
  have hdis : ∀ i, (st.sg.get i).isSome = true → ¬ (d ≤ i ∧ (out.get (i - d)).isSome = true) := by
    rintro i hi ⟨h1, h2⟩
    obtain ⟨b, hb⟩ := Option.isSome_iff_exists.1 h2
    have := hfr _ (Sig.get_mem hb)
    rw [Nat.sub_add_cancel h1] at this
    have hpp := (Sig.free_iff.1 this).2
    have this := (Sig.free_iff.1 this).1
    rw [this] at hi
    cases hi
  have hout : ∀ i, (st.sg.get i).isSome = true → ρ2.loc i = ρ.loc i := fun i hi => by
    show (if _ then _ else _) = _
    rw [if_neg (hdis i hi)]
  have hget : ∀ i, (out.shift d ++ st.sg).get i = if d ≤ i ∧ (out.get (i - d)).isSome = true then (out.get (i - d)).map (·.shift d) else st.sg.get i := by
    intro i
    rw [Sig.get_append, get_shift_or]
    by_cases h1 : d ≤ i
    · rw [if_pos h1]
      cases h2 : out.get (i - d) with
      | none => simp
      | some b => simp [h1]
    · rw [if_neg h1, if_neg (fun h => h1 h.1)]; rfl
  have hb' := h.below hb
  have hst : Step (fun i => (st.sg.get i).isSome = true) ρ ρ2 w' w' := ⟨hout, hok, fun _ _ _ => rfl⟩
  have hown : ∀ i g, Owns ρ2 (out.shift d ++ st.sg) i g → (∃ j, i = j + d ∧ Owns ρr out j g) ∨ Owns ρ st.sg i g := by
    intro i g ho
    obtain ⟨b, h1, h2, h3⟩ := owns_iff.1 ho
    rw [hget] at h1
    split at h1
    · rename_i hc
      rw [Option.map_eq_some_iff] at h1
      obtain ⟨b0, h4, rfl⟩ := h1
      have hl := hin (i - d) hc.2
      rw [Nat.sub_add_cancel hc.1] at hl
      rw [hl] at h3
      refine .inl ⟨i - d, by omega, owns_iff.2 ⟨b0, h4, ?_, ?_⟩⟩
      · rintro e t l q rfl; exact h2 e t l q rfl
      · cases b0 with
        | box ty cs =>
          rcases h3 with ⟨_, _, _, h3⟩ | ⟨_, _, _, _, h3, _⟩
          · exact .inl ⟨_, _, rfl, h3⟩
          · cases h3
        | arr e t l q =>
          rcases h3 with ⟨_, _, h3, _⟩ | ⟨_, _, _, _, _, h3⟩
          · cases h3
          · exact .inr ⟨_, _, _, _, rfl, h3⟩
        | fro e t l q => exact absurd rfl (h2 e t l q)
    · rw [hout i (by rw [h1]; rfl)] at h3
      exact .inr (owns_iff.2 ⟨b, h1, h2, h3⟩)
  have hsome : ∀ i, (st.sg.get i).isSome = true → ((out.shift d ++ st.sg).get i).isSome = true := fun i hi => by rw [hget, if_neg (hdis i hi)]; exact hi
  have hsome' : ∀ j, (out.get j).isSome = true → ((out.shift d ++ st.sg).get (j + d)).isSome = true := fun j hj => by
    rw [hget, if_pos ⟨by omega, by rw [Nat.add_sub_cancel]; exact hj⟩, Nat.add_sub_cancel, Option.isSome_map]; exact hj
  have hpn : ∀ i, PIN ≤ i → ρ2.loc i = ρ.loc i := fun i hi => by
    show (if _ then _ else _) = _
    rw [if_neg]
    rintro ⟨h1, h2⟩
    obtain ⟨b, hb⟩ := Option.isSome_iff_exists.1 h2
    have := (Sig.free_iff.1 (hfr _ (Sig.get_mem hb))).2
    simp only at this
    omega
  have hS : Sim B O w0 ρ2 ⟨st.sl, out.shift d ++ st.sg⟩ a w' := by
    refine ⟨⟨fun i b hi => ?_, fun i j g hi hj => ?_, fun i g hi => ?_, hM.okb, fun q g hq i hi => ?_, hM.okm, fun q g hq => ?_, fun q g hq => hok q g (h.mem.oky q g hq), fun i b x hi hx => ?_⟩, h.len, fun i v hi => ?_, fun i v x hi hx => ?_, h.defers, hb'.fr, hb'.base, fun i hi => (hpn i hi).trans (h.pin i hi)⟩
    · rw [hget] at hi
      split at hi
      · rename_i hc
        rw [Option.map_eq_some_iff] at hi
        obtain ⟨b0, h4, rfl⟩ := hi
        have := shift_rblk (ρ' := ρ2) (d := d) (hin (i - d) hc.2) (fun x hx => hin x (hM.dom (i - d) b0 x h4 hx)) rfl (hM.blk (i - d) b0 h4)
        rwa [Nat.sub_add_cancel hc.1] at this
      · exact rblk_step hst (by show _ = _; rw [hi]; rfl) (fun x hx => h.mem.dom i b x hi hx) (fun _ _ _ => rfl) (hb'.mem.blk i b hi)
    · rcases hown i g hi with ⟨i', rfl, h1⟩ | h1 <;> rcases hown j g hj with ⟨j', rfl, h2⟩ | h2
      · rw [hM.inj i' j' g h1 h2]
      · rcases hM.old i' g h1 with h3 | h3
        · exact absurd (h.mem.lt h2) (by omega)
        · exact h3.elim
      · rcases hM.old j' g h2 with h3 | h3
        · exact absurd (h.mem.lt h1) (by omega)
        · exact h3.elim
      · exact h.mem.inj i j g h1 h2
    · rcases hown i g hi with ⟨i', rfl, h1⟩ | h1
      · rcases hM.old i' g h1 with h3 | h3
        · exact .inl (Nat.le_trans h.base h3)
        · exact h3.elim
      · exact h.mem.old i g h1
    · rcases hown i g hi with ⟨i', rfl, h1⟩ | h1
      · exact hM.oko q g hq i' h1
      · rcases hold q g hq with h3 | h3
        · exact h.mem.oko q g h3 i h1
        · exact absurd (h.mem.lt h1) (by omega)
    · rcases hold q g hq with h3 | h3
      · exact h.mem.okx q g h3
      · exact .inr (.inl (Nat.le_trans h.base h3))
    · rw [hget] at hi
      split at hi
      · rename_i hc
        rw [Option.map_eq_some_iff] at hi
        obtain ⟨b0, h4, rfl⟩ := hi
        have hx' : ∃ j, x = j + d ∧ b0.uses j = true := by
          cases b0 with
          | box t cs => exact shift_any hx
          | _ => cases hx
        obtain ⟨j, rfl, hj⟩ := hx'
        exact hsome' j (hM.dom (i - d) b0 j h4 hj)
      · exact hsome x (h.mem.dom i b x hi hx)
    · obtain ⟨u, h1, h2⟩ := hb'.sl i v hi
      exact ⟨u, h1, rav_step hst (fun x hx => h.dom i v x hi hx) h2⟩
    · exact hsome x (h.dom i v x hi hx)
  exact ⟨ρ2, hS.put (some d) (shift_rav (fun x hx => hin x (hu x hx)) rfl hr) (fun x hx => by
    obtain ⟨j, rfl, hj⟩ := shift_av hx
    exact hsome' j (hu j hj))⟩
theorem vcallOp_sound (hE : Env.Ok P E) (hC : CallOk P call) (h : Sim B O w0 ρ st a w) {o : Oper} {c : Call} {f : Operand} (ho : o.op = .call c) (hc : c.callee = .value f) {k : St → Option R} (hk : vcallOp E call st o.dst (evalO st.sl f) (c.args.toList.map (evalO st.sl)) k = some r)
    {next : Act → World → Prop} {Q : Exit → Act → World → Prop} (hnext : ∀ ρ' st' a' w', k st' = some r → Sim B O w0 ρ' st' a' w' → next a' w') : o.wp P a w next Q := by
  unfold vcallOp at hk
  split at hk
  · rename_i g caps hf
    split at hk
    · rename_i args own hargs
      rw [callK_eq] at hk
      obtain ⟨⟨res, out⟩, hcall, hk⟩ := Option.bind_eq_some_iff.1 hk
      simp only [bifs] at hk
      split at hk
      · rename_i hnb
        have hfv := (h.eval f).1
        rw [hf] at hfv
        obtain ⟨cvs, hfe, hcaps⟩ := hfv
        have hav : All2 (rav ρ w) (c.args.toList.map (evalO st.sl)) (c.args.toList.map a.eval) := by
          induction c.args.toList with
          | nil => exact .nil
          | cons x xs ih => exact .cons (h.eval x).1 ih
        obtain ⟨hl1, hl2⟩ := lendAll_sound hE h.mem (own := own) hav hargs (fun h => h)
        have hcap2 : All2 (rav (ρ.lent st.sg own) w) (caps.map fun c => AV.one (.eptr c.1 c.2 0 true)) cvs := hcaps.map_left _ fun p u _ ⟨ad, h1, h2⟩ => ⟨ad, h1.step (fun g hg => .inl hg) (fun _ _ => rfl), by rw [h2]; simp [Addr.add]⟩
        have hall := hl1.append hcap2
        obtain ⟨⟨fn, hfn, hbody, hname⟩, hcalls⟩ := callP_ok hE hC hcall (ρ.lent st.sg own) w _ (fun b k hk => by
            rcases hk with hk | ⟨_, _, j, hj⟩
            · exact h.mem.okb b k hk
            · exact h.mem.lt hj) (fun k hk => by
            rcases hk with hk | ⟨hk, _⟩
            · exact .inl (h.mem.okm k hk)
            · cases hk) hall (fun v hv d => by
            rcases List.mem_append.1 hv with hv | hv
            · exact hl2 v hv d
            · obtain ⟨p, _, rfl⟩ := List.mem_map.1 hv; rfl)
        have hrun : (execOp a.eval o).run P w = .ok (.enter g (c.args.toList.map a.eval ++ cvs).toArray) w := by
          have hargs : (c.args.toList.map a.eval ++ cvs).toArray = c.args.map a.eval ++ cvs.toArray := by
            apply Array.ext'
            simp
          rw [hargs]
          unfold execOp
          have hbn : ¬ (fn.body = none) := by intro hb; rw [hb] at hbody; cases hbody
          have hnn : ¬ (fn.name = "runtime.NumGoroutine") := by intro hn; rw [hn] at hname; simp at hname
          simp [ho, hc, resolve, hfe, Deferred.ofValue, Sem.run_bind, invoke, callFunc, hfn]
          rw [if_neg hnn, if_neg hbn]
        unfold Oper.wp
        rw [hrun, Oper.upon_enter]
        refine hcalls.mono fun e w' hh => ?_
        obtain ⟨v, ρr, rfl, hr, hM, hu, hb⟩ := hh
        have hok := hM.oky
        have hold : ∀ b g, ρr.ok b g → (ρ.lent st.sg own).ok b g ∨ w.heap.size ≤ g := fun b g hg => by
          rcases hM.okx b g hg with h1 | h1 | h1
          · exact .inl h1
          · exact .inr h1
          · exact h1.elim
        have fin : ∃ ρf : CEnv, rav ρf w' res v ∧ Mem w.heap.size ⟨fun _ => False, ρ.ok, ρ.loc⟩ ρf out w' := by
          cases own with
          | false =>
            refine ⟨ρr, hr, ⟨hM.blk, hM.inj, hM.old, hM.okb, hM.oko, hM.okm, fun b g hg => ?_, fun b g hg => hok b g (.inl hg), hM.dom⟩⟩
            rcases hold b g hg with (h1 | ⟨_, h1, _⟩) | h1
            · exact .inl h1
            · cases h1
            · exact .inr (.inl h1)
          | true =>
            simp only [Bool.not_true, Bool.false_or, Bool.and_eq_true] at hnb
            let ρk : CEnv := ⟨ρr.loc, fun q g => ρr.ok false g ∨ ρ.ok q g⟩
            have hsk : Step (fun _ => True) ρr.strict ρk w' w' := ⟨fun _ _ => rfl, fun _ _ h => Or.inl h, fun _ _ _ => rfl⟩
            refine ⟨ρk, rav_step hsk (fun _ _ => trivial) (nobor_rav hnb.1 hr), ⟨fun j b hj => ?_, fun i j g hi hj => hM.inj i j g hi hj, fun j g hj => hM.old j g hj, fun b g hg => ?_, fun b g hg j hj => ?_, fun g hg => ?_, fun b g hg => ?_, fun b g hg => .inr hg, hM.dom⟩⟩
            · have hb0 := nobor_blk (List.all_eq_true.1 hnb.2 _ (Sig.get_mem hj)) (hM.blk j b hj)
              exact rblk_step hsk trivial (fun _ _ => trivial) (fun _ _ _ => rfl) hb0
            · rcases hg with hg | hg
              · exact hM.okb false g hg
              · exact Nat.lt_of_lt_of_le (h.mem.okb b g hg) hb.size
            · rcases hg with hg | hg
              · exact hM.oko false g hg j hj
              · rcases hM.old j g hj with h1 | h1
                · exact absurd (h.mem.okb b g hg) (by omega)
                · exact h1.elim
            · rcases hg with hg | hg
              · exact .inl hg
              · exact .inr (h.mem.okm g hg)
            · rcases hg with hg | hg
              · rcases hold false g hg with (h1 | ⟨h1, _⟩) | h1
                · cases b with
                  | false => exact .inl h1
                  | true => exact .inl (h.mem.okm g h1)
                · cases h1
                · exact .inr (.inl h1)
              · exact .inl hg
        obtain ⟨ρf, f1, f2⟩ := fin
        cases hd : o.dst with
        | none =>
          simp only [hd] at hk
          exact hnext ρ st a w' hk (h.below hb)
        | some d =>
          simp only [hd] at hk
          split at hk
          · rename_i hfr
            obtain ⟨ρ2, hS⟩ := h.import hb f2 f1 hu (d := d) (fun q hq => List.all_eq_true.1 hfr q hq)
            exact hnext ρ2 _ _ w' hk hS
          · cases hk
      · cases hk
    · cases hk
  · cases hk
/-- Every operation. -/
theorem exec_sound (hE : Env.Ok P E) (hC : CallOk P call) (h : Sim B O w0 ρ st a w) (o : Oper) {k : St → Option R} (hk : exec E call o st k = some r)
    {next : Act → World → Prop} {Q : Exit → Act → World → Prop} (hnext : ∀ ρ' st' a' w', k st' = some r → Sim B O w0 ρ' st' a' w' → next a' w') : o.wp P a w next Q := by
  have quiet : qop E st.sg (evalO st.sl) o.dst o.op (fun v add => k (St.put o.dst v ⟨st.sl, add ++ st.sg⟩)) = some r → o.wp P a w next Q := by
    intro hk
    obtain ⟨v, add, u, w', h1, h2, h3⟩ := qop_sound hE h o hk
    obtain ⟨ρ2, hS⟩ := h.adds h3
    unfold Oper.wp
    rw [h2, Oper.upon_value]
    exact hnext ρ2 _ _ w' h1 hS
  unfold exec at hk
  split at hk
  · rename_i t p v ho
    obtain ⟨ρ2, st2, w', h1, h2, h3⟩ := vstore_sound hE h ho hk
    unfold Oper.wp
    rw [h2, Oper.upon_skip]
    exact hnext ρ2 _ _ w' h1 (h3.put o.dst trivial (fun d hd => by cases hd))
  · rename_i c ho
    split at hk
    · rename_i s x t t' hc ha hat
      simp only [bifs] at hk
      split at hk
      · rename_i ht
        have ht : t' = t := by simpa using ht
        subst ht
        obtain ⟨ρ2, st2, w', v, h1, h2, h3⟩ := vappend_sound hE h ho hc ha hat hk
        unfold Oper.wp
        rw [h2, Oper.upon_value]
        exact hnext ρ2 _ _ w' h1 h3
      · cases hk
    · rename_i f hc
      split at hk
      · rename_i m hm
        unfold markOf at hm
        split at hm
        · exact vmark_sound h ho hc (hE.mark _ _ hm) hk hnext
        · cases hm
      · exact vcallOp_sound hE hC h ho hc hk hnext
    · exact quiet hk
  · rename_i t n ps ho
    split at hk
    · rename_i sg ps' hset
      split at hk
      · rename_i d e sz by_ ty hd ht
        split at hk
        · rename_i td sz' by' τ he
          simp only [bifs] at hk
          split at hk
          · rename_i hcond
            simp only [Bool.and_eq_true, Sig.free_iff, beq_iff_eq, Nat.ble_eq] at hcond
            split at hk
            · rename_i l hl
              obtain ⟨ρ2, w', v, h1, h2⟩ := vbuild_sound hE h ho hd hset ht he hcond.1.1 hcond.1.2 hcond.2 hl
              unfold Oper.wp
              rw [h1, Oper.upon_value]
              exact hnext ρ2 _ _ w' hk h2
            · split at hk
              · rename_i l hl
                obtain ⟨ρ2, w', v, h1, h2⟩ := vbuild_sound hE h ho hd hset ht he hcond.1.1 hcond.1.2 hcond.2 hl
                unfold Oper.wp
                rw [h1, Oper.upon_value]
                exact hnext ρ2 _ _ w' hk h2
              · cases hk
          · cases hk
        · cases hk
      · cases hk
    · cases hk
  · exact quiet hk
end
end Go.Proofs.Ytcladakiniekcaa.Lib

/- Statements, loops, the code of a function. No condition. -/
namespace Go.Proofs.Ytcladakiniekcaa.Lib
open Go Go.RowKit
set_option linter.unusedVariables false
set_option linter.unusedSimpArgs false
section
variable {P : Program} {E : Env} {B : Nat} {O : Ow} {w0 w w' : World} {ρ ρ' : CEnv} {a : Act} {R : Type} {r : R} {sg sg' : Sig} {st : St} {call : CallFn}
theorem put_same {t : Nat} {v : AV} (h : st.sl[t]? = some v) : st.put (some t) v = st := by
  obtain ⟨sl, sg⟩ := st
  simp only [St.put, St.mk.injEq, and_true]
  apply List.ext_getElem?
  intro i
  rw [List.getElem?_set]
  split
  · rename_i hi
    subst hi
    split
    · exact h.symm
    · rename_i hn
      have := (List.getElem?_eq_some_iff.1 h).1
      exact absurd this hn
  · rfl
theorem vguard_sound (hE : Env.Ok P E) (hC : CallOk P call) {ops : Array Oper} {k : St → Option R} {Q : Exit → Act → World → Prop}
    (hnext : ∀ ρ' st' a' w', k st' = some r → Sim B O w0 ρ' st' a' w' → Q .normal a' w') : ∀ (l : List Oper) (st : St) (ρ : CEnv) (a : Act) (w : World), Sim B O w0 ρ st a w → vguard E call ops.toList l st k = some r → wpList P ops Q l a w
  | [], st, ρ, a, w, h, hk => hnext ρ st a w hk h
  | o :: l, st, ρ, a, w, h, hk => by
    have run : ∀ (st : St), Sim B O w0 ρ st a w → exec E call o st (fun st => vguard E call ops.toList l st k) = some r → Region.wanted o (yielded ops a.tmps) = true → wpList P ops Q (o :: l) a w := by
      intro st h hk hw
      unfold wpList
      rw [if_pos hw]
      exact .inl (exec_sound hE hC h o hk fun ρ' st' a' w' hk' h' => vguard_sound hE hC hnext l st' ρ' a' w' h' hk')
    have skip : ∀ (st : St), Sim B O w0 ρ st a w → vguard E call ops.toList l (st.put o.dst (.tup [])) k = some r → Region.wanted o (yielded ops a.tmps) = false → wpList P ops Q (o :: l) a w := by
      intro st h hk hw
      unfold wpList
      rw [if_neg (by rw [hw]; simp)]
      exact vguard_sound hE hC hnext l _ ρ _ w (h.put o.dst (v := .tup []) (u := undef) ⟨[], rfl, .nil⟩ (fun d hd => by cases hd)) hk
    simp only [vguard] at hk
    split at hk
    · rename_i hg
      exact run st h hk (by simp [Region.wanted, hg])
    · rename_i j want hg
      split at hk
      · rename_i t ht
        split at hk
        · rename_i v hv
          obtain ⟨u, hu, hr⟩ := h.sl t _ hv
          have hr : u = .bool v := hr
          subst hr
          have ht' : (ops[j]?).bind (·.dst) = some t := by rw [← Array.getElem?_toList]; exact ht
          have hy : yielded ops a.tmps j = some v := by
            unfold yielded
            rw [ht']
            simp [hu]
          have hw : Region.wanted o (yielded ops a.tmps) = (v == want) := by
            unfold Region.wanted
            rw [hg]
            simp only [hy]
            cases v <;> cases want <;> rfl
          cases v with
          | true =>
            simp only [put_same hv, bifs] at hk
            split at hk
            · rename_i h1; subst h1; exact run st h hk (by rw [hw]; rfl)
            · rename_i h1; have : want = false := by simpa using h1
              subst this; exact skip st h hk (by rw [hw]; rfl)
          | false =>
            simp only [put_same hv, bifs] at hk
            split at hk
            · rename_i h1; subst h1; exact skip st h hk (by rw [hw]; rfl)
            · rename_i h1; have : want = false := by simpa using h1
              subst this; exact run st h hk (by rw [hw]; rfl)
        · rename_i hv
          obtain ⟨u, hu, hr⟩ := h.sl t _ hv
          obtain ⟨us, rfl, hus⟩ := hr
          have ht' : (ops[j]?).bind (·.dst) = some t := by rw [← Array.getElem?_toList]; exact ht
          have hy : yielded ops a.tmps j = none := by
            unfold yielded
            rw [ht']
            simp [hu]
          have hw : Region.wanted o (yielded ops a.tmps) = false := by
            unfold Region.wanted
            rw [hg]
            simp only [hy]
            rfl
          exact skip st h hk hw
        · cases hk
      · cases hk
/-- What is undefined or forgotten asks nothing. -/
theorem Sim.mask (h : Sim B O w0 ρ st a w) {m : List Bool} (hm : m.length = st.sl.length) (keep : List Nat) : Sim B O w0 ρ (st.mask m keep) a w := by
  have hget : ∀ i, (st.mask m keep).sg.get i = if (!keep.contains i) = true then none else (st.sg.get i).map (·.strike fun j => !keep.contains j) := fun i => Sig.get_strike _ _ _
  have hsl : ∀ (i : Nat) (v : AV), (st.mask m keep).sl[i]? = some v → ∃ v0, st.sl[i]? = some v0 ∧ (v = .one .und ∨ v = v0.strike fun j => !keep.contains j) := by
    intro i v hi
    simp only [St.mask, List.getElem?_zipWith] at hi
    split at hi
    · rename_i b v0 hb hv0
      cases hi
      exact ⟨v0, hv0, by cases b <;> simp⟩
    · cases hi
  refine ⟨h.mem.strike (p := fun j => !keep.contains j) (fun i b' hi => ?_) (fun d hd hp => ?_), by simp [St.mask, h.len, hm], fun i v hi => ?_, fun i v d hi hd => ?_, h.defers, h.fr, h.base, h.pin⟩
  · rw [hget] at hi
    split at hi
    · cases hi
    · rw [Option.map_eq_some_iff] at hi
      obtain ⟨b, h1, h2⟩ := hi
      exact ⟨b, h1, h2.symm⟩
  · rw [hget, if_neg (by simpa using hp), Option.isSome_map]; exact hd
  · obtain ⟨v0, h1, h2⟩ := hsl i v hi
    obtain ⟨u, h3, h4⟩ := h.sl i v0 h1
    rcases h2 with rfl | rfl
    · exact ⟨u, h3, trivial⟩
    · exact ⟨u, h3, strike_rav h4⟩
  · obtain ⟨v0, h1, h2⟩ := hsl i v hi
    rcases h2 with rfl | rfl
    · cases hd
    · obtain ⟨h3, h4⟩ := strike_av hd
      rw [hget, if_neg (by simpa using h4), Option.isSome_map]
      exact h.dom i v0 d h1 h3
theorem wp_loop_fuel {c : Code} {Q : Exit → Act → World → Prop} (I : Nat → Act → World → Prop)
    (round : ∀ n a w, I n a w → c.wp P (Exit.then (fun a' w' => ∃ m, m < n ∧ I m a' w') Q) a w) : ∀ n a w, I n a w → (Code.loop c).wp P Q a w := by
  intro n a w hI b k cs
  have key : ∀ n a w, I n a w → ∃ e a' w', Q e a' w' ∧ Arrives P (lone (b.at a (.code c :: .inLoop c :: k)) cs w) b k cs e a' w' := by
    intro n
    induction n using Nat.strongRecOn with
    | _ n ih =>
      intro a w hI
      obtain ⟨e, a₁, w₁, hq, harr⟩ := round n a w hI b (.inLoop c :: k) cs
      cases e with
      | normal =>
        obtain ⟨m, hlt, hI₁⟩ := hq
        obtain ⟨e₂, a₂, w₂, hq₂, harr₂⟩ := ih m hlt a₁ w₁ hI₁
        exact ⟨e₂, a₂, w₂, hq₂, .of_steps (Steps.trans harr (.one step_inLoop)) harr₂⟩
      | exit id => exact ⟨_, a₁, w₁, hq, .pass (x := .inLoop c) rfl (fun _ _ => .inl (by simp)) harr⟩
      | goto l => exact ⟨_, a₁, w₁, hq, .pass (x := .inLoop c) rfl (fun _ _ => .inl (by simp)) harr⟩
      | ret => exact ⟨_, a₁, w₁, hq, .pass (x := .inLoop c) rfl (fun _ _ => .inl (by simp)) harr⟩
      | panic ch => exact ⟨_, a₁, w₁, hq, .pass (x := .inLoop c) rfl (fun _ _ => .inl (by simp)) harr⟩
      | outgrown => exact ⟨_, a₁, w₁, hq, .pass (x := .inLoop c) rfl (fun _ _ => .inl (by simp)) harr⟩
  obtain ⟨e, a', w', hq, harr⟩ := key n a w hI
  exact ⟨e, a', w', hq, .of_steps (.one step_loop) harr⟩
/-- What a statement that the interpreter goes through in line owes where the model draws its order. -/
def DrawOk (P : Program) (E : Env) (call : CallFn) (draw : Env → List Oper → Bool) : Prop :=
  ∀ (R : Type) (r : R) (B : Nat) (O : Ow) (w0 w : World) (ρ : CEnv) (st : St) (a : Act) (id : Nat) (ops : Array Oper) (k : St → Option R) (Q : Exit → Act → World → Prop), draw E ops.toList = true → Sim B O w0 ρ st a w → vguard E call ops.toList ops.toList st k = some r →
    (∀ ρ' st' a' w', k st' = some r → Sim B O w0 ρ' st' a' w' → Q .normal a' w') → (Code.region id ops true).wp P Q a w
theorem vcode_sound (hE : Env.Ok P E) (hC : CallOk P call) {draw : Env → List Oper → Bool} (hD : DrawOk P E call draw) (fuel : Nat) : ∀ (c : Code) (lt : LT) (st : St) (ρ : CEnv) (a : Act) (w : World) (k : Ex → St → Option R) (Q : Exit → Act → World → Prop), LtOk P c lt → Sim B O w0 ρ st a w → vcode E call draw fuel c lt st k = some r →
    (∀ e ρ' st' a' w', k e st' = some r → Sim B O w0 ρ' st' a' w' → Q e.to a' w') → c.wp P Q a w
  | .skip, lt, st, ρ, a, w, k, Q, hl, h, hk, hn => wp_skip (hn .normal ρ st a w hk h)
  | .label l, lt, st, ρ, a, w, k, Q, hl, h, hk, hn => wp_label (hn .normal ρ st a w hk h)
  | .exit id, lt, st, ρ, a, w, k, Q, hl, h, hk, hn => wp_exit (hn (.exit id) ρ st a w hk h)
  | .ret, lt, st, ρ, a, w, k, Q, hl, h, hk, hn => wp_ret (hn .ret ρ st a w hk h)
  | .goto _, lt, st, ρ, a, w, k, Q, hl, h, hk, hn => by simp only [vcode] at hk; cases hk
  | .scope _, lt, st, ρ, a, w, k, Q, hl, h, hk, hn => by simp only [vcode] at hk; cases hk
  | .refuse _, lt, st, ρ, a, w, k, Q, hl, h, hk, hn => by simp only [vcode] at hk; cases hk
  | .rangeFunc _ _ _ _, lt, st, ρ, a, w, k, Q, hl, h, hk, hn => by simp only [vcode] at hk; cases hk
  | .region id ops d, lt, st, ρ, a, w, k, Q, hl, h, hk, hn => by
    simp only [vcode, bifs] at hk
    split at hk
    · rename_i hd
      cases d with
      | false => exact wp_region_list (vguard_sound hE hC (fun ρ' st' a' w' hk' h' => hn .normal ρ' st' a' w' hk' h') _ st ρ a w h hk)
      | true => exact hD R r B O w0 w ρ st a id ops (k .normal) Q (by simpa using hd) h hk (fun ρ' st' a' w' hk' h' => hn .normal ρ' st' a' w' hk' h')
    · cases hk
  | .seq x y, lt, st, ρ, a, w, k, Q, hl, h, hk, hn => by
    simp only [vcode] at hk
    refine wp_seq (vcode_sound hE hC hD fuel x lt.l st ρ a w _ _ hl.1 h hk fun e ρ' st' a' w' hk' h' => ?_)
    cases e with
    | normal => exact vcode_sound hE hC hD fuel y lt.r st' ρ' a' w' k Q hl.2 h' hk' hn
    | exit i => exact hn (.exit i) ρ' st' a' w' hk' h'
    | ret => exact hn .ret ρ' st' a' w' hk' h'
  | .cond c x y, lt, st, ρ, a, w, k, Q, hl, h, hk, hn => by
    simp only [vcode] at hk
    split at hk
    · rename_i v hv
      have hc := (h.eval c).1
      rw [hv] at hc
      have hc : a.eval c = .bool v := hc
      cases v with
      | true => exact wp_cond_true hc (vcode_sound hE hC hD fuel x lt.l st ρ a w k Q hl.1 h hk hn)
      | false => exact wp_cond_false hc (vcode_sound hE hC hD fuel y lt.r st ρ a w k Q hl.2 h hk hn)
    · cases hk
  | .block id b, lt, st, ρ, a, w, k, Q, hl, h, hk, hn => by
    simp only [vcode] at hk
    refine wp_block (vcode_sound hE hC hD fuel b lt.l st ρ a w _ _ hl h hk fun e ρ' st' a' w' hk' h' => ?_)
    cases e with
    | normal => exact hn .normal ρ' st' a' w' hk' h'
    | exit i =>
      simp only [bifs, beq_iff_eq] at hk'
      show (if i = id then Q .normal a' w' else Q (.exit i) a' w')
      split at hk'
      · rename_i hi; rw [if_pos hi]; exact hn .normal ρ' st' a' w' hk' h'
      · rename_i hi; rw [if_neg hi]; exact hn (.exit i) ρ' st' a' w' hk' h'
    | ret => exact hn .ret ρ' st' a' w' hk' h'
  | .loop b, lt, st, ρ, a, w, k, Q, hl, h, hk, hn => by
    simp only [vcode] at hk
    have go : LtOk P b lt.l → vloop (vcode E call draw fuel b lt.l) (st.sl.map (·.isDef)) (st.sg.map (·.1)) fuel st k = some r → (Code.loop b).wp P Q a w := by
      intro hl0 hk
      refine wp_loop_fuel (fun n a w => ∃ ρ st', Sim B O w0 ρ st' a w ∧ vloop (vcode E call draw fuel b lt.l) (st.sl.map (·.isDef)) (st.sg.map (·.1)) n st' k = some r) (fun n a w hI => ?_) fuel a w ⟨ρ, st, h, hk⟩
      obtain ⟨ρ1, st1, h1, hk1⟩ := hI
      cases n with
      | zero => simp only [vloop] at hk1; cases hk1
      | succ n =>
        simp only [vloop] at hk1
        refine vcode_sound hE hC hD fuel b lt.l _ ρ1 a w _ _ hl0 h1 hk1 fun e ρ' st' a' w' hk' h' => ?_
        simp only [bifs] at hk'
        split at hk'
        · rename_i hl'
          simp only [beq_iff_eq] at hl'
          have hm := h'.mask hl'.symm (st.sg.map (·.1))
          cases e with
          | normal => exact ⟨n, Nat.lt_succ_self n, ρ', _, hm, hk'⟩
          | exit i => exact hn (.exit i) ρ' _ a' w' hk' hm
          | ret => exact hn .ret ρ' _ a' w' hk' hm
        · cases hk'
    cases lt with
    | sum ss gs F =>
      simp only at hk
      split at hk
      · rename_i v hv
        rw [Ways.run_bind, Option.bind_eq_some_iff] at hk
        obtain ⟨q, hq, hk⟩ := hk
        simp only [LtOk] at hl
        exact hl.2 B O w0 w ρ a v q.1 q.2 Q hq (h.cap hl.1 hv) fun ρ' a' w' h' => hn _ ρ' _ a' w' hk h'
      · cases hk
    | none => exact go hl hk
    | node x y => exact go hl hk
/-- A loop, by itself. -/
theorem vloop_sound (hE : Env.Ok P E) (hC : CallOk P call) {draw : Env → List Oper → Bool} (hD : DrawOk P E call draw) (fuel : Nat) {b : Code} {lt : LT} (hl0 : LtOk P b lt) {m : List Bool} {keep : List Nat} (N : Nat) (st : St) (ρ : CEnv) (a : Act) (w : World) (k : Ex → St → Option R) (Q : Exit → Act → World → Prop) (h : Sim B O w0 ρ st a w)
    (hk : vloop (vcode E call draw fuel b lt) m keep N st k = some r) (hn : ∀ e ρ' st' a' w', k e st' = some r → Sim B O w0 ρ' st' a' w' → Q e.to a' w') : (Code.loop b).wp P Q a w := by
  refine wp_loop_fuel (fun n a w => ∃ ρ st', Sim B O w0 ρ st' a w ∧ vloop (vcode E call draw fuel b lt) m keep n st' k = some r) (fun n a w hI => ?_) N a w ⟨ρ, st, h, hk⟩
  obtain ⟨ρ1, st1, h1, hk1⟩ := hI
  cases n with
  | zero => simp only [vloop] at hk1; cases hk1
  | succ n =>
    simp only [vloop] at hk1
    refine vcode_sound hE hC hD fuel b lt _ ρ1 a w _ _ hl0 h1 hk1 fun e ρ' st' a' w' hk' h' => ?_
    simp only [bifs] at hk'
    split at hk'
    · rename_i hl'
      simp only [beq_iff_eq] at hl'
      have hm := h'.mask hl'.symm keep
      cases e with
      | normal => exact ⟨n, Nat.lt_succ_self n, ρ', _, hm, hk'⟩
      | exit i => exact hn (.exit i) ρ' _ a' w' hk' hm
      | ret => exact hn .ret ρ' _ a' w' hk' hm
    · cases hk'
end
end Go.Proofs.Ytcladakiniekcaa.Lib

/- A whole call. No condition. -/
namespace Go.Proofs.Ytcladakiniekcaa.Lib
open Go Go.RowKit
set_option linter.unusedVariables false
set_option linter.unusedSimpArgs false
def resF (tmps : Array Value) : ResultVar → Sem Value
  | .tmp t => pure (tmps.getD t undef)
  | .cell p t => do loadVar t (← asAddr (tmps.getD p undef))
def pack : List Value → Value
  | [u] => u | us => .tuple us.toArray
section
variable {P : Program} {E : Env} {B : Nat} {O : Ow} {w0 w w' : World} {ρ ρ' : CEnv} {a : Act} {R : Type} {r : R} {sg sg' : Sig} {st : St} {call : CallFn}
theorem vleave_sound (h : Mem B O ρ sg w) {vs : List AV} {us : List Value} {res : AV} {out : Sig} (hr : All2 (rav ρ w) vs us) (hl : vleave sg vs = some (res, out)) :
    ∃ ρ', rav ρ' w res (pack us) ∧ Mem B O ρ' out w ∧ (∀ d, res.uses d = true → (out.get d).isSome = true) := by
  unfold vleave at hl
  split at hl
  · rename_i v
    obtain ⟨u, rfl, hr1⟩ := hr.single
    split at hl
    · rename_i g cs hp
      split at hl
      · rename_i cs1 out1 js hc
        simp only [bifs] at hl
        split at hl
        · rename_i hj
          split at hl
          · rename_i v1 hv
            simp only [Option.some.injEq, Prod.mk.injEq] at hl
            obtain ⟨rfl, rfl⟩ := hl
            obtain ⟨vs0, a1, a2⟩ := rp_cells (pairOf_sound hr1 hp)
            obtain ⟨b1, b2, b3⟩ := leaveCells_sound h a1 hc
            obtain ⟨L, c1, c2⟩ := leave_mem h b2 hj
            have hrp := a2 _ _ (b1 L c1)
            rcases ofElem_spec hv with ⟨rfl, rfl⟩ | ⟨rfl, c, rfl, rfl⟩
            · exact ⟨_, hrp, c2, b3⟩
            · obtain ⟨c', hc', hrp⟩ := hrp
              cases hc'
              exact ⟨_, hrp, c2, fun d hd => b3 d (by simpa [AV.uses] using hd)⟩
          · cases hl
        · cases hl
      · cases hl
    · cases hl
  · rename_i hne
    split at hl
    · rename_i ps out1 js ht
      simp only [bifs] at hl
      split at hl
      · rename_i hj
        simp only [Option.some.injEq, Prod.mk.injEq] at hl
        obtain ⟨rfl, rfl⟩ := hl
        obtain ⟨b1, b2, b3⟩ := leaveTup_sound h hr ht
        obtain ⟨L, c1, c2⟩ := leave_mem h b2 hj
        refine ⟨⟨L, ρ.ok⟩, ?_, c2, b3⟩
        have hus : pack us = .tuple us.toArray := by
          unfold pack
          split
          · rename_i u
            obtain ⟨v, rest, rfl⟩ : ∃ v rest, vs = v :: rest := by cases hr; exact ⟨_, _, rfl⟩
            cases hr with
            | cons _ h2 => cases h2; exact absurd rfl (hne _)
          · rfl
        rw [hus]
        exact ⟨us, rfl, b1 L c1⟩
      · cases hl
    · cases hl
theorem results_sound (hE : Env.Ok P E) (h : Sim B O w0 ρ st a w) : ∀ {rs : List ResultVar} {vs : List AV}, resAll E st rs = some vs →
    ∃ us : List Value, All2 (rav ρ w) vs us ∧ (rs.mapM (resF a.tmps)).run P w = .ok us w
  | [], vs, hr => by
    simp only [resAll, Option.some.injEq] at hr
    subst hr
    exact ⟨[], .nil, rfl⟩
  | x :: rs, vs, hr => by
    simp only [resAll] at hr
    split at hr
    · rename_i v vs1 hv hvs
      simp only [Option.some.injEq] at hr
      subst hr
      obtain ⟨us, h1, h2⟩ := results_sound hE h hvs
      have one : ∃ u : Value, rav ρ w v u ∧ (resF a.tmps x).run P w = .ok u w := by
        unfold resOf at hv
        split at hv
        · rename_i t
          simp only [Option.some.injEq] at hv
          subst hv
          exact ⟨a.eval (.tmp t), (h.eval (.tmp t)).1, rfl⟩
        · rename_i p t
          split at hv
          · rename_i j i c ti hp ht
            simp only [bifs] at hv
            split at hv
            · rename_i hz
              have hx := (h.eval (.tmp p)).1
              simp only [evalO] at hx
              rw [hp] at hx
              have hn : 0 < ti.sz := by simpa [Nat.pos_iff_ne_zero] using hz
              obtain ⟨cs, ad, us0, hk, hu, hl, hr, hc, hd⟩ := loadCells_sound (kk := fun cs => Cell.ofElem ti.agg cs) h.mem hv hx hn
              have hu : a.tmps.getD p undef = .pointer (some ad) := hu
              rcases ofElem_spec hk with ⟨hg, rfl⟩ | ⟨hg, c, rfl, rfl⟩
              · refine ⟨.agg us0.toArray, ⟨us0, rfl, hr⟩, ?_⟩
                have := load_run (hE.ti _ _ ht) hl hc (v := .agg us0.toArray) (.inl ⟨hg, rfl⟩)
                show (do loadVar t (← asAddr (a.tmps.getD p undef)) : Sem Value).run P w = _
                rw [hu]
                simp only [asAddr, Sem.run_bind, Sem.run_pure, Result.andThen_ok, this]
              · obtain ⟨u, rfl, hr1⟩ := hr.single
                refine ⟨u, hr1, ?_⟩
                have := load_run (hE.ti _ _ ht) hl hc (v := u) (.inr ⟨hg, rfl⟩)
                show (do loadVar t (← asAddr (a.tmps.getD p undef)) : Sem Value).run P w = _
                rw [hu]
                simp only [asAddr, Sem.run_bind, Sem.run_pure, Result.andThen_ok, this]
            · cases hv
          · cases hv
      obtain ⟨u, h3, h4⟩ := one
      refine ⟨u :: us, .cons h3 h1, ?_⟩
      rw [List.mapM_cons, Sem.run_bind, h4, Result.andThen_ok, Sem.run_bind, h2]
      rfl
    · cases hr
theorem results_run {fn : Func} {tmps : Array Value} {us : List Value} {w : World} (h : (fn.results.toList.mapM (resF tmps)).run P w = .ok us w) :
    (results fn tmps).run P w = .ok (pack us) w := by
  show (do let vs ← fn.results.mapM (resF tmps); pure (if h : vs.size = 1 then vs[0] else .tuple vs) : Sem Value).run P w = _
  rw [Sem.run_bind, Array.mapM_eq_mapM_toList, Sem.run_map, h]
  simp only [Result.andThen_ok, Sem.run_pure]
  congr 1
  match us with
  | [] => rfl
  | [u] => rfl
  | u :: v :: us =>
    rw [dif_neg (by simp)]
    rfl
theorem vbody_sound (hE : Env.Ok P E) (hC : CallOk P call) {draw : Env → List Oper → Bool} (hD : DrawOk P E call draw) {fuel : Nat} {f : FuncId} {fn : Func} {c : Code} {lt : LT} {args : List AV} {res : AV} {out : Sig} (hf : P.funcs[f]? = some fn) (hb : fn.body = some c) (hlt : LtOk P c lt)
    (hk : vbody E call draw fuel fn c lt args [] = some (res, out)) {ρ0 : CEnv} {vs : List Value} (hokb : ∀ b g, ρ0.ok b g → g < w.heap.size) (hokm : ∀ g, ρ0.ok false g → ρ0.ok true g) (hr : All2 (rav ρ0 w) args vs) (hu : ∀ v ∈ args, ∀ d, v.uses d = false) :
    Calls P f vs.toArray w fun e w' => ∃ v ρ', e = .returned v ∧ rav ρ' w' res v ∧ Mem w.heap.size ⟨fun _ => False, ρ0.ok, ρ0.loc⟩ ρ' out w' ∧ (∀ d, res.uses d = true → (out.get d).isSome = true) ∧ Below w.heap.size w w' := by
  unfold vbody at hk
  refine calls_of_wp hf hb ?_
  have hlen := hr.length
  have h0 : Sim w.heap.size ⟨fun _ => False, ρ0.ok, ρ0.loc⟩ w ρ0 ⟨args ++ List.replicate (fn.ntmps - args.length) (.one .und), []⟩ { tmps := vs.toArray ++ Array.replicate (fn.ntmps - vs.toArray.size) undef, defers := [] } w := by
    refine ⟨⟨(fun j b hj => by cases hj), (fun i j g hi => by cases hi), (fun j g hj => by cases hj), hokb, (fun b g hg j hj => by cases hj), hokm, fun b g hg => .inl hg, fun b g hg => hg, (fun j b d hj => by cases hj)⟩, by simp [hlen], fun i v hi => ?_, fun i v d hi hd => ?_, rfl, Keeps.refl _ _ _, Nat.le_refl _, fun _ _ => rfl⟩
    · rcases Nat.lt_or_ge i args.length with hlt | hge
      · rw [List.getElem?_append_left hlt] at hi
        obtain ⟨u, h1, h2⟩ := hr.get i hi
        exact ⟨u, by rw [Array.getElem?_append_left (by simpa [← hlen] using hlt)]; simpa using h1, h2⟩
      · rw [List.getElem?_append_right hge, List.getElem?_replicate] at hi
        split at hi
        · rename_i hlt
          cases hi
          refine ⟨undef, ?_, trivial⟩
          rw [Array.getElem?_append_right (by simpa [← hlen] using hge), Array.getElem?_replicate, if_pos (by simpa [← hlen] using hlt)]
        · cases hi
    · rcases Nat.lt_or_ge i args.length with hlt | hge
      · rw [List.getElem?_append_left hlt] at hi
        rw [hu v (List.mem_of_getElem? hi) d] at hd
        cases hd
      · rw [List.getElem?_append_right hge, List.getElem?_replicate] at hi
        split at hi
        · cases hi; cases hd
        · cases hi
  refine vcode_sound hE hC hD fuel c lt _ ρ0 _ w _ _ hlt h0 hk fun e ρ' st' a' w' hk' h' => ?_
  have fin : (match resAll E st' fn.results.toList with | some vs => vleave st'.sg vs | none => none) = some (res, out) → a'.defers = [] ∧ ∃ v, (results fn a'.tmps).run P w' = .ok v w' ∧ ∃ v_1 ρ', Ending.returned v = .returned v_1 ∧ rav ρ' w' res v_1 ∧ Mem w.heap.size ⟨fun _ => False, ρ0.ok, ρ0.loc⟩ ρ' out w' ∧ (∀ d, res.uses d = true → (out.get d).isSome = true) ∧ Below w.heap.size w w' := by
    intro hk
    split at hk
    · rename_i avs hres
      obtain ⟨us, h1, h2⟩ := results_sound hE h' hres
      obtain ⟨ρ2, h3, h4, h5⟩ := vleave_sound h'.mem h1 hk
      exact ⟨h'.defers, _, results_run h2, _, ρ2, rfl, h3, h4, h5, ⟨h'.fr.os, h'.fr.tape, h'.fr.output, h'.fr.size, fun k hk => h'.fr.block k hk (fun h => h)⟩⟩
    · cases hk
  cases e with
  | normal => exact fin hk'
  | ret => exact fin hk'
  | exit i => cases hk'
/-- The interpreter's calls are the model's. -/
theorem vcall_sound (hE : Env.Ok P E) {draw : Env → List Oper → Bool} (hD : ∀ call, CallOk P call → DrawOk P E call draw) : ∀ n, CallOk P (vcall E draw n)
  | 0 => by
    intro f args res out h
    cases h
  | n + 1 => by
    have ih := vcall_sound hE hD n
    intro f args res out h ρ0 w vs h1 h2 h3 h4
    simp only [vcall] at h
    split at h
    · rename_i fn hfn
      split at h
      · rename_i c hb
        obtain ⟨hf, hn⟩ := hE.fn f fn hfn
        exact ⟨⟨fn, hf, by rw [hb]; rfl, hn⟩, vbody_sound hE ih (hD _ ih) hf hb (hE.lt f fn c hfn hb) h h1 h2 h3 h4⟩
      · cases h
    · cases h
theorem flat_Rp {ok ok' : Nat → Prop} : ∀ {t : Ty} {x : t.T} {cs : List Value}, t.flat = true → Rp ok w t x cs → Rp ok' w t x cs
  | .int _, _, _, _, h => by simp only [Rp] at h ⊢; exact h
  | .bool, _, _, _, h => by simp only [Rp] at h ⊢; exact h
  | .str, _, _, _, h => by simp only [Rp] at h ⊢; exact h
  | .sl _ _, _, _, hf, _ => by cases hf
  | .pair a b, _, _, hf, h => by
    simp only [Ty.flat, Bool.and_eq_true] at hf
    simp only [Rp] at h ⊢
    obtain ⟨c0, c1, rfl, h0, h1⟩ := h
    exact ⟨c0, c1, rfl, flat_Rp hf.1 h0, flat_Rp hf.2 h1⟩
theorem kept_spec : ∀ {sg0 : Sig} {upd : Sig}, kept sg sg0 = some upd → ∀ i b', upd.get i = some b' → (∃ e t l q, sg0.get i = some (.arr e t l q)) ∧ ∃ e t l q, b' = .arr e t l q ∧ t.flat = true ∧ PIN ≤ i ∧ sg.get i = some (.arr e t l q)
  | [], upd, h, i, b', hi => by
    simp only [kept, Option.some.injEq] at h
    subst h
    cases hi
  | (j, b) :: r, upd, h, i, b', hi => by
    simp only [kept] at h
    split at h
    · rename_i e0 t0 l0 q0 e t l q hg
      simp only [bifs] at h
      split at h
      · rename_i hc
        simp only [Bool.and_eq_true, Nat.ble_eq] at hc
        split at h
        · rename_i out hout
          cases h
          simp only [Sig.get, bifs, beq_iff_eq] at hi ⊢
          split at hi
          · rename_i hji
            subst hji
            cases hi
            exact ⟨⟨_, _, _, _, if_pos rfl⟩, _, _, _, _, rfl, hc.1, hc.2, hg⟩
          · rename_i hji
            obtain ⟨h1, h2⟩ := kept_spec hout i b' hi
            simp only [if_neg hji]
            exact ⟨h1, h2⟩
        · cases h
      · cases h
    · cases h
theorem vmbody_sound (hE : Env.Ok P E) (hC : CallOk P call) {draw : Env → List Oper → Bool} (hD : DrawOk P E call draw) {fuel : Nat} {f : FuncId} {fn : Func} {c : Code} {lt : LT} {st0 : St} {res : AV} {upd : Sig} (hf : P.funcs[f]? = some fn) (hb : fn.body = some c) (hlt : LtOk P c lt)
    (hk : vmbody E call draw fuel fn c lt st0 = some (res, upd)) (h : Sim B O w ρ st0 a w) :
    Calls P f a.tmps w fun e w' => ∃ u, e = .returned u ∧ rav ρ w' res u ∧
      (∀ i b', upd.get i = some b' → (∃ e t l q, st0.sg.get i = some (.arr e t l q)) ∧ (∃ e t l q, b' = .arr e t l q) ∧ rblk ρ w' i b') ∧
      w'.os = w.os ∧ w'.tape = w.tape ∧ w'.output = w.output ∧ w.heap.size ≤ w'.heap.size ∧ ∀ g, g < w.heap.size → (∀ j, ¬ Owns ρ st0.sg j g) → w'.heap[g]? = w.heap[g]? := by
  unfold vmbody at hk
  refine calls_of_wp hf hb ?_
  have h0 : Sim w.heap.size ⟨fun g => ∃ j, Owns ρ st0.sg j g, ρ.ok, ρ.loc⟩ w ρ ⟨st0.sl ++ List.replicate (fn.ntmps - st0.sl.length) (.one .und), st0.sg⟩ { tmps := a.tmps ++ Array.replicate (fn.ntmps - a.tmps.size) undef, defers := [] } w := by
    refine ⟨⟨h.mem.blk, h.mem.inj, fun j g hj => .inr ⟨j, hj⟩, h.mem.okb, h.mem.oko, h.mem.okm, fun b g hg => .inl hg, fun b g hg => hg, h.mem.dom⟩, by simp [h.len], fun i v hi => ?_, fun i v d hi hd => ?_, rfl, Keeps.refl _ _ _, Nat.le_refl _, fun _ _ => rfl⟩
    · rcases Nat.lt_or_ge i st0.sl.length with hlt | hge
      · rw [List.getElem?_append_left hlt] at hi
        obtain ⟨u, h1, h2⟩ := h.sl i v hi
        exact ⟨u, by rw [Array.getElem?_append_left (by rw [h.len]; exact hlt)]; exact h1, h2⟩
      · rw [List.getElem?_append_right hge, List.getElem?_replicate] at hi
        split at hi
        · rename_i hlt
          cases hi
          refine ⟨undef, ?_, trivial⟩
          rw [Array.getElem?_append_right (by rw [h.len]; exact hge), Array.getElem?_replicate, if_pos (by rw [h.len]; exact hlt)]
        · cases hi
    · rcases Nat.lt_or_ge i st0.sl.length with hlt | hge
      · rw [List.getElem?_append_left hlt] at hi
        exact h.dom i v d hi hd
      · rw [List.getElem?_append_right hge, List.getElem?_replicate] at hi
        split at hi
        · cases hi; cases hd
        · cases hi
  refine vcode_sound hE hC hD fuel c lt _ ρ _ w _ _ hlt h0 hk fun e ρ' st' a' w' hk' h' => ?_
  have fin : (match resAll E st' fn.results.toList with
      | some vs => (match vs with
        | [v] => bif v.plain then (match kept st'.sg st0.sg with | some out => some (v, out) | none => none) else none
        | _ => none)
      | none => none) = some (res, upd) → a'.defers = [] ∧ ∃ v, (results fn a'.tmps).run P w' = .ok v w' ∧ ∃ u, Ending.returned v = .returned u ∧ rav ρ w' res u ∧
      (∀ i b', upd.get i = some b' → (∃ e t l q, st0.sg.get i = some (.arr e t l q)) ∧ (∃ e t l q, b' = .arr e t l q) ∧ rblk ρ w' i b') ∧
      w'.os = w.os ∧ w'.tape = w.tape ∧ w'.output = w.output ∧ w.heap.size ≤ w'.heap.size ∧ ∀ g, g < w.heap.size → (∀ j, ¬ Owns ρ st0.sg j g) → w'.heap[g]? = w.heap[g]? := by
    intro hk
    split at hk
    · rename_i avs hres
      obtain ⟨us, h1, h2⟩ := results_sound hE h' hres
      split at hk
      · rename_i v
        simp only [bifs] at hk
        split at hk
        · rename_i hpl
          split at hk
          · rename_i out hkept
            simp only [Option.some.injEq, Prod.mk.injEq] at hk
            obtain ⟨rfl, rfl⟩ := hk
            obtain ⟨u, rfl, hr⟩ := h1.single
            refine ⟨h'.defers, _, results_run h2, u, rfl, plain_rav hpl hr, fun i b' hi => ?_, h'.fr.os, h'.fr.tape, h'.fr.output, h'.fr.size, fun g hg hn => h'.fr.block g hg (fun ⟨j, hj⟩ => hn j hj)⟩
            obtain ⟨h3, e, t, l, q, rfl, h4, h5, h6⟩ := kept_spec hkept i b' hi
            refine ⟨h3, ⟨_, _, _, _, rfl⟩, ?_⟩
            obtain ⟨va, gg, xs, d1, d2, d3⟩ := h'.mem.blk i _ h6
            exact ⟨va, gg, xs, (h'.pin i h5).symm.trans d1, ⟨d2.1, fun j p hp => flat_Rp h4 (d2.2 j p hp)⟩, d3⟩
          · cases hk
        · cases hk
      · cases hk
    · cases hk
  cases e with
  | normal => exact fin hk'
  | ret => exact fin hk'
  | exit i => cases hk'
theorem markOk_of (hE : Env.Ok P E) {draw : Env → List Oper → Bool} (hD : ∀ call, CallOk P call → DrawOk P E call draw) {f : FuncId} {m : Mrk} (hwf : wfSt m.ss m.gs) (hfn : ∃ fn c, E.fn.lookup f = some fn ∧ fn.body = some c)
    (h : ∀ v res upd, (m.F v).run some = some (res, upd) → ∃ n, vmcall E draw n f (bldSt m.ss m.gs v) = some (res, upd)) : MarkOk P f m := by
  obtain ⟨fn, c, hl, hb⟩ := hfn
  obtain ⟨hf, hn⟩ := hE.fn f fn hl
  refine ⟨hwf, ⟨fn, hf, by rw [hb]; rfl, hn⟩, fun v res upd hv B O ρ a w hS => ?_⟩
  obtain ⟨n, hv⟩ := h v res upd hv
  have hC := vcall_sound hE hD n
  unfold vmcall at hv
  rw [show E.find f = some fn from hl] at hv
  simp only [hb] at hv
  exact vmbody_sound hE hC (hD _ hC) hf hb (hE.lt f fn c hl hb) hv hS
/-- A summary of a loop that the interpreter bears out. -/
theorem loopOk_of (hE : Env.Ok P E) {draw : Env → List Oper → Bool} (hD : ∀ call, CallOk P call → DrawOk P E call draw) {b : Code} {lt : LT} (hlt : LtOk P b lt) {ss : List SP} {gs : List (Nat × GP)} {F : StT ss gs → Ways (Ex × St)} (n fuel : Nat) (m : List Bool) (keep : List Nat)
    (h : ∀ v e st', (F v).run some = some (e, st') → ∃ N : Nat, vloop (vcode E (vcall E draw n) draw fuel b lt) m keep N (bldSt ss gs v) (fun e st => some (e, st)) = some (e, st')) : LoopOk P b ss gs F := by
  intro B O w0 w ρ a v e st' Q hF hS hn
  obtain ⟨N, hv⟩ := h v e st' hF
  have hC := vcall_sound hE hD n
  refine vloop_sound (R := Ex × St) (r := (e, st')) hE hC (hD _ hC) fuel hlt N (bldSt ss gs v) ρ a w (fun e st => some (e, st)) Q hS hv fun e1 ρ1 st1 a1 w1 hk h1 => ?_
  cases hk
  exact hn ρ1 a1 w1 h1
theorem primOk_of (hE : Env.Ok P E) {draw : Env → List Oper → Bool} (hD : ∀ call, CallOk P call → DrawOk P E call draw) {f : FuncId} {p : Prim}
    (h : ∀ v res out, (p.F v).run some = some (res, out) → ∃ n, vcall E draw n f (SPs.bld (R := Unit) p.ss v).1 [] = some (res, out)) : PrimOk P f p := by
  intro v res out hF
  obtain ⟨n, hn⟩ := h v res out hF
  exact vcall_sound hE hD n f _ res out hn
end
end Go.Proofs.Ytcladakiniekcaa.Lib

/- Operations whose order is open: they lean on no more than their operands. No condition. -/
namespace Go.Proofs.Ytcladakiniekcaa.Lib
open Go Go.RowKit
set_option linter.unusedVariables false
set_option linter.unusedSimpArgs false
def hcall (E : Env) (call : CallFn) (sg : Sig) (dst : Option Nat) (f : AV) (args : List AV) : Option (AV × Sig) :=
  match f with
  | .one (.fn g caps) => (match lendAll E sg args with
    | some (args, own) => (callP E call g (args ++ caps.map fun c => .one (.eptr c.1 c.2 0 true))).bind fun r =>
      bif !own || (r.1.nobor && r.2.all (·.2.nobor)) then (match dst with
        | some d => bif r.2.all (fun q => sg.free (q.1 + d)) then some (r.1.shift d, r.2.shift d) else none
        | none => some (.one .und, [])) else none
    | none => none)
  | _ => none
def hbuild (E : Env) (sg : Sig) (dst : Option Nat) (t : TypeId) (n : Nat) (ps : List (Nat × AV)) : Option (AV × Sig) :=
  match dst, E.ti.lookup t with
  | some d, some { td := .slice e, .. } => (match E.ti.lookup e with
    | some { ty := some τ, .. } => bif τ.flat && sg.free d && (n == ps.length) && Nat.ble (n * τ.sz) 16777216 then
        (match readElems false τ ps 0 with
        | some l => some (.one (.sl d), [(d, .arr e τ l false)])
        | none => none) else none
    | _ => none)
  | _, _ => none
/-- The operation's value and what it makes. -/
def hop (E : Env) (call : CallFn) (sg : Sig) (ρ : Operand → AV) (o : Oper) : Option (AV × Sig) :=
  match o.op with
  | .store _ _ _ => none
  | .call c => (match c.callee, c.args.toList, c.argTypes.toList with
    | .builtin .append, [_, _], [_, _] => none
    | .value f, args, _ => hcall E call sg o.dst (ρ f) (args.map ρ)
    | _, _, _ => qop E sg ρ o.dst o.op fun v add => some (v, add))
  | .buildSlice t n ps => hbuild E sg o.dst t n (ps.toList.map fun p => (p.1, ρ p.2))
  | _ => qop E sg ρ o.dst o.op fun v add => some (v, add)
/-- The slot that a guard tests. -/
def tst (all : List Oper) (o : Oper) : List Operand :=
  match o.guard with
  | none => []
  | some (j, _) => (match (all[j]?).bind (·.dst) with | some t => [.tmp t] | none => [])
/-- What an operation leans on. -/
def opn (all : List Oper) (o : Oper) : List Operand := tst all o ++ o.op.operands.toList
/-- With its guard. -/
def gop (E : Env) (call : CallFn) (all : List Oper) (sg : Sig) (ρ : Operand → AV) (o : Oper) : Option (AV × Sig) :=
  match o.guard with
  | none => hop E call sg ρ o
  | some (j, want) => (match (all[j]?).bind (·.dst) with
    | some t => (match ρ (.tmp t) with
      | .one (.bool v) => bif v == want then hop E call sg ρ o else some (.tup [], [])
      | .tup [] => some (.tup [], [])
      | _ => none)
    | none => none)
/-- May the operation's place be open? -/
def headOk (E : Env) (o : Oper) : Bool :=
  true && (match o.op with
  | .store _ _ _ => false
  | .call c => (match c.callee, c.args.toList, c.argTypes.toList with
    | .builtin .append, [_, _], [_, _] => false
    | .value f, _, _ => o.dst.isSome && (markOf E f).isNone
    | _, _, _ => true)
  | .buildSlice t _ _ => (match E.ti.lookup t with
    | some { td := .slice e, .. } => (match E.ti.lookup e with
      | some { ty := some τ, .. } => τ.flat
      | _ => false)
    | _ => false)
  | _ => true)
section par
variable {R : Type} {r : R}
theorem intBin_par {op : BinOp} {k : IntKind} {x y : Int} {kk : Cell → Option R} (h : intBin op k x y kk = some r) : ∃ c, (∀ {S : Type} (f : Cell → Option S), intBin op k x y f = f c) ∧ kk c = some r := by
  cases op <;> simp only [intBin] at h ⊢
  case quo => split at h
              · cases h
              · rename_i h0; exact ⟨_, fun f => by rw [if_neg h0], h⟩
  case rem => split at h
              · cases h
              · rename_i h0; exact ⟨_, fun f => by rw [if_neg h0], h⟩
  case shl => split at h
              · cases h
              · rename_i h0; exact ⟨_, fun f => by rw [if_neg h0], h⟩
  case shr => split at h
              · cases h
              · rename_i h0; exact ⟨_, fun f => by rw [if_neg h0], h⟩
  all_goals first | cases h | exact ⟨_, fun f => rfl, h⟩
theorem strBin_par {op : BinOp} {x y : ByteArray} {kk : Cell → Option R} (h : strBin op x y kk = some r) : ∃ c, (∀ {S : Type} (f : Cell → Option S), strBin op x y f = f c) ∧ kk c = some r := by
  cases op <;> simp only [strBin] at h ⊢
  case add => split at h
              · rename_i h0; exact ⟨_, fun f => by rw [if_pos h0], h⟩
              · cases h
  all_goals first | cases h | exact ⟨_, fun f => rfl, h⟩
theorem binCells_par {op : BinOp} {x y : Cell} {kk : Cell → Option R} (h : binCells op x y kk = some r) : ∃ c, (∀ {S : Type} (f : Cell → Option S), binCells op x y f = f c) ∧ kk c = some r := by
  unfold binCells at h
  split at h
  · split at h
    · obtain ⟨c, h1, h2⟩ := intBin_par h; exact ⟨c, fun f => h1 f, h2⟩
    · obtain ⟨c, h1, h2⟩ := intBin_par h; exact ⟨c, fun f => h1 f, h2⟩
    · rename_i n1 n2
      split at h
      · rename_i hk
        obtain ⟨c, h1, h2⟩ := intBin_par h
        refine ⟨c, fun f => ?_, h2⟩
        rw [← h1 f]
        unfold binCells
        cases op <;> first | (exact absurd rfl n1; done) | (exact absurd rfl n2; done) | (simp only [if_pos hk]; done) | rfl
      · cases h
  · obtain ⟨c, h1, h2⟩ := strBin_par h; exact ⟨c, fun f => h1 f, h2⟩
  · cases h
theorem unCell_par {op : UnOp} {x : Cell} {kk : Cell → Option R} (h : unCell op x kk = some r) : ∃ c, (∀ {S : Type} (f : Cell → Option S), unCell op x f = f c) ∧ kk c = some r := by
  unfold unCell at h
  split at h
  · exact ⟨_, fun f => rfl, h⟩
  · exact ⟨_, fun f => rfl, h⟩
  · cases h
/-- sg' says of what the cell leans on what sg says. -/
def Agree (sg sg' : Sig) (U : Nat → Bool) : Prop := ∀ j b, U j = true → sg.get j = some b → sg'.get j = some b
theorem lenCell_par {sg : Sig} {x : Cell} {kk : Int → Option R} (h : lenCell sg x kk = some r) : ∃ n, (∀ {S : Type} (f : Int → Option S) (sg' : Sig), Agree sg sg' (fun j => x.uses j) → lenCell sg' x f = f n) ∧ kk n = some r := by
  unfold lenCell at h
  split at h
  · exact ⟨_, fun f _ _ => rfl, h⟩
  · exact ⟨_, fun f _ _ => rfl, h⟩
  · exact ⟨_, fun f _ _ => rfl, h⟩
  · exact ⟨_, fun f _ _ => rfl, h⟩
  · rename_i j
    split at h
    · rename_i e t l b hj
      exact ⟨_, fun f sg' ha => by simp only [lenCell, ha j _ (by simp [Cell.uses]) hj], h⟩
    · rename_i e t l b hj
      exact ⟨_, fun f sg' ha => by simp only [lenCell, ha j _ (by simp [Cell.uses]) hj], h⟩
    · cases h
  · cases h
theorem atCell_par {sg : Sig} {n : Nat} {x : Cell} {i : Int} {kk : Cell → Option R} (h : atCell sg n x i kk = some r) : ∃ c, (∀ {S : Type} (f : Cell → Option S) (sg' : Sig), Agree sg sg' (fun j => x.uses j) → atCell sg' n x i f = f c) ∧ kk c = some r := by
  unfold atCell at h
  split at h
  · simp only [bifs] at h
    split at h
    · rename_i h0
      split at h
      · rename_i h1
        split at h
        · rename_i y hy
          exact ⟨_, fun f _ _ => by simp only [atCell, h0, cond_true, if_pos h1, hy], h⟩
        · cases h
      · cases h
    · cases h
  · rename_i j
    split at h
    · rename_i e t l b hj
      simp only [bifs] at h
      split at h
      · rename_i h0
        split at h
        · rename_i h1
          split at h
          · rename_i h2
            exact ⟨_, fun f sg' ha => by simp only [atCell, ha j _ (by simp [Cell.uses]) hj, h0, cond_true, if_pos h1, if_pos h2], h⟩
          · cases h
        · cases h
      · cases h
    · rename_i e t l b hj
      simp only [bifs] at h
      split at h
      · rename_i h0
        split at h
        · rename_i h1
          split at h
          · rename_i y hy
            exact ⟨_, fun f sg' ha => by simp only [atCell, ha j _ (by simp [Cell.uses]) hj, h0, cond_true, if_pos h1, hy], h⟩
          · cases h
        · cases h
      · cases h
    · cases h
  · cases h
theorem loadCells_par {sg : Sig} {n : Nat} {p : Cell} {kk : List Cell → Option R} (h : loadCells sg n p kk = some r) : ∃ cs, (∀ {S : Type} (f : List Cell → Option S) (sg' : Sig), Agree sg sg' (fun j => p.uses j) → loadCells sg' n p f = f cs) ∧ kk cs = some r := by
  unfold loadCells at h
  split at h
  · split at h
    · rename_i cs hw
      exact ⟨_, fun f _ _ => by simp only [loadCells, hw], h⟩
    · cases h
  · rename_i j i c
    split at h
    · rename_i ty cs hj
      split at h
      · split at h
        · rename_i cs hw
          exact ⟨_, fun f sg' ha => by simp only [loadCells, ha j _ (by simp [Cell.uses]) hj, hw], h⟩
        · cases h
      · cases h
    · rename_i e t l b hj
      split at h
      · rename_i x hx
        split at h
        · rename_i cs hw
          exact ⟨_, fun f sg' ha => by simp only [loadCells, ha j _ (by simp [Cell.uses]) hj, hx, hw], h⟩
        · cases h
      · cases h
    · cases h
  · cases h
end par
end Go.Proofs.Ytcladakiniekcaa.Lib

/- Operations whose order is open, continued. No condition. -/
namespace Go.Proofs.Ytcladakiniekcaa.Lib
open Go Go.RowKit
set_option linter.unusedVariables false
set_option linter.unusedSimpArgs false
section par
variable {R : Type} {r : R}
/-- The operation does p whatever goes on behind it, in every state that agrees on what it leans on. -/
def QPar (E : Env) (sg : Sig) (ρ : Operand → AV) (dst : Option Nat) (op : Op) (p : AV × Sig) : Prop :=
  (∀ {S : Type} (f : AV → Sig → Option S) (sg' : Sig) (ρ' : Operand → AV), (∀ x ∈ op.operands.toList, ρ' x = ρ x) → (∀ x ∈ op.operands.toList, Agree sg sg' (fun j => (ρ x).uses j)) → (∀ q ∈ p.2, sg'.get q.1 = none) → qop E sg' ρ' dst op f = f p.1 p.2) ∧ ∀ q ∈ p.2, sg.get q.1 = none
theorem capIds_agree {sg sg' : Sig} {ρ ρ' : Operand → AV} : ∀ {xs : List Operand} {js : List Nat}, capIds sg ρ xs = some js → (∀ x ∈ xs, ρ' x = ρ x) → (∀ x ∈ xs, Agree sg sg' (fun j => (ρ x).uses j)) → capIds sg' ρ' xs = some js
  | [], js, h, _, _ => h
  | x :: xs, js, h, h1, ha => by
    simp only [capIds] at h ⊢
    rw [h1 x List.mem_cons_self]
    have ha0 := ha x List.mem_cons_self
    split at h
    · rename_i j hx
      rw [hx] at ha0
      split at h
      · rename_i ty cs hj
        split at h
        · rename_i l hl
          simp only [ha0 j _ (by simp [AV.uses, Cell.uses]) hj, capIds_agree hl (fun x hx => h1 x (List.mem_cons_of_mem _ hx)) (fun x hx => ha x (List.mem_cons_of_mem _ hx))]
          exact h
        · cases h
      · cases h
    · cases h
theorem qop_par {E : Env} {sg : Sig} {ρ : Operand → AV} {dst : Option Nat} {op : Op} {k : AV → Sig → Option R} (h : qop E sg ρ dst op k = some r) : ∃ p, QPar E sg ρ dst op p ∧ k p.1 p.2 = some r := by
  cases op <;> simp only [qop] at h <;> try (cases h; done)
  case move x => exact ⟨(ρ x, []), ⟨fun f sg' ρ' h1 _ _ => by simp only [qop]; rw [h1 x (by simp [Op.operands])], fun q hq => by cases hq⟩, h⟩
  case assign x => exact ⟨(ρ x, []), ⟨fun f sg' ρ' h1 _ _ => by simp only [qop]; rw [h1 x (by simp [Op.operands])], fun q hq => by cases hq⟩, h⟩
  case pick c x y =>
    split at h
    · rename_i p q hp hq
      split at h
      · rename_i v hv
        exact ⟨(.one (.bool (bif v then p else q)), []), ⟨fun f sg' ρ' h1 _ _ => by
          simp only [qop]
          rw [h1 x (by simp [Op.operands]), h1 y (by simp [Op.operands]), h1 c (by simp [Op.operands]), hp, hq]
          simp only [hv], fun q hq => by cases hq⟩, h⟩
      · cases h
    · rename_i n1
      split at h
      · rename_i hv
        exact ⟨(ρ x, []), ⟨fun f sg' ρ' h1 _ _ => by
          simp only [qop]
          rw [h1 x (by simp [Op.operands]), h1 y (by simp [Op.operands]), h1 c (by simp [Op.operands])]
          simp only [hv], fun q hq => by cases hq⟩, h⟩
      · rename_i hv
        exact ⟨(ρ y, []), ⟨fun f sg' ρ' h1 _ _ => by
          simp only [qop]
          rw [h1 x (by simp [Op.operands]), h1 y (by simp [Op.operands]), h1 c (by simp [Op.operands])]
          simp only [hv], fun q hq => by cases hq⟩, h⟩
      · cases h
  case alloc t =>
    split at h
    · rename_i d td sz by_ τ ht
      simp only [bifs] at h
      split at h
      · rename_i hn
        exact ⟨(_, _), ⟨fun f sg' ρ' h1 _ hf => by
          have := Sig.free_iff.2 ⟨hf _ List.mem_cons_self, (Sig.free_iff.1 hn).2⟩
          simp only [qop, ht, this, cond_true], fun q hq => by rw [List.mem_singleton.1 hq]; exact (Sig.free_iff.1 hn).1⟩, h⟩
      · cases h
    · cases h
  case box t x =>
    split at h
    · rename_i d i cs ht hc
      simp only [bifs] at h
      split at h
      · rename_i hn
        simp only [Bool.and_eq_true, Sig.free_iff] at hn
        exact ⟨(_, _), ⟨fun f sg' ρ' h1 _ hf => by
          have := Sig.free_iff.2 ⟨hf _ List.mem_cons_self, hn.1.2⟩
          simp only [qop, ht, h1 x (by simp [Op.operands]), hc, this, hn.2, Bool.and_self, cond_true], fun q hq => by rw [List.mem_singleton.1 hq]; exact hn.1.1⟩, h⟩
      · cases h
    · cases h
  case load t x =>
    split at h
    · rename_i p i hp ht
      simp only [bifs] at h
      split at h
      · rename_i hz
        obtain ⟨cs, h2, h3⟩ := loadCells_par h
        split at h3
        · rename_i v hv
          exact ⟨(v, []), ⟨fun f sg' ρ' h1 ha _ => by
            have ha := ha x (by simp [Op.operands])
            rw [hp] at ha
            simp only [qop, h1 x (by simp [Op.operands]), hp, ht, hz, cond_true]
            rw [h2 _ sg' ha]
            simp only [hv], fun q hq => by cases hq⟩, h3⟩
        · cases h3
      · cases h
    · cases h
  case nilCheck x =>
    split at h <;> first
      | (rename_i hp; exact ⟨(_, []), ⟨fun f sg' ρ' h1 _ _ => by simp only [qop, h1 x (by simp [Op.operands]), hp], fun q hq => by cases hq⟩, h⟩)
      | cases h
  case binOp op t x y t' =>
    split at h
    · rename_i p q hp hq
      simp only [bifs] at h
      split at h
      · rename_i hb
        split at h
        · exact ⟨(_, []), ⟨fun f sg' ρ' h1 _ _ => by simp only [qop, h1 x (by simp [Op.operands]), h1 y (by simp [Op.operands]), hp, hq, hb, cond_true], fun q hq => by cases hq⟩, h⟩
        · exact ⟨(_, []), ⟨fun f sg' ρ' h1 _ _ => by simp only [qop, h1 x (by simp [Op.operands]), h1 y (by simp [Op.operands]), hp, hq, hb, cond_true], fun q hq => by cases hq⟩, h⟩
        · cases h
      · cases h
    · rename_i c d n1 hc hd
      obtain ⟨e, h2, h3⟩ := binCells_par h
      refine ⟨(.one e, []), ⟨fun f sg' ρ' h1 _ _ => ?_, fun q hq => by cases hq⟩, h3⟩
      simp only [qop, h1 x (by simp [Op.operands]), h1 y (by simp [Op.operands]), hc, hd]
      exact h2 _
    · rename_i cs ds hc hd
      simp only [bifs] at h
      split at h
      · rename_i hq
        split at h
        · rename_i fs sz by_ ty ht
          split at h
          · rename_i b hb
            split at h
            · exact ⟨(_, []), ⟨fun f sg' ρ' h1 _ _ => by simp only [qop, h1 x (by simp [Op.operands]), h1 y (by simp [Op.operands]), hc, hd, hq, cond_true, ht, hb], fun q hq => by cases hq⟩, h⟩
            · exact ⟨(_, []), ⟨fun f sg' ρ' h1 _ _ => by simp only [qop, h1 x (by simp [Op.operands]), h1 y (by simp [Op.operands]), hc, hd, hq, cond_true, ht, hb], fun q hq => by cases hq⟩, h⟩
            · cases h
          · cases h
        · cases h
      · cases h
    · cases h
  case unOp op t x =>
    split at h
    · rename_i c hc
      obtain ⟨e, h2, h3⟩ := unCell_par h
      refine ⟨(.one e, []), ⟨fun f sg' ρ' h1 _ _ => ?_, fun q hq => by cases hq⟩, h3⟩
      simp only [qop, h1 x (by simp [Op.operands]), hc]
      exact h2 _
    · cases h
  case makeSlice t x y =>
    split at h
    · rename_i d e sz by_ ty n m ht hx hy
      split at h
      · rename_i td sz' by' τ he
        simp only [bifs] at h
        split at h
        · rename_i hn
          split at h
          · rename_i h0
            split at h
            · rename_i h1'
              split at h
              · rename_i h2'
                simp only [Bool.and_eq_true, Sig.free_iff] at hn
                exact ⟨(_, _), ⟨fun f sg' ρ' h1 _ hf => by
                  have := Sig.free_iff.2 ⟨hf _ List.mem_cons_self, hn.1.2⟩
                  simp only [qop, ht, h1 x (by simp [Op.operands]), h1 y (by simp [Op.operands]), hx, hy, he, this, hn.2, Bool.and_self, cond_true, if_pos h0, if_pos h1', if_pos h2'], fun q hq => by rw [List.mem_singleton.1 hq]; exact hn.1.1⟩, h⟩
              · cases h
            · cases h
          · cases h
        · cases h
      · cases h
    · cases h
  case fieldAddr t x f =>
    split at h
    · rename_i p fs sz by_ ty hp ht
      split at h
      · rename_i ft off hf
        split at h
        · exact ⟨(_, []), ⟨fun g sg' ρ' h1 _ _ => by simp only [qop, h1 x (by simp [Op.operands]), hp, ht, hf], fun q hq => by cases hq⟩, h⟩
        · exact ⟨(_, []), ⟨fun g sg' ρ' h1 _ _ => by simp only [qop, h1 x (by simp [Op.operands]), hp, ht, hf], fun q hq => by cases hq⟩, h⟩
        · cases h
      · cases h
    · cases h
  case field t x f =>
    split at h
    · rename_i cs fs sz by_ ty hp ht
      split at h
      · rename_i ft off hf
        split at h
        · rename_i ti hft
          split at h
          · rename_i cs' hw
            split at h
            · rename_i v hv
              exact ⟨(v, []), ⟨fun g sg' ρ' h1 _ _ => by simp only [qop, h1 x (by simp [Op.operands]), hp, ht, hf, hft, hw, hv], fun q hq => by cases hq⟩, h⟩
            · cases h
          · cases h
        · cases h
      · cases h
    · cases h
  case indexAddr t x i =>
    split at h
    · rename_i c ik n e sz by_ ty hp hi ht
      split at h
      · rename_i ie he
        obtain ⟨p, h2, h3⟩ := atCell_par h
        refine ⟨(.one p, []), ⟨fun f sg' ρ' h1 ha _ => ?_, fun q hq => by cases hq⟩, h3⟩
        have ha := ha x (by simp [Op.operands])
        rw [hp] at ha
        simp only [qop, h1 x (by simp [Op.operands]), h1 i (by simp [Op.operands]), hp, hi, ht, he]
        exact h2 _ sg' ha
      · cases h
    · cases h
  case index t x i =>
    split at h
    · rename_i s ik n hp hi
      simp only [bifs] at h
      split at h
      · rename_i hs
        split at h
        · rename_i h0
          split at h
          · rename_i b hb
            exact ⟨(_, []), ⟨fun f sg' ρ' h1 _ _ => by simp only [qop, h1 x (by simp [Op.operands]), h1 i (by simp [Op.operands]), hp, hi, hs, cond_true, if_pos h0, hb], fun q hq => by cases hq⟩, h⟩
          · cases h
        · cases h
      · cases h
    · cases h
  case build t ps =>
    split at h
    · rename_i fs sz by_ τ ht
      split at h
      · rename_i cs hf
        refine ⟨(.agg cs, []), ⟨fun f' sg' ρ' h1 _ _ => ?_, fun q hq => by cases hq⟩, h⟩
        have : (ps.toList.map fun p => (p.1, ρ' p.2)) = ps.toList.map fun p => (p.1, ρ p.2) := by
          apply List.map_congr_left
          intro p hp
          rw [h1 p.2 (by simp only [Op.operands, Array.toList_map]; exact List.mem_map.2 ⟨p, hp, rfl⟩)]
        simp only [qop, ht, this, hf]
      · cases h
    · cases h
  case makeFunc fn first captured =>
    split at h
    · rename_i f hf
      split at h
      · rename_i js hjs
        refine ⟨(.one (fnCell f js), []), ⟨fun f' sg' ρ' h1 ha _ => ?_, fun q hq => by cases hq⟩, h⟩
        have : capIds sg' ρ' captured.toList = some js := capIds_agree hjs (fun x hx => h1 x (by simp [Op.operands]; exact .inr (by simpa using hx))) (fun x hx => ha x (by simp [Op.operands]; exact .inr (by simpa using hx)))
        simp only [qop, hf, this]
      · cases h
    · cases h
  case extract x i =>
    split at h
    · rename_i ps hp
      split at h
      · rename_i g cs hi
        split at h
        · rename_i v hv
          exact ⟨(v, []), ⟨fun f sg' ρ' h1 _ _ => by simp only [qop, h1 x (by simp [Op.operands]), hp, hi, hv], fun q hq => by cases hq⟩, h⟩
        · cases h
      · cases h
    · cases h
  case call c =>
    have hops : ∀ x ∈ c.args.toList, x ∈ (Op.call c).operands.toList := by
      intro x hx
      simp only [Op.operands, Call.operands, Array.toList_append, List.mem_append]
      exact .inr hx
    split at h
    · rename_i x t ts hc ha hat
      have hx := hops x (by rw [ha]; simp)
      split at h
      · rename_i s sz by_ hp ht
        exact ⟨(_, []), ⟨fun f sg' ρ' h1 _ _ => by simp only [qop, hc, ha, hat, h1 x hx, hp, ht], fun q hq => by cases hq⟩, h⟩
      · rename_i cl e sz by_ ty hp ht
        obtain ⟨n, h2, h3⟩ := lenCell_par h
        refine ⟨(.one (.int .i64 n), []), ⟨fun f sg' ρ' h1 hag _ => ?_, fun q hq => by cases hq⟩, h3⟩
        have hag := hag x hx
        rw [hp] at hag
        simp only [qop, hc, ha, hat, h1 x hx, hp, ht]
        exact h2 _ sg' hag
      · cases h
    · rename_i ts x y hc ha
      have hx := hops x (by rw [ha]; simp)
      have hy := hops y (by rw [ha]; simp)
      split at h
      · rename_i q p q' p' hp hp'
        split at h
        · rename_i hq
          exact ⟨(_, []), ⟨fun f sg' ρ' h1 _ _ => by simp only [qop, hc, ha, h1 x hx, h1 y hy, hp, hp', if_pos hq], fun q hq => by cases hq⟩, h⟩
        · cases h
      · cases h
    · rename_i ts x y hc ha
      have hx := hops x (by rw [ha]; simp)
      have hy := hops y (by rw [ha]; simp)
      split at h
      · rename_i q p q' p' hp hp'
        split at h
        · rename_i hq
          exact ⟨(_, []), ⟨fun f sg' ρ' h1 _ _ => by simp only [qop, hc, ha, h1 x hx, h1 y hy, hp, hp', if_pos hq], fun q hq => by cases hq⟩, h⟩
        · cases h
      · cases h
    · cases h
end par
end Go.Proofs.Ytcladakiniekcaa.Lib

/- Operations whose order is open: in line and out of line they are the same. No condition. -/
namespace Go.Proofs.Ytcladakiniekcaa.Lib
open Go Go.RowKit
set_option linter.unusedVariables false
set_option linter.unusedSimpArgs false
section
variable {E : Env} {call : CallFn} {R : Type} {r : R} {sg sg' : Sig}
/-! ### flat data -/
theorem parse_flat : ∀ {t : Ty} {b : Bool} (b' : Bool) {cs : List Cell} {p : t.T × List Cell}, t.flat = true → t.parse b cs = some p → t.parse b' cs = some p ∧ ∃ pre, cs = pre ++ p.2 ∧ pre.all Cell.plain = true
  | .int k, b, b', cs, p, hf, h => by
    cases cs with
    | nil => simp [Ty.parse] at h
    | cons c r =>
      cases c <;> simp only [Ty.parse] at h <;> try (cases h; done)
      rename_i k' n
      split at h
      · rename_i hk; subst hk; cases h; exact ⟨by simp [Ty.parse], [.int k' n], rfl, rfl⟩
      · cases h
  | .bool, b, b', cs, p, hf, h => by
    cases cs with
    | nil => simp [Ty.parse] at h
    | cons c r =>
      cases c <;> simp only [Ty.parse] at h <;> try (cases h; done)
      rename_i x
      cases h; exact ⟨by simp [Ty.parse], [.bool x], rfl, rfl⟩
  | .str, b, b', cs, p, hf, h => by
    cases cs with
    | nil => simp [Ty.parse] at h
    | cons c r =>
      cases c <;> simp only [Ty.parse] at h <;> try (cases h; done)
      rename_i x
      cases h; exact ⟨by simp [Ty.parse], [.str x], rfl, rfl⟩
  | .sl e t, b, b', cs, p, hf, h => by cases hf
  | .pair x y, b, b', cs, p, hf, h => by
    simp only [Ty.flat, Bool.and_eq_true] at hf
    simp only [Ty.parse, Option.bind_eq_some_iff] at h ⊢
    obtain ⟨p1, h1, p2, h2, h3⟩ := h
    obtain ⟨g1, pre1, e1, a1⟩ := parse_flat b' hf.1 h1
    obtain ⟨g2, pre2, e2, a2⟩ := parse_flat b' hf.2 h2
    cases h3
    refine ⟨⟨p1, g1, p2, g2, rfl⟩, pre1 ++ pre2, by rw [e1, e2, List.append_assoc], by rw [List.all_append, a1, a2]; rfl⟩
theorem read_flat {t : Ty} {b : Bool} (b' : Bool) {cs : List Cell} {x : t.T} (hf : t.flat = true) (h : t.read b cs = some x) : t.read b' cs = some x ∧ cs.all Cell.plain = true := by
  unfold Ty.read at h ⊢
  split at h
  · rename_i y hy
    cases h
    obtain ⟨h1, pre, h2, h3⟩ := parse_flat b' hf hy
    rw [h1]
    refine ⟨rfl, ?_⟩
    rw [h2, List.append_nil]
    exact h3
  · cases h
theorem settle_plain (sg : Sig) : ∀ {cs : List Cell}, cs.all Cell.plain = true → settle sg cs = some (sg, cs)
  | [], _ => rfl
  | c :: cs, h => by
    simp only [List.all_cons, Bool.and_eq_true] at h
    have ih := settle_plain sg h.2
    cases c <;> first | (simp only [settle, ih]; done) | (cases h.1)
theorem settle_plain_rev : ∀ {cs cs' : List Cell} {sg sg' : Sig}, settle sg cs = some (sg', cs') → cs'.all Cell.plain = true → sg' = sg ∧ cs' = cs
  | [], cs', sg, sg', h, _ => by simp only [settle] at h; cases h; exact ⟨rfl, rfl⟩
  | c :: cs, cs', sg, sg', h, hp => by
    have key : ∀ d sg1, (match settle sg1 cs with | some (sg, cs) => some (sg, d :: cs) | none => none) = some (sg', cs') → d.plain = true ∧ (∃ cs1, cs' = d :: cs1 ∧ settle sg1 cs = some (sg', cs1) ∧ cs1.all Cell.plain = true) := by
      intro d sg1 h
      split at h
      · rename_i sg2 cs2 h2
        cases h
        simp only [List.all_cons, Bool.and_eq_true] at hp
        exact ⟨hp.1, cs2, rfl, h2, hp.2⟩
      · cases h
    cases c <;> simp only [settle] at h
    case sl j =>
      split at h
      · obtain ⟨h1, _⟩ := key _ _ h; cases h1
      · obtain ⟨h1, _⟩ := key _ _ h; cases h1
      · cases h
    case sub j o n =>
      split at h
      · obtain ⟨h1, _⟩ := key _ _ h; cases h1
      · obtain ⟨h1, _⟩ := key _ _ h; cases h1
      · cases h
    all_goals
      obtain ⟨h1, cs1, rfl, h2, h3⟩ := key _ _ h
      obtain ⟨rfl, rfl⟩ := settle_plain_rev h2 h3
      exact ⟨rfl, rfl⟩
theorem settleAV_rev {v v' : AV} {cs : List Cell} (h : settleAV sg v = some (sg', v')) (hc : v'.cells? = some cs) (hp : cs.all Cell.plain = true) : sg' = sg ∧ v' = v := by
  unfold settleAV at h
  split at h
  · split at h
    · rename_i sg2 c hs
      cases h
      simp only [AV.cells?, bifs] at hc
      split at hc
      · cases hc
        obtain ⟨h1, h2⟩ := settle_plain_rev hs hp
        cases h2
        exact ⟨h1, rfl⟩
      · cases hc
    · cases h
  · split at h
    · rename_i sg2 cs2 hs
      cases h
      simp only [AV.cells?, bifs] at hc
      split at hc
      · cases hc
        obtain ⟨h1, h2⟩ := settle_plain_rev hs hp
        subst h2
        exact ⟨h1, rfl⟩
      · cases hc
    · cases h
  · cases h; cases hc
theorem settleAV_plain {v : AV} {cs : List Cell} (hc : v.cells? = some cs) (hp : cs.all Cell.plain = true) : settleAV sg v = some (sg, v) := by
  cases v with
  | one c =>
    simp only [AV.cells?, bifs] at hc
    split at hc
    · cases hc
      simp only [settleAV, settle_plain sg hp]
    · cases hc
  | agg cs' =>
    simp only [AV.cells?, bifs] at hc
    split at hc
    · cases hc
      simp only [settleAV, settle_plain sg hp]
    · cases hc
  | tup vs => cases hc
theorem settleParts_rev {τ : Ty} (hf : τ.flat = true) : ∀ {ps ps' : List (Nat × AV)} {sg sg' : Sig} {b : Bool} {n : Nat} {l : List τ.T}, settleParts sg ps = some (sg', ps') → readElems b τ ps' n = some l → sg' = sg ∧ ps' = ps ∧ readElems false τ ps n = some l
  | [], ps', sg, sg', b, n, l, h, hr => by
    simp only [settleParts] at h
    cases h
    simp only [readElems] at hr
    exact ⟨rfl, rfl, by simp only [readElems]; exact hr⟩
  | (i, v) :: r, ps', sg, sg', b, n, l, h, hr => by
    simp only [settleParts] at h
    split at h
    · rename_i sg1 v1 hv
      split at h
      · rename_i sg2 ps2 hps
        cases h
        simp only [readElems, bifs] at hr
        split at hr
        · rename_i hi
          split at hr
          · rename_i cs hc
            split at hr
            · rename_i x hx
              split at hr
              · rename_i xs hxs
                cases hr
                obtain ⟨hx', hpl⟩ := read_flat false hf hx
                obtain ⟨rfl, rfl⟩ := settleAV_rev hv hc hpl
                obtain ⟨rfl, rfl, h3⟩ := settleParts_rev hf hps hxs
                refine ⟨rfl, rfl, ?_⟩
                simp only [readElems, hi, cond_true, hc, hx', h3]
              · cases hr
            · cases hr
          · cases hr
        · cases hr
      · cases h
    · cases h
theorem settleParts_plain {τ : Ty} (hf : τ.flat = true) : ∀ {ps : List (Nat × AV)} {n : Nat} {l : List τ.T}, readElems false τ ps n = some l → settleParts sg ps = some (sg, ps)
  | [], n, l, _ => rfl
  | (i, v) :: r, n, l, hr => by
    simp only [readElems, bifs] at hr
    split at hr
    · split at hr
      · rename_i cs hc
        split at hr
        · rename_i x hx
          split at hr
          · rename_i xs hxs
            obtain ⟨_, hpl⟩ := read_flat false hf hx
            simp only [settleParts, settleAV_plain hc hpl, settleParts_plain hf hxs]
          · cases hr
        · cases hr
      · cases hr
    · cases hr
/-! ### what is lent -/
theorem lendBoxes_agree : ∀ {js : List Nat} {l : List ((t : Ty) × t.T)}, lendBoxes E sg js = some l → (Agree sg sg' fun j => js.contains j) → lendBoxes E sg' js = some l
  | [], l, h, _ => h
  | j :: js, l, h, ha => by
    simp only [lendBoxes] at h ⊢
    split at h
    · rename_i ty cs hj
      rw [ha j _ (by simp) hj]
      simp only
      split at h
      · split at h
        · split at h
          · rename_i l' hl
            rw [lendBoxes_agree hl (fun i b hi => ha i b (by simp only [List.contains_cons, hi, Bool.or_true]))]
            exact h
          · cases h
        · cases h
      · cases h
    · cases h
theorem lendCell_agree {c : Cell} {p : Cell × Bool} (h : lendCell E sg c = some p) (ha : Agree sg sg' fun j => c.uses j) : lendCell E sg' c = some p := by
  cases c <;> simp only [lendCell] at h ⊢ <;> try exact h
  case sl j =>
    split at h
    · rename_i hj; rw [ha j _ (by simp [Cell.uses]) hj]; exact h
    · rename_i hj; rw [ha j _ (by simp [Cell.uses]) hj]; exact h
    · cases h
  case sub j o n =>
    split at h
    · rename_i hj; rw [ha j _ (by simp [Cell.uses]) hj]; exact h
    · rename_i hj; rw [ha j _ (by simp [Cell.uses]) hj]; exact h
    · cases h
  case fnp f js =>
    split at h
    · rename_i l hl
      rw [lendBoxes_agree hl (fun i b hi => ha i b hi)]; exact h
    · cases h
theorem lendCells_agree : ∀ {cs : List Cell} {p : List Cell × Bool}, lendCells E sg cs = some p → (Agree sg sg' fun j => cs.any (·.uses j)) → lendCells E sg' cs = some p
  | [], p, h, _ => h
  | c :: cs, p, h, ha => by
    simp only [lendCells] at h
    split at h
    · rename_i c' u hc
      split at h
      · rename_i cs' u' hcs
        simp only [lendCells, lendCell_agree hc (fun j b hj => ha j b (by simp [hj])), lendCells_agree hcs (fun j b hj => ha j b (by simp only [List.any_cons, hj, Bool.or_true]))]
        exact h
      · cases h
    · cases h
theorem lend_agree {v : AV} {p : AV × Bool} (h : lend E sg v = some p) (ha : Agree sg sg' fun j => v.uses j) : lend E sg' v = some p := by
  cases v with
  | one c =>
    simp only [lend] at h ⊢
    split at h
    · rename_i hc; rw [lendCell_agree hc ha]; exact h
    · cases h
  | agg cs =>
    simp only [lend] at h ⊢
    split at h
    · rename_i hc; rw [lendCells_agree hc ha]; exact h
    · cases h
  | tup vs => cases h
theorem lendAll_agree : ∀ {vs : List AV} {p : List AV × Bool}, lendAll E sg vs = some p → (∀ v ∈ vs, Agree sg sg' fun j => v.uses j) → lendAll E sg' vs = some p
  | [], p, h, _ => h
  | v :: vs, p, h, ha => by
    simp only [lendAll] at h
    split at h
    · rename_i v' u hv
      split at h
      · rename_i vs' u' hvs
        simp only [lendAll, lend_agree hv (ha v List.mem_cons_self), lendAll_agree hvs (fun v hv => ha v (List.mem_cons_of_mem _ hv))]
        exact h
      · cases h
    · cases h
/-! ### calls -/
theorem hcall_agree {dst : Option Nat} {f : AV} {args : List AV} {p : AV × Sig} (h : hcall E call sg dst f args = some p) (ha : ∀ v ∈ args, Agree sg sg' fun j => v.uses j) (hf : ∀ q ∈ p.2, sg'.get q.1 = none) : hcall E call sg' dst f args = some p := by
  unfold hcall at h ⊢
  split at h
  · rename_i g caps
    split at h
    · rename_i args' own hl
      rw [lendAll_agree hl ha]
      rw [Option.bind_eq_some_iff] at h
      obtain ⟨r, h1, h2⟩ := h
      simp only
      rw [h1]
      simp only [Option.bind_some, bifs] at h2 ⊢
      split at h2
      · rename_i hc
        rw [if_pos hc]
        split at h2
        · rename_i d
          split at h2
          · cases h2
            rw [if_pos]
            rw [List.all_eq_true]
            intro q hq
            have := hf (q.1 + d, q.2.shift d) (List.mem_map.2 ⟨q, hq, rfl⟩)
            exact Sig.free_iff.2 ⟨this, (Sig.free_iff.1 (List.all_eq_true.1 ‹_› q hq)).2⟩
          · cases h2
        · exact h2
      · cases h2
    · cases h
  · cases h
theorem hcall_fresh {dst : Option Nat} {f : AV} {args : List AV} {p : AV × Sig} (h : hcall E call sg dst f args = some p) : ∀ q ∈ p.2, sg.get q.1 = none := by
  unfold hcall at h
  split at h
  · split at h
    · rw [Option.bind_eq_some_iff] at h
      obtain ⟨r, h1, h2⟩ := h
      simp only [bifs] at h2
      split at h2
      · split at h2
        · rename_i d
          split at h2
          · rename_i ha
            cases h2
            rw [List.all_eq_true] at ha
            intro q hq
            obtain ⟨q', hq', rfl⟩ := List.mem_map.1 hq
            exact (Sig.free_iff.1 (ha q' hq')).1
          · cases h2
        · cases h2; intro q hq; cases hq
      · cases h2
    · cases h
  · cases h
theorem hcall_exec {st : St} {d : Nat} {f : AV} {args : List AV} (k : St → Option R) : vcallOp E call st (some d) f args k = (hcall E call st.sg (some d) f args).bind fun p => k (St.put (some d) p.1 ⟨st.sl, p.2 ++ st.sg⟩) := by
  cases f with
  | one c =>
    cases c with
    | fn g caps =>
      simp only [vcallOp, hcall, callK_eq]
      cases hl : lendAll E st.sg args with
      | none => rfl
      | some q =>
        obtain ⟨args', own⟩ := q
        simp only
        cases callP E call g (args' ++ caps.map fun c => .one (.eptr c.1 c.2 0 true)) with
        | none => rfl
        | some q =>
          simp only [Option.bind_some, bifs]
          split
          · split
            · rfl
            · rfl
          · rfl
    | _ => rfl
  | agg _ => rfl
  | tup _ => rfl
/-! ### rows that are built -/
theorem hbuild_agree {dst : Option Nat} {t : TypeId} {n : Nat} {ps : List (Nat × AV)} {p : AV × Sig} (h : hbuild E sg dst t n ps = some p) (hf : ∀ q ∈ p.2, sg'.get q.1 = none) : hbuild E sg' dst t n ps = some p := by
  unfold hbuild at h ⊢
  split at h
  · split at h
    · simp only [bifs] at h ⊢
      split at h
      · rename_i hc
        split at h
        · rename_i l hl
          cases h
          have := hf _ List.mem_cons_self
          simp only [Bool.and_eq_true, Sig.free_iff] at hc ⊢
          rw [if_pos ⟨⟨⟨hc.1.1.1, this, hc.1.1.2.2⟩, hc.1.2⟩, hc.2⟩]
        · cases h
      · cases h
    · cases h
  · cases h
theorem hbuild_fresh {dst : Option Nat} {t : TypeId} {n : Nat} {ps : List (Nat × AV)} {p : AV × Sig} (h : hbuild E sg dst t n ps = some p) : ∀ q ∈ p.2, sg.get q.1 = none := by
  unfold hbuild at h
  split at h
  · split at h
    · simp only [bifs] at h
      split at h
      · rename_i hc
        split at h
        · cases h
          simp only [Bool.and_eq_true, Sig.free_iff] at hc
          intro q hq
          rw [List.mem_singleton.1 hq]
          exact hc.1.1.2.1
        · cases h
      · cases h
    · cases h
  · cases h
end
end Go.Proofs.Ytcladakiniekcaa.Lib

/- Operations whose order is open, one by one. No condition. -/
namespace Go.Proofs.Ytcladakiniekcaa.Lib
open Go Go.RowKit
set_option linter.unusedVariables false
set_option linter.unusedSimpArgs false
section
variable {E : Env} {call : CallFn} {R : Type} {r : R}
theorem qop_none {sg : Sig} {ρ : Operand → AV} {o : Oper} {p : AV × Sig} (h : qop E sg ρ o.dst o.op (fun v add => some (v, add)) = some p) : QPar E sg ρ o.dst o.op p := by
  obtain ⟨p', h1, h2⟩ := qop_par h
  cases h2
  exact h1
/-- How a call is gone. -/
inductive Way (c : Call) : Prop
  | app (s x : Operand) (t t' : TypeId) : c.callee = .builtin .append → c.args.toList = [s, x] → c.argTypes.toList = [t, t'] → Way c
  | val (f : Operand) : c.callee = .value f → Way c
  | q : (∀ (E : Env) (call : CallFn) (R : Type) (o : Oper) (st : St) (k : St → Option R), o.op = .call c → exec E call o st k = qop E st.sg (evalO st.sl) o.dst (.call c) fun v add => k (St.put o.dst v ⟨st.sl, add ++ st.sg⟩)) →
      (∀ (E : Env) (call : CallFn) (sg : Sig) (ρ : Operand → AV) (o : Oper), o.op = .call c → hop E call sg ρ o = qop E sg ρ o.dst (.call c) fun v add => some (v, add)) → Way c
theorem way (c : Call) : Way c := by
  have other : (∀ s x t t', ¬ (c.callee = .builtin .append ∧ c.args.toList = [s, x] ∧ c.argTypes.toList = [t, t'])) → (∀ f, c.callee ≠ .value f) → Way c := by
    intro h1 h2
    refine .q (fun E call R o st k ho => ?_) (fun E call sg ρ o ho => ?_)
    · unfold exec
      rw [ho]
      simp only
      split
      · rename_i hc ha ht; exact absurd ⟨hc, ha, ht⟩ (h1 _ _ _ _)
      · rename_i hc; exact absurd hc (h2 _)
      · rfl
    · unfold hop
      rw [ho]
      simp only
      split
      · rename_i hc ha ht; exact absurd ⟨hc, ha, ht⟩ (h1 _ _ _ _)
      · rename_i hc; exact absurd hc (h2 _)
      · rfl
  by_cases h2 : ∃ f, c.callee = .value f
  · obtain ⟨f, hf⟩ := h2
    exact .val f hf
  · by_cases h1 : ∃ s x t t', c.callee = .builtin .append ∧ c.args.toList = [s, x] ∧ c.argTypes.toList = [t, t']
    · obtain ⟨s, x, t, t', a1, a2, a3⟩ := h1
      exact .app s x t t' a1 a2 a3
    · exact other (fun s x t t' h => h1 ⟨s, x, t, t', h⟩) (fun f hf => h2 ⟨f, hf⟩)
theorem flatTy {t : TypeId} (h : (match E.ti.lookup t with
      | some { td := .slice e, .. } => (match E.ti.lookup e with
        | some { ty := some τ, .. } => τ.flat
        | _ => false)
      | _ => false) = true) : ∃ e s b y τ s' b' d', E.ti.lookup t = some ⟨.slice e, s, b, y⟩ ∧ E.ti.lookup e = some ⟨d', s', b', some τ⟩ ∧ τ.flat = true := by
  split at h
  · rename_i e s b y ht
    split at h
    · rename_i d' s' b' τ he
      exact ⟨e, s, b, y, τ, s', b', d', ht, he, h⟩
    · cases h
  · cases h
/-- In line, the operation does what it does. -/
theorem hop_exec {o : Oper} {st : St} {p : AV × Sig} (ho : headOk E o = true) (h : hop E call st.sg (evalO st.sl) o = some p) (k : St → Option R) : exec E call o st k = k (St.put o.dst p.1 ⟨st.sl, p.2 ++ st.sg⟩) := by
  have quiet : qop E st.sg (evalO st.sl) o.dst o.op (fun v add => some (v, add)) = some p → qop E st.sg (evalO st.sl) o.dst o.op (fun v add => k (St.put o.dst v ⟨st.sl, add ++ st.sg⟩)) = k (St.put o.dst p.1 ⟨st.sl, p.2 ++ st.sg⟩) := fun h =>
    let hq := qop_none h
    hq.1 _ st.sg _ (fun _ _ => rfl) (fun _ _ j b _ hj => hj) hq.2
  unfold headOk at ho
  cases hop' : o.op with
  | store t a v => unfold hop at h; rw [hop'] at h; cases h
  | call c =>
    rcases way c with ⟨s, x, t, t', h1, h2, h3⟩ | ⟨f, h1⟩ | ⟨h1, h2⟩
    · unfold hop at h
      rw [hop'] at h
      simp only [h1, h2, h3] at h
      cases h
    · rw [hop'] at ho
      simp only [h1] at ho
      unfold hop at h
      rw [hop'] at h
      simp only [h1] at h
      unfold exec
      rw [hop']
      simp only [h1]
      simp only [Bool.and_eq_true] at ho
      have hmk := Option.isNone_iff_eq_none.1 ho.2.2
      simp only [hmk]
      obtain ⟨d, hd⟩ := Option.isSome_iff_exists.1 ho.2.1
      rw [hd] at h ⊢
      rw [hcall_exec, h]
      rfl
    · rw [h1 E call R o st k hop', ← hop']
      rw [h2 E call st.sg _ o hop', ← hop'] at h
      exact quiet h
  | buildSlice t n ps =>
    unfold hop at h
    rw [hop'] at h
    simp only at h
    unfold exec
    rw [hop']
    simp only
    unfold hbuild at h
    split at h
    · rename_i d e s b y hd ht
      split at h
      · rename_i d' s' b' τ he
        simp only [bifs] at h
        split at h
        · rename_i hc
          split at h
          · rename_i l hl
            cases h
            simp only [Bool.and_eq_true] at hc
            rw [settleParts_plain hc.1.1.1 hl]
            simp only [hd, ht, he, hc.1.1.2, hc.1.2, hc.2, Bool.and_self, cond_true, hl]
            rfl
          · cases h
        · cases h
      · cases h
    · cases h
  | _ => (unfold exec; unfold hop at h; rw [hop'] at h ⊢; simp only at h ⊢; rw [← hop'] at h ⊢; exact quiet h)
/-- What is done in line is done by the operation. -/
theorem exec_hop {o : Oper} {st : St} {k : St → Option R} (ho : headOk E o = true) (h : exec E call o st k = some r) : ∃ p, hop E call st.sg (evalO st.sl) o = some p ∧ (∀ q ∈ p.2, st.sg.get q.1 = none) ∧ k (St.put o.dst p.1 ⟨st.sl, p.2 ++ st.sg⟩) = some r := by
  have quiet : qop E st.sg (evalO st.sl) o.dst o.op (fun v add => k (St.put o.dst v ⟨st.sl, add ++ st.sg⟩)) = some r → ∃ p, qop E st.sg (evalO st.sl) o.dst o.op (fun v add => some (v, add)) = some p ∧ (∀ q ∈ p.2, st.sg.get q.1 = none) ∧ k (St.put o.dst p.1 ⟨st.sl, p.2 ++ st.sg⟩) = some r := fun h => by
    obtain ⟨p, h1, h2⟩ := qop_par h
    exact ⟨p, h1.1 _ st.sg _ (fun _ _ => rfl) (fun _ _ j b _ hj => hj) h1.2, h1.2, h2⟩
  unfold headOk at ho
  cases hop' : o.op with
  | store t a v => rw [hop'] at ho; simp at ho
  | call c =>
    rcases way c with ⟨s, x, t, t', h1, h2, h3⟩ | ⟨f, h1⟩ | ⟨h1, h2⟩
    · rw [hop'] at ho
      simp [h1, h2, h3] at ho
    · rw [hop'] at ho
      simp only [h1] at ho
      unfold exec at h
      rw [hop'] at h
      simp only [h1] at h
      simp only [Bool.and_eq_true] at ho
      have hmk := Option.isNone_iff_eq_none.1 ho.2.2
      simp only [hmk] at h
      obtain ⟨d, hd⟩ := Option.isSome_iff_exists.1 ho.2.1
      rw [hd, hcall_exec, Option.bind_eq_some_iff] at h
      obtain ⟨p, h2, h3⟩ := h
      refine ⟨p, ?_, hcall_fresh h2, by rw [hd]; exact h3⟩
      unfold hop
      rw [hop']
      simp only [h1, hd]
      exact h2
    · rw [h1 E call R o st k hop', ← hop'] at h
      rw [h2 E call st.sg _ o hop', ← hop']
      exact quiet h
  | buildSlice t n ps =>
    rw [hop'] at ho
    simp only [Bool.and_eq_true] at ho
    obtain ⟨e, s, b, y, τ, s', b', d', ht, he, hf⟩ := flatTy ho.2
    unfold exec at h
    rw [hop'] at h
    simp only at h
    split at h
    · rename_i sg1 ps1 hs
      split at h
      · rename_i d e2 s2 b2 y2 hd ht2
        rw [ht] at ht2
        cases ht2
        split at h
        · rename_i d3 s3 b3 τ3 he3
          rw [he] at he3
          cases he3
          simp only [bifs] at h
          split at h
          · rename_i hc
            have fin : ∀ bb l, readElems bb τ ps1 0 = some l → k ⟨st.sl.set d (.one (.sl d)), (d, .arr e τ l bb) :: sg1⟩ = some r → bb = false → ∃ p, hop E call st.sg (evalO st.sl) o = some p ∧ (∀ q ∈ p.2, st.sg.get q.1 = none) ∧ k (St.put o.dst p.1 ⟨st.sl, p.2 ++ st.sg⟩) = some r := by
              intro bb l hl hk hb
              subst hb
              obtain ⟨rfl, rfl, h3⟩ := settleParts_rev hf hs hl
              have hh : hop E call st.sg (evalO st.sl) o = some (.one (.sl d), [(d, .arr e τ l false)]) := by
                unfold hop
                rw [hop']
                simp only [Bool.and_eq_true] at hc
                simp only [hbuild, hd, ht, he, hf, hc.1.1, hc.1.2, hc.2, Bool.and_self, cond_true, h3]
              exact ⟨_, hh, (by
                unfold hop at hh
                rw [hop'] at hh
                exact hbuild_fresh hh), by rw [hd]; exact hk⟩
            split at h
            · rename_i l hl
              exact fin _ l hl h rfl
            · rename_i hn
              split at h
              · rename_i l hl
                obtain ⟨rfl, rfl, h3⟩ := settleParts_rev hf hs hl
                rw [hn] at h3
                cases h3
              · cases h
          · cases h
        · cases h
      · cases h
    · cases h
  | _ => (unfold exec at h; unfold hop; rw [hop'] at h ⊢; simp only at h ⊢; rw [← hop'] at h ⊢; exact quiet h)
/-- The operation leans on its operands alone. -/
theorem hop_agree {o : Oper} {sg sg' : Sig} {ρ ρ' : Operand → AV} {p : AV × Sig} (h : hop E call sg ρ o = some p) (h1 : ∀ x ∈ o.op.operands.toList, ρ' x = ρ x)
    (h2 : ∀ x ∈ o.op.operands.toList, Agree sg sg' fun j => (ρ x).uses j) (hf : ∀ q ∈ p.2, sg'.get q.1 = none) : hop E call sg' ρ' o = some p := by
  have quiet : qop E sg ρ o.dst o.op (fun v add => some (v, add)) = some p → qop E sg' ρ' o.dst o.op (fun v add => some (v, add)) = some p := fun h =>
    (qop_none h).1 _ sg' ρ' h1 h2 hf
  cases hop' : o.op with
  | store t a v => unfold hop at h; rw [hop'] at h; cases h
  | call c =>
    rcases way c with ⟨s, x, t, t', g1, g2, g3⟩ | ⟨f, g1⟩ | ⟨g1, g2⟩
    · unfold hop at h
      rw [hop'] at h
      simp only [g1, g2, g3] at h
      cases h
    · unfold hop at h ⊢
      rw [hop'] at h h1 h2 ⊢
      simp only [g1] at h ⊢
      have ha : ∀ x ∈ c.args.toList, x ∈ (Op.call c).operands.toList := by
        intro x hx
        simp only [Op.operands, Call.operands, Array.toList_append, List.mem_append]
        exact .inr hx
      have hfm : f ∈ (Op.call c).operands.toList := by
        simp only [Op.operands, Call.operands, Array.toList_append, List.mem_append, g1]
        exact .inl (by simp)
      rw [h1 f hfm, List.map_congr_left (fun x hx => h1 x (ha x hx))]
      refine hcall_agree h (fun v hv => ?_) hf
      obtain ⟨x, hx, rfl⟩ := List.mem_map.1 hv
      exact h2 x (ha x hx)
    · rw [g2 E call sg _ o hop', ← hop'] at h
      rw [g2 E call sg' _ o hop', ← hop']
      exact quiet h
  | buildSlice t n ps =>
    unfold hop at h ⊢
    rw [hop'] at h h1 ⊢
    simp only at h ⊢
    rw [List.map_congr_left (g := fun p => (p.1, ρ p.2)) (fun q hq => by rw [h1 q.2 (by simp only [Op.operands]; exact List.mem_map.2 ⟨q, by simpa using hq, rfl⟩)])]
    exact hbuild_agree h hf
  | _ => (unfold hop at h ⊢; rw [hop'] at h ⊢; simp only at h ⊢; rw [← hop'] at h ⊢; exact quiet h)
theorem gop_agree {all : List Oper} {o : Oper} {sg sg' : Sig} {ρ ρ' : Operand → AV} {p : AV × Sig} (h : gop E call all sg ρ o = some p) (h1 : ∀ x ∈ opn all o, ρ' x = ρ x)
    (h2 : ∀ x ∈ opn all o, Agree sg sg' fun j => (ρ x).uses j) (hf : ∀ q ∈ p.2, sg'.get q.1 = none) : gop E call all sg' ρ' o = some p := by
  have hh : hop E call sg ρ o = some p → hop E call sg' ρ' o = some p := fun h => hop_agree h (fun x hx => h1 x (List.mem_append_right _ hx)) (fun x hx => h2 x (List.mem_append_right _ hx)) hf
  unfold gop at h ⊢
  split at h
  · exact hh h
  · rename_i j want hg
    split at h
    · rename_i t ht
      have ht' : ρ' (.tmp t) = ρ (.tmp t) := h1 _ (List.mem_append_left _ (by unfold tst; rw [hg]; simp only [ht]; exact List.mem_singleton.2 rfl))
      rw [ht']
      split at h
      · rename_i v hv
        simp only [bifs] at h ⊢
        split at h
        · rename_i hvw; rw [if_pos hvw]; exact hh h
        · rename_i hvw; rw [if_neg hvw]; exact h
      · exact h
      · cases h
    · cases h
theorem evalO_tmp {sl : List AV} {t : Nat} {v : AV} (h : sl[t]? = some v) : evalO sl (.tmp t) = v := by
  simp only [evalO, List.getD_eq_getElem?_getD, h]
  rfl
theorem vg_gop {all : List Oper} {o : Oper} {l : List Oper} {st : St} {k : St → Option R} (ho : headOk E o = true) (h : vguard E call all (o :: l) st k = some r) :
    ∃ p, gop E call all st.sg (evalO st.sl) o = some p ∧ (∀ q ∈ p.2, st.sg.get q.1 = none) ∧ vguard E call all l (St.put o.dst p.1 ⟨st.sl, p.2 ++ st.sg⟩) k = some r := by
  simp only [vguard] at h
  split at h
  · rename_i hg
    obtain ⟨p, h1, h2, h3⟩ := exec_hop ho h
    exact ⟨p, by unfold gop; simp only [hg]; exact h1, h2, h3⟩
  · rename_i j want hg
    split at h
    · rename_i t ht
      split at h
      · rename_i v hv
        have run : ∀ b, v = b → (b == want) = true → exec E call o st (fun st => vguard E call all l st k) = some r → ∃ p, gop E call all st.sg (evalO st.sl) o = some p ∧ (∀ q ∈ p.2, st.sg.get q.1 = none) ∧ vguard E call all l (St.put o.dst p.1 ⟨st.sl, p.2 ++ st.sg⟩) k = some r := by
          intro b hb hw h
          subst hb
          obtain ⟨p, h1, h2, h3⟩ := exec_hop ho h
          exact ⟨p, by unfold gop; simp only [hg, ht, evalO_tmp hv, hw, cond_true]; exact h1, h2, h3⟩
        have skip : ∀ b, v = b → (b == want) = false → vguard E call all l (st.put o.dst (.tup [])) k = some r → ∃ p, gop E call all st.sg (evalO st.sl) o = some p ∧ (∀ q ∈ p.2, st.sg.get q.1 = none) ∧ vguard E call all l (St.put o.dst p.1 ⟨st.sl, p.2 ++ st.sg⟩) k = some r := by
          intro b hb hw h
          subst hb
          exact ⟨(.tup [], []), by unfold gop; simp only [hg, ht, evalO_tmp hv, hw, cond_false], (fun q hq => by cases hq), h⟩
        cases v with
        | true =>
          simp only [put_same hv, bifs] at h
          split at h
          · rename_i h1; exact run true rfl (by rw [h1]; rfl) h
          · rename_i h1; exact skip true rfl (by cases want <;> simp_all) h
        | false =>
          simp only [put_same hv, bifs] at h
          split at h
          · rename_i h1; exact skip false rfl (by rw [h1]; rfl) h
          · rename_i h1; exact run false rfl (by cases want <;> simp_all) h
      · rename_i hv
        exact ⟨(.tup [], []), by unfold gop; simp only [hg, ht, evalO_tmp hv], (fun q hq => by cases hq), h⟩
      · cases h
    · cases h
end
end Go.Proofs.Ytcladakiniekcaa.Lib

/- Statements whose order is open: all orders come out alike. No condition. -/
namespace Go.Proofs.Ytcladakiniekcaa.Lib
open Go Go.RowKit
set_option linter.unusedVariables false
set_option linter.unusedSimpArgs false
section
variable {P : Program} {E : Env} {call : CallFn} {R : Type} {r : R}
/-- In the order of the text: the state before the j-th operation. -/
def txt (E : Env) (call : CallFn) (l : List Oper) (st : St) : Nat → St
  | 0 => st
  | j + 1 => match l[j]? with
    | some o => (match gop E call l (txt E call l st j).sg (evalO (txt E call l st j).sl) o with
      | some p => St.put o.dst p.1 ⟨(txt E call l st j).sl, p.2 ++ (txt E call l st j).sg⟩
      | none => txt E call l st j)
    | none => txt E call l st j
/-- The j-th operation and what it does in the order of the text. -/
def Val (E : Env) (call : CallFn) (l : List Oper) (st : St) (j : Nat) (o : Oper) (p : AV × Sig) : Prop :=
  l[j]? = some o ∧ headOk E o = true ∧ gop E call l (txt E call l st j).sg (evalO (txt E call l st j).sl) o = some p ∧ ∀ q ∈ p.2, (txt E call l st j).sg.get q.1 = none
theorem Val.uniq {l : List Oper} {st : St} {j : Nat} {o o' : Oper} {p p' : AV × Sig} (h : Val E call l st j o p) (h' : Val E call l st j o' p') : o = o' ∧ p = p' := by
  have h1 : o = o' := Option.some.inj (h.1.symm.trans h'.1)
  subst h1
  exact ⟨rfl, Option.some.inj (h.2.2.1.symm.trans h'.2.2.1)⟩
theorem Val.succ {l : List Oper} {st : St} {j : Nat} {o : Oper} {p : AV × Sig} (h : Val E call l st j o p) : txt E call l st (j + 1) = St.put o.dst p.1 ⟨(txt E call l st j).sl, p.2 ++ (txt E call l st j).sg⟩ := by
  simp only [txt, h.1, h.2.2.1]
/-- The head in line. -/
theorem head_run {l : List Oper} {st : St} {k : St → Option R} : ∀ n, n ≤ l.length → (l.take n).all (headOk E) = true → vguard E call l l st k = some r →
    vguard E call l (l.drop n) (txt E call l st n) k = some r ∧ ∀ j, j < n → ∃ o p, Val E call l st j o p
  | 0, _, _, h => ⟨h, fun j hj => by omega⟩
  | n + 1, hn, hh, h => by
    have hlt : n < l.length := by omega
    have hh' : (l.take n).all (headOk E) = true := by
      rw [List.all_eq_true] at hh ⊢
      intro o ho
      exact hh o (by rw [List.take_add_one]; exact List.mem_append_left _ ho)
    have ho : headOk E l[n] = true := by
      rw [List.all_eq_true] at hh
      refine hh _ ?_
      rw [List.mem_take_iff_getElem]
      exact ⟨n, by omega, rfl⟩
    obtain ⟨h1, h2⟩ := head_run n (by omega) hh' h
    rw [List.drop_eq_getElem_cons hlt] at h1
    obtain ⟨p, h3, h4, h5⟩ := vg_gop ho h1
    have hv : Val E call l st n l[n] p := ⟨List.getElem?_eq_getElem hlt, ho, h3, h4⟩
    refine ⟨by rw [hv.succ]; exact h5, fun j hj => ?_⟩
    by_cases hjn : j = n
    · subst hjn; exact ⟨_, _, hv⟩
    · exact h2 j (by omega)
/-- A part of the head is done. -/
structure Part (E : Env) (call : CallFn) (l : List Oper) (st : St) (n : Nat) (L : Nat → Prop) (s : St) : Prop where
  len : s.sl.length = st.sl.length
  wr : ∀ j o p t, j < n → L j → Val E call l st j o p → o.dst = some t → t < st.sl.length → s.sl[t]? = some p.1
  un : ∀ t, (∀ j o, j < n → L j → l[j]? = some o → o.dst ≠ some t) → s.sl[t]? = st.sl[t]?
  sg : ∀ i b, s.sg.get i = some b ↔ st.sg.get i = some b ∨ ∃ j o p, j < n ∧ L j ∧ Val E call l st j o p ∧ Sig.get i p.2 = some b
theorem Part.start {l : List Oper} {st : St} {n : Nat} {L : Nat → Prop} (hL : ∀ j, j < n → ¬ L j) : Part E call l st n L st :=
  ⟨rfl, fun j o p t hj hl => absurd hl (hL j hj), fun t _ => rfl, fun i b => ⟨.inl, fun h => h.elim id fun ⟨j, o, p, hj, hl, _⟩ => absurd hl (hL j hj)⟩⟩
theorem get_append_mem {a b : Sig} {i : Nat} {x : Blk} (h : (a ++ b).get i = some x) (hf : ∀ q ∈ a, b.get q.1 = none) : Sig.get i a = some x ∨ (Sig.get i a = none ∧ Sig.get i b = some x) := by
  rw [Sig.get_append] at h
  cases ha : Sig.get i a with
  | none => rw [ha] at h; exact .inr ⟨rfl, by simpa using h⟩
  | some y => rw [ha] at h; exact .inl (by simpa using h)
theorem Part.step {l : List Oper} {st s : St} {n j : Nat} {L L' : Nat → Prop} {o : Oper} {p : AV × Sig} (h : Part E call l st n L s) (hj : j < n) (hn : ¬ L j) (hv : Val E call l st j o p) (hL : ∀ i, L' i ↔ L i ∨ i = j)
    (hu : ∀ i o' t, i < n → l[i]? = some o' → o'.dst = some t → o.dst = some t → i = j) (hf : ∀ q ∈ p.2, s.sg.get q.1 = none) : Part E call l st n L' (St.put o.dst p.1 ⟨s.sl, p.2 ++ s.sg⟩) := by
  have hsg : (St.put o.dst p.1 ⟨s.sl, p.2 ++ s.sg⟩).sg = p.2 ++ s.sg := by cases o.dst <;> rfl
  have hsl : ∀ t, (St.put o.dst p.1 ⟨s.sl, p.2 ++ s.sg⟩).sl[t]? = if o.dst = some t then (if t < s.sl.length then some p.1 else none) else s.sl[t]? := by
    intro t
    cases hd : o.dst with
    | none => simp [St.put]
    | some d =>
      simp only [St.put, List.getElem?_set, Option.some.injEq]
      split
      · rename_i hdt; subst hdt; split <;> rfl
      · rfl
  refine ⟨?_, fun i o' p' t hi hl' hv' ht hlt => ?_, fun t ht => ?_, fun i b => ?_⟩
  · rw [← h.len]
    cases o.dst <;> simp [St.put]
  · rw [hsl]
    split
    · rename_i hd
      have hij := hu i o' t hi hv'.1 ht hd
      subst hij
      obtain ⟨_, rfl⟩ := hv.uniq hv'
      rw [if_pos (by rw [h.len]; exact hlt)]
    · rename_i hd
      rcases (hL i).1 hl' with hl | rfl
      · exact h.wr i o' p' t hi hl hv' ht hlt
      · obtain ⟨rfl, _⟩ := hv.uniq hv'
        exact absurd ht hd
  · rw [hsl, if_neg (ht j o hj ((hL j).2 (.inr rfl)) hv.1)]
    exact h.un t fun i o' hi hl ho => ht i o' hi ((hL i).2 (.inl hl)) ho
  · rw [hsg]
    constructor
    · intro hb
      rcases get_append_mem hb hf with hb | ⟨_, hb⟩
      · exact .inr ⟨j, o, p, hj, (hL j).2 (.inr rfl), hv, hb⟩
      · rcases (h.sg i b).1 hb with hb | ⟨j', o', p', hj', hl', hv', hb⟩
        · exact .inl hb
        · exact .inr ⟨j', o', p', hj', (hL j').2 (.inl hl'), hv', hb⟩
    · intro hb
      have old : s.sg.get i = some b → (p.2 ++ s.sg).get i = some b := by
        intro hs
        rw [Sig.get_append]
        cases ha : Sig.get i p.2 with
        | none => simpa using hs
        | some y =>
          have := hf _ (Sig.get_mem ha)
          rw [hs] at this
          cases this
      rcases hb with hb | ⟨j', o', p', hj', hl', hv', hb⟩
      · exact old ((h.sg i b).2 (.inl hb))
      · rcases (hL j').1 hl' with hl | rfl
        · exact old ((h.sg i b).2 (.inr ⟨j', o', p', hj', hl, hv', hb⟩))
        · obtain ⟨rfl, rfl⟩ := hv.uniq hv'
          rw [Sig.get_append, hb]
          rfl
/-- Writers and readers of the head keep their order. -/
def readsB (n : Nat) (ops : Array Oper) : Bool :=
  (List.range n).all fun j => (List.range n).all fun k => match ops[j]?, ops[k]? with
    | some oj, some ok => (match ok.dst with
      | some t => (j == k || oj.dst != some t) && (!((opn ops.toList oj).any fun x => match x with | .tmp u => u == t | _ => false) || (decide (k < j) && Region.waitsFor .any ops j k) || (decide (j < k) && Region.waitsFor .any ops k j))
      | none => true)
    | _, _ => true
/-- Nothing waits for what stands behind it. -/
def edgesB (n : Nat) (ops : Array Oper) : Bool :=
  (List.range n).all fun j => match ops[j]? with
    | some o => o.after.toList.all fun e => !Region.binds .any e || Nat.blt e.on j
    | none => true
def listedN (n m : Nat) : Array Bool := (List.replicate n true ++ List.replicate m false).toArray
def headB (E : Env) (l : List Oper) (n : Nat) : Bool :=
  Nat.blt n l.length && (l.take n).all (headOk E) && Region.sinkB .any l.toArray n && Region.chainB .any l.toArray n && readsB n l.toArray && edgesB n l.toArray && Region.seqB .any l.toArray (l.length - n) n (listedN n (l.length - n))
def drawB (E : Env) (l : List Oper) : Bool := (List.range l.length).any fun i => headB E l (l.length - 1 - i)

structure HeadOk (E : Env) (l : List Oper) (n : Nat) : Prop where
  lt : n < l.length
  ok : (l.take n).all (headOk E) = true
  sink : Region.sinkB .any l.toArray n = true
  chain : Region.chainB .any l.toArray n = true
  uniq : ∀ j k oj ok t, j < n → k < n → l[j]? = some oj → l[k]? = some ok → oj.dst = some t → ok.dst = some t → j = k
  reads : ∀ j k oj ok t, j < n → k < n → l[j]? = some oj → l[k]? = some ok → ok.dst = some t → .tmp t ∈ opn l oj → (k < j ∧ Region.waitsFor .any l.toArray j k = true) ∨ (j < k ∧ Region.waitsFor .any l.toArray k j = true)
  edges : ∀ j o, j < n → l[j]? = some o → ∀ e ∈ o.after, Region.binds .any e = true → e.on < j
  seq : Region.seqB .any l.toArray (l.length - n) n (listedN n (l.length - n)) = true
theorem headB_ok {l : List Oper} {n : Nat} (h : headB E l n = true) : HeadOk E l n := by
  simp only [headB, Bool.and_eq_true, Nat.blt_eq] at h
  obtain ⟨⟨⟨⟨⟨⟨h1, h2⟩, h3⟩, h4⟩, h5⟩, h6⟩, h7⟩ := h
  simp only [readsB, List.all_eq_true, List.mem_range] at h5
  refine ⟨h1, h2, h3, h4, fun j k oj ok t hj hk h8 h9 h10 h11 => ?_, fun j k oj ok t hj hk h8 h9 h10 h11 => ?_, fun j o hj h8 e he hb => ?_, h7⟩
  · have := h5 j hj k hk
    simp only [List.getElem?_toArray, h8, h9, h11, h10, Bool.and_eq_true, Bool.or_eq_true, beq_iff_eq, bne_iff_ne, ne_eq, not_true_eq_false, or_false] at this
    exact this.1
  · have := h5 j hj k hk
    simp only [List.getElem?_toArray, h8, h9, h10, Bool.and_eq_true, Bool.or_eq_true, decide_eq_true_eq, Bool.not_eq_true'] at this
    rcases this.2 with (h | h) | h
    · rw [List.any_eq_false] at h
      exact absurd (h _ h11) (by simp)
    · exact .inl h
    · exact .inr h
  · simp only [edgesB, List.all_eq_true, List.mem_range] at h6
    have := h6 j hj
    simp only [List.getElem?_toArray, h8, List.all_eq_true] at this
    have := this e (by simpa using he)
    simpa [hb] using this
theorem txt_part {l : List Oper} {st : St} {n : Nat} (H : HeadOk E l n) (hv : ∀ j, j < n → ∃ o p, Val E call l st j o p) : ∀ j, j ≤ n → Part E call l st n (· < j) (txt E call l st j)
  | 0, _ => Part.start (fun j _ h => by omega)
  | j + 1, hj => by
    obtain ⟨o, p, hp⟩ := hv j (by omega)
    rw [hp.succ]
    exact (txt_part H hv j (by omega)).step (L' := (· < j + 1)) (by omega) (by omega) hp (fun i => by omega) (fun i o' t hi h1 h2 h3 => H.uniq i j o' o t hi (by omega) h1 hp.1 h2 h3) hp.2.2.2
theorem eval_of_slot {sl sl' : List AV} {x : Operand} (h : ∀ t, x = .tmp t → sl'[t]? = sl[t]?) : evalO sl' x = evalO sl x := by
  cases x with
  | tmp t => simp only [evalO, List.getD_eq_getElem?_getD, h t rfl]
  | _ => rfl
/-- An operation whose turn has come does what it does in the order of the text. -/
theorem part_hop {l : List Oper} {st s : St} {n j : Nat} {L : Nat → Prop} {o : Oper} {p : AV × Sig} (H : HeadOk E l n) (hv : ∀ j, j < n → ∃ o p, Val E call l st j o p) (h : Part E call l st n L s)
    (hj : j < n) (hp : Val E call l st j o p) (hn : ¬ L j) (hcl : ∀ a b, a < n → b < n → L a → Region.waitsFor .any l.toArray a b = true → L b) (hrd : ∀ k, k < n → Region.waitsFor .any l.toArray j k = true → L k)
    (hdom : ∀ (i : Nat) (v : AV) (d : Nat), s.sl[i]? = some v → v.uses d = true → (s.sg.get d).isSome = true) : gop E call l s.sg (evalO s.sl) o = some p ∧ ∀ q ∈ p.2, s.sg.get q.1 = none := by
  have hT := txt_part H hv j (by omega)
  have hN := txt_part H hv n (Nat.le_refl _)
  have slot : ∀ t, .tmp t ∈ opn l o → s.sl[t]? = (txt E call l st j).sl[t]? := by
    intro t ht
    by_cases hw : ∃ k o', k < n ∧ l[k]? = some o' ∧ o'.dst = some t
    · obtain ⟨k, o', hk, ho', hd⟩ := hw
      obtain ⟨o2, p2, hp2⟩ := hv k hk
      have : o2 = o' := Option.some.inj (hp2.1.symm.trans ho')
      subst this
      rcases H.reads j k o o2 t hj hk hp.1 hp2.1 hd ht with ⟨hlt, hwt⟩ | ⟨hlt, hwt⟩
      · by_cases htl : t < st.sl.length
        · rw [h.wr k o2 p2 t hk (hrd k hk hwt) hp2 hd htl, hT.wr k o2 p2 t hk hlt hp2 hd htl]
        · rw [List.getElem?_eq_none (by rw [h.len]; exact Nat.le_of_not_lt htl), List.getElem?_eq_none (by rw [hT.len]; exact Nat.le_of_not_lt htl)]
      · have hnk : ¬ L k := fun hl => hn (hcl k j hk hj hl hwt)
        rw [h.un t fun i oi hi hl ho hdi => hnk (by rw [H.uniq k i o2 oi t hk hi hp2.1 ho hd hdi]; exact hl), hT.un t fun i oi hi hl ho hdi => by
          have := H.uniq k i o2 oi t hk hi hp2.1 ho hd hdi
          omega]
    · rw [h.un t fun i oi hi hl ho hdi => hw ⟨i, oi, hi, ho, hdi⟩, hT.un t fun i oi hi hl ho hdi => hw ⟨i, oi, hi, ho, hdi⟩]
  have hev : ∀ x ∈ opn l o, evalO s.sl x = evalO (txt E call l st j).sl x := fun x hx => eval_of_slot fun t ht => slot t (ht ▸ hx)
  have inN : ∀ i b, (txt E call l st j).sg.get i = some b → (txt E call l st n).sg.get i = some b := by
    intro i b hb
    rcases (hT.sg i b).1 hb with hb | ⟨k, o', p', hk, hl, hp', hb⟩
    · exact (hN.sg i b).2 (.inl hb)
    · exact (hN.sg i b).2 (.inr ⟨k, o', p', hk, hk, hp', hb⟩)
  have inN' : ∀ i b, s.sg.get i = some b → (txt E call l st n).sg.get i = some b := by
    intro i b hb
    rcases (h.sg i b).1 hb with hb | ⟨k, o', p', hk, hl, hp', hb⟩
    · exact (hN.sg i b).2 (.inl hb)
    · exact (hN.sg i b).2 (.inr ⟨k, o', p', hk, hk, hp', hb⟩)
  have fresh : ∀ q ∈ p.2, s.sg.get q.1 = none := by
    intro q hq
    cases hs : s.sg.get q.1 with
    | none => rfl
    | some b =>
      have h0 := hp.2.2.2 q hq
      rcases (h.sg q.1 b).1 hs with hb | ⟨k, o', p', hk, hl, hp', hb⟩
      · rw [(hT.sg q.1 b).2 (.inl hb)] at h0; cases h0
      · rcases Nat.lt_trichotomy k j with hlt | heq | hgt
        · rw [(hT.sg q.1 b).2 (.inr ⟨k, o', p', hk, hlt, hp', hb⟩)] at h0; cases h0
        · subst heq; exact absurd hl hn
        · have h1 := hp'.2.2.2 _ (Sig.get_mem hb)
          have hsome : ∃ c, Sig.get q.1 p.2 = some c := by
            have : ∀ (sg : Sig) (q : Nat × Blk), q ∈ sg → ∃ c, sg.get q.1 = some c := by
              intro sg
              induction sg with
              | nil => intro q hq; cases hq
              | cons a r ih =>
                intro q hq
                obtain ⟨i, c⟩ := a
                simp only [Sig.get]
                cases hb : (i == q.1) with
                | true => exact ⟨c, rfl⟩
                | false =>
                  rcases List.mem_cons.1 hq with rfl | hq
                  · simp at hb
                  · exact ih q hq
            exact this p.2 q hq
          obtain ⟨c, hc⟩ := hsome
          have hTk := txt_part H hv k (by omega)
          rw [(hTk.sg q.1 c).2 (.inr ⟨j, o, p, hj, hgt, hp, hc⟩)] at h1
          cases h1
  refine ⟨gop_agree hp.2.2.1 hev (fun x hx i b hu hb => ?_) fresh, fresh⟩
  cases x with
  | tmp t =>
    simp only [evalO, List.getD_eq_getElem?_getD] at hu
    rw [← slot t hx] at hu
    cases ht : s.sl[t]? with
    | none => rw [ht] at hu; cases hu
    | some v =>
      rw [ht] at hu
      obtain ⟨b', hb'⟩ := Option.isSome_iff_exists.1 (hdom t v i ht hu)
      have := inN' i b' hb'
      rw [inN i b hb] at this
      cases this
      exact hb'
  | const v =>
    exfalso
    have : ∀ v : Value, (ofVal v).uses i = false := by
      intro v
      have hc1 : ∀ v c, ofCell v = some c → c.uses i = false := by
        intro v c h
        unfold ofCell at h
        split at h <;> first | (cases h; done) | (cases h; rfl) | skip
        · split at h
          · cases h; rfl
          · cases h
      have hcs : ∀ vs cs, ofCells vs = some cs → ∀ c ∈ cs, c.uses i = false := by
        intro vs
        induction vs with
        | nil => intro cs h c hc; cases h; cases hc
        | cons a vs ih =>
          intro cs h c hc
          simp only [ofCells, Option.bind_eq_some_iff, Option.some.injEq] at h
          obtain ⟨c1, h1, cs1, h2, rfl⟩ := h
          rcases List.mem_cons.1 hc with rfl | hc
          · exact hc1 _ _ h1
          · exact ih _ h2 _ hc
      unfold ofVal
      split
      · split
        · rename_i l hl
          simp only [AV.uses]
          rw [List.any_eq_false]
          intro c hc
          simp [hcs _ _ hl c hc]
        · rfl
      · split <;> rfl
      · split
        · rename_i c hc; exact hc1 _ _ hc
        · rfl
    have h2 := this v
    simp only [evalO] at hu
    rw [h2] at hu
    cases hu
  | func f => simp [evalO, AV.uses, Cell.uses] at hu
  | global g => simp [evalO, AV.uses, Cell.uses] at hu
end
end Go.Proofs.Ytcladakiniekcaa.Lib

/- Statements whose order is open, joined. No condition. -/
namespace Go.Proofs.Ytcladakiniekcaa.Lib
open Go Go.RowKit
set_option linter.unusedVariables false
set_option linter.unusedSimpArgs false
def cnt (listed : Array Bool) : Nat → Nat
  | 0 => 0
  | n + 1 => cnt listed n + if listed.getD n false = true then 0 else 1
theorem cnt_zero {listed : Array Bool} : ∀ {n : Nat}, cnt listed n = 0 → ∀ i, i < n → listed.getD i false = true
  | 0, _, i, hi => by omega
  | n + 1, h, i, hi => by
    simp only [cnt] at h
    by_cases hl : listed.getD n false = true
    · by_cases hin : i = n
      · subst hin; exact hl
      · exact cnt_zero (n := n) (by omega) i (by omega)
    · rw [if_neg hl] at h; omega
theorem cnt_pos {listed : Array Bool} : ∀ {n : Nat}, cnt listed n ≠ 0 → ∃ i, i < n ∧ listed.getD i false = false ∧ ∀ k, k < i → listed.getD k false = true
  | 0, h => absurd rfl h
  | n + 1, h => by
    by_cases h0 : cnt listed n = 0
    · refine ⟨n, by omega, ?_, fun k hk => cnt_zero h0 k hk⟩
      simp only [cnt, h0, Nat.zero_add] at h
      cases hl : listed.getD n false with
      | false => rfl
      | true => rw [hl] at h; simp at h
    · obtain ⟨i, h1, h2, h3⟩ := cnt_pos h0
      exact ⟨i, by omega, h2, h3⟩
theorem cnt_set {listed : Array Bool} {i : Nat} (hi : i < listed.size) (hu : listed.getD i false = false) : ∀ n, cnt (listed.setIfInBounds i true) n + (if i < n then 1 else 0) = cnt listed n
  | 0 => by simp [cnt]
  | n + 1 => by
    have ih := cnt_set hi hu n
    simp only [cnt]
    by_cases hin : i = n
    · subst hin
      have h1 : (listed.setIfInBounds i true).getD i false = true := by simp [hi]
      rw [h1, hu]
      simp only [Nat.lt_irrefl, if_false, Nat.add_zero] at ih
      simp [ih]
    · rw [getD_set_ne false hin]
      by_cases hlt : i < n
      · rw [if_pos hlt] at ih
        rw [if_pos (show i < n + 1 by omega)]
        omega
      · rw [if_neg hlt] at ih
        rw [if_neg (show ¬ i < n + 1 by omega)]
        omega
theorem cnt_none (m : Nat) : ∀ n, cnt (Array.replicate m false) n = n
  | 0 => rfl
  | n + 1 => by simp only [cnt, cnt_none m n, getD_replicate_false]; rfl
section
variable {P : Program} {E : Env} {B : Nat} {O : Ow} {w0 w w' : World} {ρ ρ' : CEnv} {a : Act} {R : Type} {r : R} {call : CallFn}
/-- The same slots, the same blocks. -/
theorem Sim.same {s s' : St} (h : Sim B O w0 ρ s a w) (hsl : s'.sl = s.sl) (hsg : ∀ i, s'.sg.get i = s.sg.get i) : Sim B O w0 ρ s' a w := by
  have ho : ∀ j g, Owns ρ s'.sg j g ↔ Owns ρ s.sg j g := fun j g => by unfold Owns; rw [hsg]
  refine ⟨⟨fun j b hj => h.mem.blk j b (by rw [← hsg]; exact hj), fun i j g h1 h2 => h.mem.inj i j g ((ho _ _).1 h1) ((ho _ _).1 h2), fun j g h1 => h.mem.old j g ((ho _ _).1 h1), h.mem.okb, fun b g hb j h1 => h.mem.oko b g hb j ((ho _ _).1 h1), h.mem.okm, h.mem.okx, h.mem.oky, fun j b d hj hd => ?_⟩, by rw [hsl]; exact h.len, fun i v hi => h.sl i v (by rw [← hsl]; exact hi), fun i v d hi hd => ?_, h.defers, h.fr, h.base, h.pin⟩
  · rw [hsg]; exact h.mem.dom j b d (by rw [← hsg]; exact hj) hd
  · rw [hsg]; exact h.dom i v d (by rw [← hsl]; exact hi) hd
theorem Part.same {l : List Oper} {st s s' : St} {n : Nat} {L L' : Nat → Prop} (hv : ∀ j, j < n → ∃ o p, Val E call l st j o p) (h : Part E call l st n L s) (h' : Part E call l st n L' s') (hL : ∀ j, j < n → L j) (hL' : ∀ j, j < n → L' j) : s'.sl = s.sl ∧ ∀ i, s'.sg.get i = s.sg.get i := by
  constructor
  · apply List.ext_getElem?
    intro t
    by_cases hw : ∃ k o', k < n ∧ l[k]? = some o' ∧ o'.dst = some t
    · obtain ⟨k, o', hk, ho', hd⟩ := hw
      obtain ⟨o2, p2, hp2⟩ := hv k hk
      have : o2 = o' := Option.some.inj (hp2.1.symm.trans ho')
      subst this
      by_cases htl : t < st.sl.length
      · rw [h.wr k o2 p2 t hk (hL k hk) hp2 hd htl, h'.wr k o2 p2 t hk (hL' k hk) hp2 hd htl]
      · rw [List.getElem?_eq_none (by rw [h'.len]; exact Nat.le_of_not_lt htl), List.getElem?_eq_none (by rw [h.len]; exact Nat.le_of_not_lt htl)]
    · rw [h.un t fun i oi hi hl ho hdi => hw ⟨i, oi, hi, ho, hdi⟩, h'.un t fun i oi hi hl ho hdi => hw ⟨i, oi, hi, ho, hdi⟩]
  · intro i
    apply Option.ext
    intro b
    rw [h'.sg, h.sg]
    exact ⟨fun h => h.imp id fun ⟨j, o, p, hj, _, x⟩ => ⟨j, o, p, hj, hL j hj, x⟩, fun h => h.imp id fun ⟨j, o, p, hj, _, x⟩ => ⟨j, o, p, hj, hL' j hj, x⟩⟩
theorem wanted_gop {ops : Array Oper} {s : St} {o : Oper} {p : AV × Sig} (hS : Sim B O w0 ρ s a w) (h : gop E call ops.toList s.sg (evalO s.sl) o = some p) :
    (Region.wanted o (yielded ops a.tmps) = true ∧ hop E call s.sg (evalO s.sl) o = some p) ∨ (Region.wanted o (yielded ops a.tmps) = false ∧ p = (.tup [], [])) := by
  unfold gop at h
  split at h
  · rename_i hg
    exact .inl ⟨by simp [Region.wanted, hg], h⟩
  · rename_i j want hg
    split at h
    · rename_i t ht
      have ht' : (ops[j]?).bind (·.dst) = some t := by rw [← Array.getElem?_toList]; exact ht
      have he := (hS.eval (.tmp t)).1
      split at h
      · rename_i v hv
        rw [hv] at he
        have he : a.tmps.getD t undef = .bool v := he
        have hy : yielded ops a.tmps j = some v := by
          unfold yielded
          rw [ht']
          rw [Array.getD_eq_getD_getElem?] at he
          simp only [Option.bind_some]
          cases hx : a.tmps[t]? with
          | none => rw [hx] at he; cases he
          | some x => rw [hx] at he; simp only [Option.getD_some] at he; subst he; rfl
        have hw : Region.wanted o (yielded ops a.tmps) = (v == want) := by
          unfold Region.wanted
          rw [hg]
          simp only [hy]
          cases v <;> cases want <;> rfl
        simp only [bifs] at h
        split at h
        · rename_i hvw; exact .inl ⟨hw.trans hvw, h⟩
        · rename_i hvw; cases h; exact .inr ⟨by rw [hw]; simpa using hvw, rfl⟩
      · rename_i hv
        rw [hv] at he
        obtain ⟨us, he, hus⟩ := he
        cases hus
        have he : a.tmps.getD t undef = .tuple #[] := he
        have hy : yielded ops a.tmps j = none := by
          unfold yielded
          rw [ht']
          rw [Array.getD_eq_getD_getElem?] at he
          simp only [Option.bind_some]
          cases hx : a.tmps[t]? with
          | none => rfl
          | some x => rw [hx] at he; simp only [Option.getD_some] at he; subst he; rfl
        cases h
        refine .inr ⟨?_, rfl⟩
        unfold Region.wanted
        rw [hg]
        simp only [hy]
        rfl
      · cases h
    · cases h
theorem drawB_ok (hE : Env.Ok P E) (hm : P.follows .mixedOrders = true) (call : CallFn) (hC : CallOk P call) : DrawOk P E call drawB := by
  intro R r B O w0 w ρ st a id ops k Q hdraw hS hk hnext
  simp only [drawB, List.any_eq_true] at hdraw
  obtain ⟨n0, _, hB⟩ := hdraw
  generalize hn : ops.toList.length - 1 - n0 = n at hB
  have H := headB_ok hB
  obtain ⟨hk', hv⟩ := head_run n (Nat.le_of_lt H.lt) H.ok hk
  have hsz : ops.size = ops.toList.length := by simp
  have harr : ops.toList.toArray = ops := by simp
  have hnlt : n < ops.size := by rw [hsz]; exact H.lt
  have hget : ∀ j : Nat, ops[j]? = ops.toList[j]? := fun j => by simp
  have hsink := H.sink
  have hchain := H.chain
  have hseq := H.seq
  rw [harr] at hsink hchain hseq
  refine wp_region_any hm ?_
  have main : ∀ (f : Nat) (listed : Array Bool) (a : Act) (w : World) (ρ : CEnv) (s : St), HeadInv .any ops n listed → cnt listed n = f → Part E call ops.toList st n (fun i => listed.getD i false = true) s → Sim B O w0 ρ s a w → wpAny P .any ops Q (f + (ops.size - n)) listed a w := by
    intro f
    induction f with
    | zero =>
      intro listed a w ρ s inv hc hp hS
      have hall := cnt_zero hc
      obtain ⟨h1, h2⟩ := Part.same hv hp (txt_part H hv n (Nat.le_refl _)) hall (fun j hj => hj)
      have hS' := hS.same h1 h2
      have htail := vguard_sound hE hC hnext (ops.toList.drop n) _ ρ a w hS' hk'
      have hl : listed = listedN n (ops.toList.length - n) := by
        apply Array.ext
        · rw [inv.size]; simp [listedN]; omega
        · intro i h1 h2
          have hi : i < ops.size := by rw [← inv.size]; exact h1
          rcases Nat.lt_or_ge i n with hin | hin
          · have := hall i hin
            simp only [Array.getD_eq_getD_getElem?, Array.getElem?_eq_getElem h1, Option.getD_some] at this
            rw [this]
            simp [listedN, List.getElem_append, hin]
          · have := inv.tail i hin hi
            simp only [Array.getD_eq_getD_getElem?, Array.getElem?_eq_getElem h1, Option.getD_some] at this
            rw [this]
            simp [listedN, List.getElem_append, Nat.not_lt.2 hin]
      have hdl : (ops.toList.drop n).length = ops.size - n := by simp
      rw [Nat.zero_add, ← hdl]
      refine wpAny_of_seq (ops.toList.drop n) n listed a w (fun j => by simp [List.getElem?_drop]) ?_ htail
      rw [hl, List.length_drop]
      exact hseq
    | succ f ih =>
      intro listed a w ρ s inv hc hp hS
      obtain ⟨i0, hi0, hu0, hlow⟩ := cnt_pos (listed := listed) (n := n) (by omega)
      have hu0' : listed.getD i0 true = false := getD_in (by rw [inv.size]; omega) hu0
      rw [show f + 1 + (ops.size - n) = (f + (ops.size - n)) + 1 by omega]
      refine ⟨fun h0 => ?_, fun i hi => ?_⟩
      · exfalso
        have hi0s : i0 < ops.size := by omega
        have : i0 ∈ Region.ready .any ops listed := by
          refine mem_ready.2 ⟨hu0', ops[i0], Array.getElem?_eq_getElem hi0s, fun e he hb => hlow _ ?_⟩
          exact H.edges i0 ops[i0] hi0 (by rw [← hget]; exact Array.getElem?_eq_getElem hi0s) e he hb
        rw [h0] at this
        cases this
      · have hin : i < n := by
          rcases Nat.lt_or_ge i n with h | h
          · exact h
          · exact absurd hi (tail_waits hsink hchain hnlt inv _ i0 rfl hi0 hu0' i h)
        obtain ⟨hu, oi, hoi, haft⟩ := mem_ready.1 hi
        obtain ⟨o, p, hval⟩ := hv i hin
        have : oi = o := Option.some.inj ((hoi.symm.trans (hget i)).trans hval.1)
        subst this
        have hu' := getD_both hu
        obtain ⟨hh, hf⟩ := part_hop H hv hp hin hval (by rw [hu']; simp) (fun a b ha hb hla hw => by
          rw [harr] at hw
          obtain ⟨oj, hoj, e, he, hbd, hon⟩ := Region.waitsFor_spec hw
          rw [← hon]
          exact inv.closed a oj hoj hla e he hbd) (fun b hb hw => by
          rw [harr] at hw
          obtain ⟨oj, hoj, e, he, hbd, hon⟩ := Region.waitsFor_spec hw
          have : oj = oi := Option.some.inj (hoj.symm.trans hoi)
          subst this
          rw [← hon]
          exact haft e he hbd) hS.dom
        have hho := hval.2.1
        unfold wpOp
        simp only [hoi]
        have next : ∀ ρ' a' w', Sim B O w0 ρ' (St.put oi.dst p.1 ⟨s.sl, p.2 ++ s.sg⟩) a' w' → wpAny P .any ops Q (f + (ops.size - n)) (listed.setIfInBounds i true) a' w' := by
          intro ρ' a' w' hS'
          refine ih _ a' w' ρ' _ (inv.set hi hin) ?_ ?_ hS'
          · have := cnt_set (listed := listed) (i := i) (by rw [inv.size]; omega) hu' n
            rw [if_pos hin] at this
            omega
          · refine hp.step hin (by rw [hu']; simp) hval (fun j => ?_) (fun j o' t hj h1 h2 h3 => H.uniq j i o' oi t hj hin h1 hval.1 h2 h3) hf
            by_cases hji : i = j
            · subst hji
              simp [show i < listed.size by rw [inv.size]; omega]
            · rw [getD_set_ne false hji]
              exact ⟨.inl, fun h => h.elim (fun h => h) fun h => absurd h.symm hji⟩
        rcases wanted_gop hS hh with ⟨hw, hh⟩ | ⟨hw, rfl⟩
        · rw [if_pos hw]
          have hex := hop_exec (R := St) hho hh some
          refine .inl (exec_sound hE hC hS oi hex fun ρ' st' a' w' heq hS' => ?_)
          cases heq
          exact next ρ' a' w' hS'
        · rw [if_neg (by rw [hw]; simp)]
          exact next ρ _ w (hS.put oi.dst (v := .tup []) (u := undef) ⟨[], rfl, .nil⟩ (fun d hd => by cases hd))
  have h0 := main n (Array.replicate ops.size false) a { w with drawn := w.drawn + 1 } ρ st
    ⟨by simp, fun j oj _ hl => (by rw [getD_replicate_false] at hl; cases hl), fun t _ ht => getD_in (by simpa using ht) (getD_replicate_false _ _)⟩
    (cnt_none _ _) (Part.start fun j _ h => by rw [getD_replicate_false] at h; cases h)
    (hS.below ⟨rfl, rfl, rfl, Nat.le_refl _, fun _ _ => rfl⟩)
  rwa [show n + (ops.size - n) = ops.size by omega] at h0
end
end Go.Proofs.Ytcladakiniekcaa.Lib

/- An argument that reads as data is what the interpreter takes for it. No condition. -/
namespace Go.Proofs.Ytcladakiniekcaa.Lib
open Go Go.RowKit Go.WideShapes
set_option linter.unusedVariables false
set_option linter.unusedSimpArgs false
/-- What there is. -/
abbrev here (w : World) : Nat → Prop := fun g => g < w.heap.size
/-- In range, all through. -/
def Ty.ok : (t : Ty) → t.T → Prop
  | .int k, n => (Lit.int k n).wf = true
  | .bool, _ => True
  | .str, s => s.size ≤ 9223372036854775807
  | .sl _ t, l => (∀ x, x ∈ l → t.ok x) ∧ l.length ≤ 9223372036854775807
  | .pair a b, p => a.ok p.1 ∧ b.ok p.2
/-- Whatever reads as data of type t is what the kind says. -/
def Opens (P : Program) (t : TypeId) (d : Ty) : Prop :=
  ∀ (H : Type) (enc : TypeId × Value → H) (w : World) (base : Nat) (spare : Nat → Bool) (held : Bool) (fuel : Nat) (cs : List Value) (x : DataW H × List MemPlace),
    DataW.trod enc P w base spare held fuel t cs = some x → ∃ y : d.T, Rp (here w) w d y cs ∧ d.ok y
theorem opens_int {P : Program} {t : TypeId} {k : IntKind} (ht : P.underlying t = some (.int k)) : Opens P t (.int k) := by
  intro H enc w base spare held fuel cs x h
  obtain ⟨n, rfl, _, hw⟩ := DataW.trod_int ht h
  exact ⟨n, by simp only [Rp], hw⟩
theorem opens_bool {P : Program} {t : TypeId} (ht : P.underlying t = some .bool) : Opens P t .bool := by
  intro H enc w base spare held fuel cs x h
  obtain ⟨b, rfl, _⟩ := DataW.trod_bool ht h
  exact ⟨b, by simp only [Rp], trivial⟩
theorem opens_string {P : Program} {t : TypeId} (ht : P.underlying t = some .string) : Opens P t .str := by
  intro H enc w base spare held fuel cs x h
  obtain ⟨s, rfl, _, hs⟩ := DataW.trod_string ht h
  exact ⟨s, by simp only [Rp], hs⟩
theorem collect {α : Type} {Q : Nat → α → Prop} : ∀ n : Nat, (∀ i, i < n → ∃ y, Q i y) → ∃ ys : List α, ys.length = n ∧ ∀ (i : Nat) (y : α), ys[i]? = some y → Q i y
  | 0, _ => ⟨[], rfl, fun i y h => by simp at h⟩
  | n + 1, h => by
    obtain ⟨ys, hl, hys⟩ := collect n (fun i hi => h i (by omega))
    obtain ⟨y, hy⟩ := h n (by omega)
    refine ⟨ys ++ [y], by simp [hl], fun i z hz => ?_⟩
    by_cases hi : i < ys.length
    · rw [List.getElem?_append_left hi] at hz
      exact hys i z hz
    · rw [List.getElem?_append_right (by omega)] at hz
      have : i - ys.length = 0 := by
        rcases Nat.eq_zero_or_pos (i - ys.length) with e | e
        · exact e
        · rw [List.getElem?_eq_none (by simp; omega)] at hz
          exact absurd hz (by simp)
      rw [this] at hz
      simp at hz
      subst hz
      rw [show i = n by omega]
      exact hy
theorem cells_get {w : World} {base : Nat} {a : Addr} {n : Nat} {c : List Value} (h : w.cells? base a n = some c) : c.length = n ∧ ∀ (i : Nat) (u : Value), c[i]? = some u → w.cell? (a.add i) = some u := by
  unfold World.cells? at h
  split at h
  · have hl := mapM_some_length h
    rw [List.length_range] at hl
    refine ⟨hl, fun i u hi => ?_⟩
    have hlt : i < n := by
      have := (List.getElem?_eq_some_iff.1 hi).1
      omega
    have := mapM_some_get h i i (by rw [List.getElem?_range hlt])
    rw [this, hi]
  · exact absurd h (by simp)
theorem cell_here {w : World} {a : Addr} {u : Value} (h : w.cell? a = some u) : a.block < w.heap.size := by
  unfold World.cell? at h
  rcases Nat.lt_or_ge a.block w.heap.size with h' | h'
  · exact h'
  · rw [Array.getElem?_eq_none h'] at h
    cases h
theorem opens_slice {P : Program} {t e : TypeId} {d : Ty} (ht : P.underlying t = some (.slice e)) (hsz : P.cellsOf e = d.sz) (he : Opens P e d) : Opens P t (.sl e d) := by
  intro H enc w base spare held fuel cs x h
  rcases DataW.trod_slice ht h with ⟨rfl, _⟩ | ⟨a, len, cap, elems, rest, n, _, rfl, _, _, hl, hm, hlen, hel, _, _⟩
  · refine ⟨[], ?_, fun x hx => by simp at hx, by simp⟩
    simp only [Rp]
    exact ⟨none, 0, rfl, Nat.le_refl _, Nat.zero_le _, fun h => absurd h (by simp)⟩
  · obtain ⟨ys, hyl, hys⟩ := collect (α := d.T) (Q := fun i y => d.ok y ∧ ∃ c, c.length = d.sz ∧ Rp (here w) w d y c ∧ ∀ (q : Nat) (u : Value), c[q]? = some u → w.cell? (a.add (i * d.sz + q)) = some u) len (fun i hi => by
      have h1 := hel i hi
      rw [List.getElem?_eq_getElem (by omega), Option.bind_eq_some_iff] at h1
      obtain ⟨c, hc, hx⟩ := h1
      obtain ⟨y, hy, hok⟩ := he H enc w base spare held n c _ hx
      obtain ⟨_, hcg⟩ := cells_get hc
      refine ⟨y, hok, c, hy.len, hy, fun q u hq => ?_⟩
      have := hcg q u hq
      rwa [addr_add_add, hsz] at this)
    have hmax : len ≤ 9223372036854775807 := Nat.le_trans hl hm
    refine ⟨ys, ?_, fun y hy => ?_, by omega⟩
    · simp only [Rp]
      refine ⟨some a, cap, by rw [hyl], by omega, hm, fun hpos => ⟨a, rfl, ?_, fun j p hj => (hys j p hj).2⟩⟩
      obtain ⟨_, c, hc, _, hq⟩ := hys 0 ys[0] (List.getElem?_eq_getElem hpos)
      have h0 := hq 0 _ (List.getElem?_eq_getElem (by rw [hc]; exact d.sz_pos))
      have := cell_here h0
      rwa [add_block] at this
    · obtain ⟨i, hi⟩ := List.getElem?_of_mem hy
      exact (hys i y hi).1
/-- The types in line, each over its own cells. -/
def Walk (P : Program) (T : TypeId → List Value → Prop) : List TypeId → List Value → Prop
  | [], cs => cs = []
  | t :: ts, cs => T t (cs.take (P.cellsOf t)) ∧ Walk P T ts (cs.drop (P.cellsOf t))
def offsOk (P : Program) (total : Nat) : Nat → List Field → Bool
  | o, [] => o == total
  | o, f :: fs => f.offset == o && offsOk P total (o + P.cellsOf f.type) fs
theorem walk_of {P : Program} {T : TypeId → List Value → Prop} {cs : List Value} : ∀ (fs : List Field) (o : Nat), offsOk P cs.length o fs = true →
    (∀ f, f ∈ fs → T f.type ((cs.drop f.offset).take (P.cellsOf f.type))) → Walk P T (fs.map (·.type)) (cs.drop o)
  | [], o, ho, _ => by
    have : o = cs.length := by simpa [offsOk] using ho
    subst this
    simp [Walk]
  | f :: fs, o, ho, h => by
    simp only [offsOk, Bool.and_eq_true, beq_iff_eq] at ho
    obtain ⟨h1, h2⟩ := ho
    refine ⟨?_, ?_⟩
    · have := h f List.mem_cons_self
      rwa [h1] at this
    · rw [List.drop_drop]
      exact walk_of fs (o + P.cellsOf f.type) h2 (fun g hg => h g (List.mem_cons_of_mem _ hg))
def OpensW (P : Program) (ts : List TypeId) (d : Ty) : Prop :=
  ∀ (H : Type) (enc : TypeId × Value → H) (w : World) (base : Nat) (spare : Nat → Bool) (held : Bool) (fuel : Nat) (cs : List Value),
    Walk P (fun t c => ∃ x, DataW.trod enc P w base spare held fuel t c = some x) ts cs → ∃ y : d.T, Rp (here w) w d y cs ∧ d.ok y
theorem opensW_one {P : Program} {t : TypeId} {d : Ty} (h : Opens P t d) : OpensW P [t] d := by
  intro H enc w base spare held fuel cs hw
  obtain ⟨⟨x, hx⟩, hd⟩ := hw
  have hcs : cs.take (P.cellsOf t) = cs := by
    rw [List.take_of_length_le]
    have := congrArg List.length hd
    rw [List.length_drop, List.length_nil] at this
    omega
  rw [hcs] at hx
  exact h H enc w base spare held fuel cs x hx
theorem opensW_cons {P : Program} {t : TypeId} {ts : List TypeId} {d d' : Ty} (h : Opens P t d) (h' : OpensW P ts d') : OpensW P (t :: ts) (.pair d d') := by
  intro H enc w base spare held fuel cs hw
  obtain ⟨⟨x, hx⟩, hd⟩ := hw
  obtain ⟨y, hy, hok⟩ := h H enc w base spare held fuel _ x hx
  obtain ⟨z, hz, hok'⟩ := h' H enc w base spare held fuel _ hd
  refine ⟨(y, z), ?_, hok, hok'⟩
  simp only [Rp]
  exact ⟨_, _, (List.take_append_drop _ _).symm, hy, hz⟩
theorem opens_struct {P : Program} {t : TypeId} {fs : Array Field} {d : Ty} (ht : P.underlying t = some (.struct fs)) (ho : offsOk P (P.cellsOf t) 0 fs.toList = true)
    (h : OpensW P (fs.toList.map (·.type)) d) : Opens P t d := by
  intro H enc w base spare held fuel cs x hx
  obtain ⟨xs, n, _, _, hl, hxl, hf⟩ := DataW.trod_struct ht hx
  have hw := walk_of (P := P) (T := fun t c => ∃ x, DataW.trod enc P w base spare held n t c = some x) (cs := cs) fs.toList 0 (by rw [hl]; exact ho) (fun f hfm => by
    obtain ⟨i, hi⟩ := List.getElem?_of_mem hfm
    have hi' : fs[i]? = some f := by simpa using hi
    have hlt : i < xs.length := by
      have := (Array.getElem?_eq_some_iff.1 hi').1
      omega
    exact ⟨_, (hf i f hi').trans (List.getElem?_eq_getElem hlt)⟩)
  exact h H enc w base spare held n cs hw
/-- At the start of a law nothing is one's own. -/
abbrev start (w : World) : CEnv := ⟨fun _ => .dead, fun _ => here w⟩
theorem arg_slice {P : Program} {t e : TypeId} {d : Ty} (ho : Opens P t (.sl e d)) (ht : P.underlying t = some (.slice e)) {H : Type} {enc : TypeId × Value → H} {w : World} {b base : Nat} {r : Reach} {spare : Nat → Bool} {held : Bool} {v : Value} {x : DataW H} {ps : List MemPlace}
    (hv : Value.okWide P w r b t v) (h : DataW.Trod enc P w base spare held t v x ps) : ∃ l : List d.T, rav (start w) w (.one (.emb e d l true)) v ∧ (Ty.sl e d).ok l := by
  obtain ⟨a, len, cap, rfl⟩ := okWide_slice ht hv
  obtain ⟨fuel, hf⟩ := h
  obtain ⟨l, hr, hok⟩ := ho H enc w base spare held fuel _ _ hf
  exact ⟨l, by simpa [rav, rc, Value.cells] using hr, hok⟩
theorem arg_struct {P : Program} {t : TypeId} {fs : Array Field} {d : Ty} (ho : Opens P t d) (ht : P.underlying t = some (.struct fs)) {H : Type} {enc : TypeId × Value → H} {w : World} {b base : Nat} {r : Reach} {spare : Nat → Bool} {held : Bool} {v : Value} {x : DataW H} {ps : List MemPlace}
    (hv : Value.okWide P w r b t v) (h : DataW.Trod enc P w base spare held t v x ps) : ∃ y : d.T, rav (start w) w (.agg (d.cells true y)) v ∧ d.ok y := by
  obtain ⟨cs, rfl, _⟩ := okWide_struct ht hv
  obtain ⟨fuel, hf⟩ := h
  obtain ⟨y, hy, hok⟩ := ho H enc w base spare held fuel _ _ hf
  refine ⟨y, ⟨cs.toList, by simp, ?_⟩, hok⟩
  exact cells_of_Rp (ρ := start w) (b := true) (by simpa [Value.cells] using hy)
theorem placed {H : Type} {enc : TypeId × Value → H} {P : Program} {W : World} {base : Nat} {spare : Nat → Bool} {held : Bool} {t : TypeId} {v : Value} {d : DataW H} {ps : List MemPlace} (h : DataW.Trod enc P W base spare held t v d ps) : ∀ x ∈ ps, x.block < W.heap.size := by
  obtain ⟨m, hm⟩ := h
  exact DataW.trod_lt m _ _ _ hm
/-- What the interpreter says of a call, the model does. -/
theorem law_calls {P : Program} {call : CallFn} (hC : CallOk P call) {f : FuncId} {args : List AV} {b : Bool} (h : call f args [] = some (.one (.bool b), [])) {W : World} {vs : List Value} (hr : All2 (rav (start W) W) args vs) (hu : ∀ v ∈ args, ∀ d, v.uses d = false) :
    Calls P f vs.toArray W fun e w' => e = .returned (.bool b) ∧ Below W.heap.size W w' := by
  refine (hC f args _ _ h (start W) W vs (fun _ _ h => h) (fun _ h => h) hr hu).2.mono fun e w' hh => ?_
  obtain ⟨v, ρ', he, hv, _, _, hb⟩ := hh
  have hv : v = .bool b := hv
  subst hv
  exact ⟨he, hb⟩
theorem cells_nouse (t : Ty) (b : Bool) (x : t.T) (d : Nat) : (AV.agg (t.cells b x)).uses d = false := by
  have : ∀ (t : Ty) (x : t.T), (t.cells b x).any (·.uses d) = false := by
    intro t
    induction t with
    | pair a c iha ihc => intro x; simp only [Ty.cells, List.any_append, iha, ihc]; rfl
    | _ => intro x; rfl
  exact this t x
/-- Of an element that may not be there. -/
def optC {α R : Type} (o : Option α) (f : α → Option R) : Option R := match o with | some x => f x | none => none
/-! ### tables -/
theorem lookup_mem {α β : Type} [BEq α] [LawfulBEq α] {l : List (α × β)} {a : α} {b : β} (h : l.lookup a = some b) : (a, b) ∈ l := by
  induction l with
  | nil => cases h
  | cons q r ih =>
    obtain ⟨a', b'⟩ := q
    rw [List.lookup_cons] at h
    split at h
    · rename_i heq
      cases h
      rw [eq_of_beq heq]
      exact List.mem_cons_self
    · exact List.mem_cons_of_mem _ (ih h)
theorem LtOk.no {P : Program} : ∀ c : Code, LtOk P c .none
  | .seq a b => ⟨LtOk.no a, LtOk.no b⟩
  | .cond _ a b => ⟨LtOk.no a, LtOk.no b⟩
  | .block _ b => LtOk.no b
  | .loop b => LtOk.no b
  | .skip | .label _ | .region _ _ _ | .exit _ | .ret | .goto _ | .scope _ | .refuse _ | .rangeFunc _ _ _ _ => trivial
/-- The loop at the place p. -/
def loopAt : List Bool → Code → Code
  | p, .seq a b => (match p with | false :: p => loopAt p a | true :: p => loopAt p b | [] => .skip)
  | p, .cond _ a b => (match p with | false :: p => loopAt p a | true :: p => loopAt p b | [] => .skip)
  | p, .block _ b => loopAt p b
  | p, .loop b => (match p with | [] => b | _ :: p => loopAt p b)
  | _, _ => .skip
/-- A summary put at its place. -/
def ltPut : List Bool → Code → LT → LT → LT
  | p, .seq a b, t, s => (match p with | false :: p => .node (ltPut p a t.l s) t.r | true :: p => .node t.l (ltPut p b t.r s) | [] => t)
  | p, .cond _ a b, t, s => (match p with | false :: p => .node (ltPut p a t.l s) t.r | true :: p => .node t.l (ltPut p b t.r s) | [] => t)
  | p, .block _ b, t, s => .node (ltPut p b t.l s) .none
  | p, .loop b, t, s => (match p with | [] => s | _ :: p => .node (ltPut p b t.l s) .none)
  | _, _, t, _ => t
theorem LtOk.put {P : Program} {ss : List SP} {gs : List (Nat × GP)} {F : StT ss gs → Ways (Ex × St)} (hw : wfSt ss gs) : ∀ {p : List Bool} {c : Code} {t : LT}, LtOk P c t → LoopOk P (loopAt p c) ss gs F → LtOk P c (ltPut p c t (.sum ss gs F))
  | p, .seq a b, t, h, hl => by
    cases p with
    | nil => exact h
    | cons x p => cases x with
      | false => exact ⟨LtOk.put hw h.1 hl, h.2⟩
      | true => exact ⟨h.1, LtOk.put hw h.2 hl⟩
  | p, .cond _ a b, t, h, hl => by
    cases p with
    | nil => exact h
    | cons x p => cases x with
      | false => exact ⟨LtOk.put hw h.1 hl, h.2⟩
      | true => exact ⟨h.1, LtOk.put hw h.2 hl⟩
  | p, .block _ b, t, h, hl => LtOk.put (c := b) hw h hl
  | p, .loop b, t, h, hl => by
    cases p with
    | nil => exact ⟨hw, hl⟩
    | cons x p =>
      have : LtOk P b t.l := by
        cases t with
        | sum ss gs F => exact LtOk.no b
        | none => exact h
        | node x y => exact h
      exact LtOk.put (c := b) hw this hl
  | p, .skip, t, h, hl => h
  | p, .label _, t, h, hl => h
  | p, .region _ _ _, t, h, hl => h
  | p, .exit _, t, h, hl => h
  | p, .ret, t, h, hl => h
  | p, .goto _, t, h, hl => h
  | p, .scope _, t, h, hl => h
  | p, .refuse _, t, h, hl => h
  | p, .rangeFunc _ _ _ _, t, h, hl => h
def bodyOf (f : Func) : Code := f.body.getD .skip
theorem Env.Ok.of {P : Program} {E : Env} (h : ∀ q ∈ E.ti, TI.Ok P q.1 q.2) (hf : ∀ q ∈ E.fn, P.funcs[q.1]? = some q.2 ∧ (q.2.name == "runtime.NumGoroutine") = false) (hp : ∀ q ∈ E.prim, PrimOk P q.1 q.2) (hl : ∀ q ∈ E.lt, ∀ fn, P.funcs[q.1]? = some fn → LtOk P (bodyOf fn) q.2) (hm : ∀ q ∈ E.mark, MarkOk P q.1 q.2) (he : ∀ t ∈ E.eqt, EqT P t) : Env.Ok P E :=
  ⟨fun t i hl => h _ (lookup_mem hl), fun f fn hl => hf _ (lookup_mem hl), hp, fun f fn c hf1 hb => by
    unfold Env.ltOf
    cases hlk : E.lt.lookup f with
    | none => exact LtOk.no c
    | some t =>
      have := hl _ (lookup_mem hlk) fn (hf _ (lookup_mem hf1)).1
      unfold bodyOf at this
      rw [hb] at this
      exact this, fun f m hl => hm _ (lookup_mem hl), he⟩
theorem EqT.of {P : Program} {t : TypeId} {fa : Array Field} (h1 : P.stoodInHeld t = false) (h2 : P.eqGuardType P.depth t = false) (h3 : P.underlying t = some (.struct fa)) (h4 : fa.toList.all (fun f => f.name != "_") = true) : EqT P t :=
  ⟨h1, h2, fun fa' h5 f hf => by
    rw [h3] at h5
    cases h5
    have := List.all_eq_true.1 h4 f hf
    simpa using this⟩
theorem mem_nil {α : Type} {p : α → Prop} : ∀ q ∈ ([] : List α), p q := fun q h => by cases h
theorem mem_cons {α : Type} {p : α → Prop} {a : α} {l : List α} (h : p a) (h' : ∀ q ∈ l, p q) : ∀ q ∈ a :: l, p q := fun q hq => (List.mem_cons.1 hq).elim (fun e => e ▸ h) (h' q)
theorem TI.ok_int {P : Program} {t : TypeId} {ti : TypeInfo} {k : IntKind} {by_ : Nat} {z : Value} (h1 : P.info? t = some ti) (h2 : P.underlying t = some (.int k)) (h3 : ti.size = 1 ∧ ti.bytes = by_) (h4 : ti.zero = some z ∧ z.cells = #[.int k 0]) : TI.Ok P t ⟨.scal, 1, by_, some (.int k)⟩ :=
  ⟨⟨ti, h1, h3.1, h3.2, fun τ h => by cases h; exact ⟨rfl, z, h4.1, h4.2⟩⟩, _, h2, rfl⟩
theorem TI.ok_bool {P : Program} {t : TypeId} {ti : TypeInfo} {by_ : Nat} {z : Value} (h1 : P.info? t = some ti) (h2 : P.underlying t = some .bool) (h3 : ti.size = 1 ∧ ti.bytes = by_) (h4 : ti.zero = some z ∧ z.cells = #[.bool false]) : TI.Ok P t ⟨.scal, 1, by_, some .bool⟩ :=
  ⟨⟨ti, h1, h3.1, h3.2, fun τ h => by cases h; exact ⟨rfl, z, h4.1, h4.2⟩⟩, _, h2, rfl⟩
theorem TI.ok_str {P : Program} {t : TypeId} {ti : TypeInfo} {by_ : Nat} {z : Value} (h1 : P.info? t = some ti) (h2 : P.underlying t = some .string) (h3 : ti.size = 1 ∧ ti.bytes = by_) (h4 : ti.zero = some z ∧ z.cells = #[.string ByteArray.empty]) : TI.Ok P t ⟨.scal, 1, by_, some .str⟩ :=
  ⟨⟨ti, h1, h3.1, h3.2, fun τ h => by cases h; exact ⟨rfl, z, h4.1, h4.2⟩⟩, _, h2, rfl⟩
theorem TI.ok_slice {P : Program} {t e : TypeId} {ti : TypeInfo} {by_ : Nat} {z : Value} {τ : Ty} (h1 : P.info? t = some ti) (h2 : P.underlying t = some (.slice e)) (h3 : ti.size = 1 ∧ ti.bytes = by_) (h4 : ti.zero = some z ∧ z.cells = #[.slice none 0 0]) : TI.Ok P t ⟨.slice e, 1, by_, some (.sl e τ)⟩ :=
  ⟨⟨ti, h1, h3.1, h3.2, fun τ h => by cases h; exact ⟨rfl, z, h4.1, h4.2⟩⟩, _, h2, rfl⟩
theorem TI.ok_struct {P : Program} {t : TypeId} {ti : TypeInfo} {fa : Array Field} {fs : List (TypeId × Nat)} {sz by_ : Nat} {z : Value} {τ : Ty} (h1 : P.info? t = some ti) (h2 : P.underlying t = some (.struct fa)) (h3 : ti.size = sz ∧ ti.bytes = by_) (h4 : ti.zero = some z ∧ z.cells = τ.zv.toArray) (h5 : τ.sz = sz)
    (h6 : fs = fa.toList.map fun f => (f.type, f.offset)) (h7 : fa.toList.all (fun f => ((P.info? f.type).map (·.size)).getD 0 != 0) = true) : TI.Ok P t ⟨.struct fs, sz, by_, some τ⟩ :=
  ⟨⟨ti, h1, h3.1, h3.2, fun τ h => by cases h; exact ⟨h5, z, h4.1, h4.2⟩⟩, _, h2, fa, rfl, h6, fun f hf => by
    have := List.all_eq_true.1 h7 f hf
    cases hi : P.info? f.type with
    | none => rw [hi] at this; simp at this
    | some fi => rw [hi] at this; exact ⟨fi, rfl, by simpa using this⟩⟩
end Go.Proofs.Ytcladakiniekcaa.Lib

/- What comes out of a function, as a term: trees of tests; loops as iterations. No condition. -/
namespace Go.Proofs.Ytcladakiniekcaa.Lib
open Go Go.RowKit Go.WideShapes
set_option linter.unusedVariables false
section
variable {α V R S : Type}
def optV (o : Option α) (z : V) (v : α → V) : V := match o with | some x => v x | none => z
def optD (o : Option α) (d : α → Bool) : Bool := match o with | some x => d x | none => false
theorem tot_cond {c : Bool} {f : V → R} {A B : Option R} {x y : V} (hA : A = some (f x)) (hB : B = some (f y)) : cond c A B = some (f (cond c x y)) := by cases c <;> assumption
theorem par_some {f : V → R} (x : V) : some (f x) = cond true (some (f x)) none := rfl
theorem par_none {f : V → R} (x : V) : none = cond false (some (f x)) none := rfl
theorem par_cond {c dA dB : Bool} {f : V → R} {A B : Option R} {x y : V} (hA : A = cond dA (some (f x)) none) (hB : B = cond dB (some (f y)) none) : cond c A B = cond (cond c dA dB) (some (f (cond c x y))) none := by cases c <;> assumption
theorem par_ite {p : Prop} [Decidable p] {dA : Bool} {f : V → R} {A : Option R} {x : V} (hA : A = cond dA (some (f x)) none) : (if p then A else none) = cond (decide p && dA) (some (f x)) none := by
  by_cases hp : p
  · rw [if_pos hp, hA, decide_eq_true hp]; rfl
  · rw [if_neg hp, decide_eq_false hp]; rfl
theorem par_ifz {p : Prop} [Decidable p] {dA : Bool} {f : V → R} {A : Option R} {x : V} (hA : A = cond dA (some (f x)) none) : (if p then none else A) = cond (!decide p && dA) (some (f x)) none := by
  by_cases hp : p
  · rw [if_pos hp, decide_eq_true hp]; rfl
  · rw [if_neg hp, hA, decide_eq_false hp]; rfl
theorem par_opt {o : Option α} {f : V → R} {A : α → Option R} {d : α → Bool} {v : α → V} {z : V} (hA : ∀ x, A x = cond (d x) (some (f (v x))) none) : optC o A = cond (optD o d) (some (f (optV o z v))) none := by
  cases o with
  | none => rfl
  | some x => exact hA x
theorem bnd_cond {c : Bool} {k : S → Option R} {A B : Option S} {A' B' : Option R} (hA : A' = A.bind k) (hB : B' = B.bind k) : cond c A' B' = (cond c A B).bind k := by cases c <;> assumption
theorem bnd_ite {p : Prop} [Decidable p] {k : S → Option R} {A : Option S} {A' : Option R} (hA : A' = A.bind k) : (if p then A' else none) = (if p then A else none : Option S).bind k := by split <;> first | assumption | rfl
theorem bnd_ifz {p : Prop} [Decidable p] {k : S → Option R} {A : Option S} {A' : Option R} (hA : A' = A.bind k) : (if p then none else A') = (if p then none else A : Option S).bind k := by split <;> first | assumption | rfl
theorem bnd_opt {o : Option α} {k : S → Option R} {A : α → Option S} {A' : α → Option R} (hA : ∀ x, A' x = (A x).bind k) : optC o A' = (optC o A).bind k := by
  cases o with
  | none => rfl
  | some x => exact hA x
/-! ### iterations -/
/-- Until the step says, by its number, that it goes out. -/
def iter (s : V → Option (Nat × V)) : Nat → V → Option (Nat × V)
  | 0, _ => none
  | n + 1, v => (s v).bind fun q => match q.1 with | 0 => iter s n q.2 | c + 1 => some (c, q.2)
def iterAt (s : V → Option (Nat × V)) (n : Nat) (v : V) (c : Nat) : Bool := match iter s n v with | some q => q.1 == c | none => false
def iterV (s : V → Option (Nat × V)) (n : Nat) (v : V) : V := match iter s n v with | some q => q.2 | none => v
/-- One round's way on. -/
def kont (body : St → (Ex → St → Option R) → Option R) (m : List Bool) (keep : List Nat) (bld : V → St) (ex : List Ex) (n : Nat) (K : Ex → St → Option R) (q : Nat × V) : Option R :=
  match q.1 with | 0 => vloop body m keep n (bld q.2) K | c + 1 => K (ex.getD c .normal) (bld q.2)
theorem loop_iter {body : St → (Ex → St → Option R) → Option R} {m : List Bool} {keep : List Nat} {bld : V → St} {s : V → Option (Nat × V)} {ex : List Ex} {K : Ex → St → Option R}
    (h : ∀ n v, vloop body m keep (n + 1) (bld v) K = (s v).bind (kont body m keep bld ex n K)) : ∀ n v, vloop body m keep n (bld v) K = (iter s n v).bind fun q => K (ex.getD q.1 .normal) (bld q.2)
  | 0, v => rfl
  | n + 1, v => by
    rw [h, iter]
    cases s v with
    | none => rfl
    | some q =>
      obtain ⟨c, v'⟩ := q
      cases c with
      | zero => exact loop_iter h n v'
      | succ c => rfl
def waysOf (s : V → Option (Nat × V)) (N : Nat) (v : V) (bld : V → St) : List Ex → Nat → Ways (Ex × St)
  | [], _ => .no
  | e :: es, c => .br (iterAt s N v c) (.done (e, bld (iterV s N v))) (waysOf s N v bld es (c + 1))
theorem waysOf_run {s : V → Option (Nat × V)} {N : Nat} {v : V} {bld : V → St} {e : Ex} {st' : St} : ∀ (es : List Ex) (c : Nat), (waysOf s N v bld es c).run some = some (e, st') → ∃ i, es[i]? = some e ∧ iter s N v = some (c + i, iterV s N v) ∧ st' = bld (iterV s N v)
  | [], c, h => by cases h
  | x :: es, c, h => by
    simp only [waysOf, Ways.run] at h
    cases hc : iterAt s N v c with
    | true =>
      rw [hc] at h
      simp only [cond_true, Option.some.injEq, Prod.mk.injEq] at h
      obtain ⟨rfl, rfl⟩ := h
      refine ⟨0, rfl, ?_, rfl⟩
      unfold iterAt at hc
      unfold iterV
      cases hi : iter s N v with
      | none => rw [hi] at hc; cases hc
      | some q =>
        rw [hi] at hc
        obtain ⟨c', v'⟩ := q
        have : c' = c := by simpa using hc
        subst this
        rfl
    | false =>
      rw [hc] at h
      obtain ⟨i, h1, h2, h3⟩ := waysOf_run es (c + 1) h
      exact ⟨i + 1, by simpa using h1, by rw [h2]; simp only [Nat.add_assoc, Nat.add_comm 1 i], h3⟩
end
section
variable {P : Program} {E : Env}
/-- A loop whose rounds the step s says. -/
theorem loopOk_iter (hE : Env.Ok P E) (hm : P.follows .mixedOrders = true) {b : Code} {lt : LT} (hlt : LtOk P b lt) {ss : List SP} {gs : List (Nat × GP)} {s : StT ss gs → Option (Nat × StT ss gs)} {N : StT ss gs → Nat} {ex : List Ex} {m : List Bool} {keep : List Nat}
    (h : ∀ (n : Nat) (v : StT ss gs) (K : Ex → St → Option (Ex × St)), vloop (vcode E (vcall E drawB 0) drawB 0 b lt) m keep (n + 1) (bldSt ss gs v) K = (s v).bind (kont (vcode E (vcall E drawB 0) drawB 0 b lt) m keep (bldSt ss gs) ex n K)) :
    LoopOk P b ss gs fun v => waysOf s (N v) v (bldSt ss gs) ex 0 := by
  refine loopOk_of (draw := drawB) hE (fun call hC => drawB_ok hE hm call hC) hlt 0 0 m keep fun v e st' hv => ⟨N v, ?_⟩
  obtain ⟨i, h1, h2, h3⟩ := waysOf_run ex 0 hv
  rw [loop_iter (K := fun e st => some (e, st)) (fun n v => h n v _) (N v) v, h2, h3, Nat.zero_add]
  simp [h1]
theorem primOk_eq (hE : Env.Ok P E) (hm : P.follows .mixedOrders = true) {f : FuncId} {p : Prim} (h : ∀ v, vcall E drawB 1 f (SPs.bld (R := Unit) p.ss v).1 [] = (p.F v).run some) : PrimOk P f p :=
  primOk_of (draw := drawB) hE (fun call hC => drawB_ok hE hm call hC) fun v res out hv => ⟨1, by rw [h v]; exact hv⟩
theorem markOk_eq (hE : Env.Ok P E) (hm : P.follows .mixedOrders = true) {f : FuncId} {m : Mrk} (hwf : wfSt m.ss m.gs) (hfn : ∃ fn c, E.fn.lookup f = some fn ∧ fn.body = some c) (h : ∀ v, vmcall E drawB 0 f (bldSt m.ss m.gs v) = (m.F v).run some) : MarkOk P f m :=
  markOk_of (draw := drawB) hE (fun call hC => drawB_ok hE hm call hC) hwf hfn fun v res upd hv => ⟨0, by rw [h v]; exact hv⟩
theorem ltOk_of {g : FuncId} {f : Func} {t : LT} (hf : P.funcs[g]? = some f) (h : LtOk P (bodyOf f) t) : ∀ fn, P.funcs[g]? = some fn → LtOk P (bodyOf fn) t := fun fn hfn => by
  rw [hf] at hfn
  cases hfn
  exact h
/-- What is known of a function, the model does. -/
theorem prim_calls {f : FuncId} {p : Prim} (hp : PrimOk P f p) {v : SPs.T p.ss Unit} {b : Bool} (h : (p.F v).run some = some (.one (.bool b), [])) {W : World} {vs : List Value} (hr : All2 (rav (start W) W) (SPs.bld (R := Unit) p.ss v).1 vs) (hu : ∀ x ∈ (SPs.bld (R := Unit) p.ss v).1, ∀ d, x.uses d = false) :
    Calls P f vs.toArray W fun e w' => e = .returned (.bool b) ∧ Below W.heap.size W w' := by
  refine (hp v _ _ h (start W) W vs (fun _ _ h => h) (fun _ h => h) hr hu).2.mono fun e w' hh => ?_
  obtain ⟨v, ρ', he, hv, _, _, hb⟩ := hh
  have hv : v = .bool b := hv
  subst hv
  exact ⟨he, hb⟩
def onlyDat (ss : List SP) : Bool := ss.all fun s => match s with | .one (.dat _ _) => true | .agg ps => ps.all (fun p => match p with | .dat _ _ => true | _ => false) | _ => false
theorem bld_dat {ss : List SP} (h : onlyDat ss = true) (v : SPs.T ss Unit) : ∀ x ∈ (SPs.bld (R := Unit) ss v).1, ∀ d, x.uses d = false := by
  have hc : ∀ {R : Type} (ps : List CP) (y : CPs.T ps R) (d : Nat), ps.all (fun p => match p with | .dat _ _ => true | _ => false) = true → (CPs.bld ps y).1.any (·.uses d) = false := by
    intro R ps
    induction ps with
    | nil => intro y d h; rfl
    | cons p r ih =>
      intro y d h
      simp only [List.all_cons, Bool.and_eq_true] at h
      cases p with
      | dat t b => simp only [CPs.bld, List.any_append, cells_any, Bool.false_or]; exact ih _ d h.2
      | own j => cases h.1
      | ptr j c => cases h.1
      | und => cases h.1
      | fnc f ts => cases h.1
      | ept t => cases h.1
  have main : ∀ {R : Type} (ss : List SP) (y : SPs.T ss R), onlyDat ss = true → ∀ x ∈ (SPs.bld ss y).1, ∀ d, x.uses d = false := by
    intro R ss
    induction ss with
    | nil => intro y h x hx; simp [SPs.bld] at hx
    | cons s r ih =>
      intro y h x hx d
      simp only [onlyDat, List.all_cons, Bool.and_eq_true] at h
      cases s with
      | und => cases h.1
      | one p =>
        cases p with
        | dat t b =>
          rcases List.mem_cons.1 hx with rfl | hx
          · have := hc [.dat t b] y d rfl
            generalize (CPs.bld [.dat t b] y).1 = l at this
            unfold oneOf
            split
            · simpa [AV.uses] using this
            · rfl
          · exact ih _ h.2 x hx d
        | own j => cases h.1
        | ptr j c => cases h.1
        | und => cases h.1
        | fnc f ts => cases h.1
        | ept t => cases h.1
      | agg ps =>
        rcases List.mem_cons.1 hx with rfl | hx
        · exact hc ps y d h.1
        · exact ih _ h.2 x hx d
  exact main ss v h
theorem arg_struct' {P : Program} {t : TypeId} {fs : Array Field} {d : Ty} (ho : Opens P t d) (ht : P.underlying t = some (.struct fs)) {H : Type} {enc : TypeId × Value → H} {w : World} {b base : Nat} {r : Reach} {spare : Nat → Bool} {held : Bool} {v : Value} {x : DataW H} {ps : List MemPlace}
    (hv : Value.okWide P w r b t v) (h : DataW.Trod enc P w base spare held t v x ps) : ∃ y : d.T, rav (start w) w (.agg (d.cells true y ++ [])) v ∧ d.ok y := by
  obtain ⟨y, h1, h2⟩ := arg_struct ho ht hv h
  exact ⟨y, by rw [List.append_nil]; exact h1, h2⟩
/-- Is every id that is named there? -/
def wfB (ss : List SP) (gs : List (Nat × GP)) : Bool :=
  let ok := fun (p : CP) => match p with | .own j | .ptr j _ => gs.any (·.1 == j) | _ => true
  ss.all (fun s => match s with | .und => true | .one p => ok p | .agg ps => ps.all ok) && gs.all (fun g => match g.2 with | .arr _ _ _ => true | .box _ ps => ps.all ok)
theorem wf_of {ss : List SP} {gs : List (Nat × GP)} (h : wfB ss gs = true) : wfSt ss gs := by
  simp only [wfB, Bool.and_eq_true, List.all_eq_true] at h
  have key : ∀ (p : CP) (d : Nat), (match p with | .own j | .ptr j _ => gs.any (·.1 == j) | _ => true) = true → p.uses d = true → gs.any (·.1 == d) = true := by
    intro p d h1 h2
    cases p with
    | own j => have := eq_of_beq h2; subst this; exact h1
    | ptr j c => have := eq_of_beq h2; subst this; exact h1
    | dat t b => cases h2
    | und => cases h2
    | fnc f ts => cases h2
    | ept t => cases h2
  intro d hd
  rw [Bool.or_eq_true, List.any_eq_true, List.any_eq_true] at hd
  rcases hd with ⟨s, hs, hd⟩ | ⟨g, hg, hd⟩
  · have := h.1 s hs
    cases s with
    | und => cases hd
    | one p => exact key p d this hd
    | agg ps =>
      obtain ⟨p, hp, hd⟩ := List.any_eq_true.1 hd
      exact key p d (List.all_eq_true.1 this p hp) hd
  · have := h.2 g hg
    obtain ⟨j, g⟩ := g
    cases g with
    | arr e t b => cases hd
    | box ty ps =>
      obtain ⟨p, hp, hd⟩ := List.any_eq_true.1 hd
      exact key p d (List.all_eq_true.1 this p hp) hd
end
end Go.Proofs.Ytcladakiniekcaa.Lib

/- Iterations that map a row, compare two rows, count down a budget. No condition. -/
namespace Go.Proofs.Ytcladakiniekcaa.Lib
open Go Go.RowKit
set_option linter.unusedVariables false
theorem wrap_in {n : Int} (h0 : -9223372036854775808 ≤ n) (h1 : n ≤ 9223372036854775807) : IntKind.wrap .i64 n = n := by
  simp only [IntKind.wrap, IntKind.bits, IntKind.signed, Bool.true_and]
  split
  · rename_i h
    simp only [decide_eq_true_eq, ge_iff_le] at h
    omega
  · rename_i h
    simp only [decide_eq_true_eq, ge_iff_le] at h
    omega
theorem wrap_nat {n : Nat} (h1 : (n : Int) + 1 ≤ 9223372036854775807) : IntKind.wrap .i64 ((n : Int) + 1) = ((n + 1 : Nat) : Int) := by
  rw [wrap_in (by omega) h1]; rfl
theorem optC_some {α R : Type} (x : α) (f : α → Option R) : optC (some x) f = f x := rfl
/-- No row in it is long. -/
def Ty.short : (t : Ty) → t.T → Prop
  | .sl _ t, l => l.length ≤ 1048576 ∧ ∀ x, x ∈ l → t.short x
  | .pair a b, p => a.short p.1 ∧ b.short p.2
  | _, _ => True
section
variable {V X Y : Type}
theorem map_iter {s : V → Option (Nat × V)} {mk : Int → List Y → V} {xs : List X} {conv : X → Y}
    (h1 : ∀ (i : Nat) (out : List Y) (x : X), xs[i]? = some x → out.length = xs.length → s (mk (i : Int) out) = some (0, mk ((i + 1 : Nat) : Int) (out.set i (conv x))))
    (h2 : ∀ out : List Y, out.length = xs.length → s (mk (xs.length : Int) out) = some (1, mk (xs.length : Int) out)) :
    ∀ (k i : Nat) (out : List Y) (n : Nat), i + k = xs.length → out.length = xs.length → k < n → iter s n (mk (i : Int) out) = some (0, mk (xs.length : Int) (out.take i ++ (xs.drop i).map conv))
  | 0, i, out, n, hk, hl, hn => by
    obtain ⟨m, rfl⟩ : ∃ m, n = m + 1 := ⟨n - 1, by omega⟩
    have hi : i = xs.length := by omega
    subst hi
    rw [iter, h2 out hl]
    show some (0, mk (xs.length : Int) out) = _
    rw [List.drop_eq_nil_of_le (Nat.le_refl _), ← hl, List.take_length]
    simp
  | k + 1, i, out, n, hk, hl, hn => by
    obtain ⟨m, rfl⟩ : ∃ m, n = m + 1 := ⟨n - 1, by omega⟩
    have hi : i < xs.length := by omega
    rw [iter, h1 i out xs[i] (List.getElem?_eq_getElem hi) hl]
    show iter s m (mk ((i + 1 : Nat) : Int) (out.set i (conv xs[i]))) = _
    rw [map_iter h1 h2 k (i + 1) _ m (by omega) (by simp [hl]) (by omega)]
    have e1 : (out.set i (conv xs[i])).take (i + 1) = out.take i ++ [conv xs[i]] := by
      rw [List.take_add_one, List.take_set_of_le (Nat.le_refl i), List.getElem?_set_self (by omega)]; rfl
    rw [e1, List.append_assoc, List.drop_eq_getElem_cons hi]
    rfl
/-- Two rows are gone through side by side as long as the tests say so. -/
theorem all_iter {s : V → Option (Nat × V)} {mk : Int → V} {c : Nat} {N : Nat}
    (h1 : ∀ i : Nat, i < N → s (mk (i : Int)) = some (0, mk ((i + 1 : Nat) : Int)))
    (h2 : s (mk (N : Int)) = some (c + 1, mk (N : Int))) :
    ∀ (k i : Nat) (n : Nat), i + k = N → k < n → iter s n (mk (i : Int)) = some (c, mk (N : Int))
  | 0, i, n, hk, hn => by
    obtain ⟨m, rfl⟩ : ∃ m, n = m + 1 := ⟨n - 1, by omega⟩
    have hi : i = N := by omega
    subst hi
    rw [iter, h2]
    rfl
  | k + 1, i, n, hk, hn => by
    obtain ⟨m, rfl⟩ : ∃ m, n = m + 1 := ⟨n - 1, by omega⟩
    rw [iter, h1 i (by omega)]
    exact all_iter h1 h2 k (i + 1) m (by omega) (by omega)
/-- A row is folded. -/
theorem fold_iter {A : Type} {s : V → Option (Nat × V)} {mk : A → Int → V} {xs : List X} {f : A → X → A} {Inv : Nat → A → Prop}
    (h1 : ∀ (i : Nat) (x : X) (a : A), xs[i]? = some x → Inv i a → s (mk a (i : Int)) = some (0, mk (f a x) ((i + 1 : Nat) : Int)) ∧ Inv (i + 1) (f a x))
    (h2 : ∀ a, s (mk a (xs.length : Int)) = some (1, mk a (xs.length : Int))) :
    ∀ (k i : Nat) (a : A) (n : Nat), i + k = xs.length → k < n → Inv i a → iter s n (mk a (i : Int)) = some (0, mk ((xs.drop i).foldl f a) (xs.length : Int))
  | 0, i, a, n, hk, hn, hI => by
    obtain ⟨m, rfl⟩ : ∃ m, n = m + 1 := ⟨n - 1, by omega⟩
    have hi : i = xs.length := by omega
    subst hi
    rw [iter, h2 a, List.drop_eq_nil_of_le (Nat.le_refl _)]
    rfl
  | k + 1, i, a, n, hk, hn, hI => by
    obtain ⟨m, rfl⟩ : ∃ m, n = m + 1 := ⟨n - 1, by omega⟩
    have hi : i < xs.length := by omega
    obtain ⟨h3, h4⟩ := h1 i xs[i] a (List.getElem?_eq_getElem hi) hI
    rw [iter, h3, List.drop_eq_getElem_cons hi]
    exact fold_iter h1 h2 k (i + 1) (f a xs[i]) m (by omega) (by omega) h4
/-- A budget is counted down over a row. -/
theorem sz_iter {s : V → Option (Nat × V)} {mk : Int → Int → Int → V} {xs : List X} {g : X → Int → Int} {S : X → Prop} {B : Int}
    (hg : ∀ x ∈ xs, ∀ n, 0 ≤ n → n ≤ B → g x n ≤ n ∧ (0 ≤ g x n → S x))
    (h1 : ∀ (i : Nat) (x : X) (n r : Int), 0 ≤ n → n ≤ B → xs[i]? = some x → s (mk n r (i : Int)) = if g x n < 0 then some (1, mk (g x n) (-1) (i : Int)) else some (0, mk (g x n) r ((i + 1 : Nat) : Int)))
    (h2 : ∀ n r, s (mk n r (xs.length : Int)) = some (2, mk n r (xs.length : Int))) :
    ∀ (k i : Nat) (n r : Int) (m : Nat), i + k = xs.length → k < m → 0 ≤ n → n ≤ B →
      (∃ n' i', iter s m (mk n r (i : Int)) = some (0, mk n' (-1) i')) ∨ (∃ n', iter s m (mk n r (i : Int)) = some (1, mk n' r (xs.length : Int)) ∧ 0 ≤ n' ∧ n' ≤ n ∧ ∀ (j : Nat) (x : X), i ≤ j → xs[j]? = some x → S x)
  | 0, i, n, r, m, hk, hm, h0, hB => by
    obtain ⟨m, rfl⟩ : ∃ q, m = q + 1 := ⟨m - 1, by omega⟩
    have hi : i = xs.length := by omega
    subst hi
    refine .inr ⟨n, by rw [iter, h2]; rfl, h0, Int.le_refl _, fun j x hj hx => ?_⟩
    have := (List.getElem?_eq_some_iff.1 hx).1
    omega
  | k + 1, i, n, r, m, hk, hm, h0, hB => by
    obtain ⟨m, rfl⟩ : ∃ q, m = q + 1 := ⟨m - 1, by omega⟩
    have hi : i < xs.length := by omega
    have hx := List.getElem?_eq_getElem hi
    obtain ⟨g1, g2⟩ := hg xs[i] (List.getElem_mem hi) n h0 hB
    have h3 := h1 i xs[i] n r h0 hB hx
    by_cases hn : g xs[i] n < 0
    · rw [if_pos hn] at h3
      exact .inl ⟨_, _, by rw [iter, h3]; rfl⟩
    · rw [if_neg hn] at h3
      have e : iter s (m + 1) (mk n r (i : Int)) = iter s m (mk (g xs[i] n) r ((i + 1 : Nat) : Int)) := by rw [iter, h3]; rfl
      rw [e]
      rcases sz_iter hg h1 h2 k (i + 1) (g xs[i] n) r m (by omega) (by omega) (by omega) (by omega) with h | ⟨n', h4, h5, h6, h7⟩
      · exact .inl h
      · refine .inr ⟨n', h4, h5, by omega, fun j x hj hxj => ?_⟩
        by_cases hji : j = i
        · subst hji
          rw [hx] at hxj
          cases hxj
          exact g2 (by omega)
        · exact h7 j x (by omega) hxj
theorem at_of {s : V → Option (Nat × V)} {n : Nat} {v v' : V} {c : Nat} (h : iter s n v = some (c, v')) (d : Nat) : iterAt s n v d = (c == d) := by unfold iterAt; rw [h]
theorem val_of {s : V → Option (Nat × V)} {n : Nat} {v v' : V} {c : Nat} (h : iter s n v = some (c, v')) : iterV s n v = v' := by unfold iterV; rw [h]
/-- The first of k numbers from i on at which p holds. -/
def first (p : Nat → Bool) : Nat → Nat → Option Nat
  | _, 0 => none
  | i, k + 1 => bif p i then some i else first p (i + 1) k
theorem first_none {p : Nat → Bool} : ∀ {k i : Nat}, first p i k = none → ∀ j, i ≤ j → j < i + k → p j = false
  | 0, i, _, j, h1, h2 => by omega
  | k + 1, i, h, j, h1, h2 => by
    simp only [first] at h
    cases hp : p i with
    | true => rw [hp] at h; cases h
    | false =>
      rw [hp] at h
      by_cases hj : j = i
      · subst hj; exact hp
      · exact first_none (k := k) (i := i + 1) h j (by omega) (by omega)
theorem first_some {p : Nat → Bool} : ∀ {k i j : Nat}, first p i k = some j → i ≤ j ∧ j < i + k ∧ p j = true
  | 0, i, j, h => by cases h
  | k + 1, i, j, h => by
    simp only [first] at h
    cases hp : p i with
    | true => rw [hp] at h; cases h; exact ⟨by omega, by omega, hp⟩
    | false =>
      rw [hp] at h
      obtain ⟨h1, h2, h3⟩ := first_some (k := k) (i := i + 1) h
      exact ⟨by omega, by omega, h3⟩
/-- A search: the first number at which p holds ends it. -/
theorem find_iter {s : V → Option (Nat × V)} {mk : Int → V} {fin : Nat → V} {p : Nat → Bool} {N : Nat}
    (h1 : ∀ i : Nat, i < N → s (mk (i : Int)) = bif p i then some (1, fin i) else some (0, mk ((i + 1 : Nat) : Int)))
    (h2 : s (mk (N : Int)) = some (2, mk (N : Int))) :
    ∀ (k i : Nat) (n : Nat), i + k = N → k < n → iter s n (mk (i : Int)) = some (match first p i k with | some j => (0, fin j) | none => (1, mk (N : Int)))
  | 0, i, n, hk, hn => by
    obtain ⟨m, rfl⟩ : ∃ m, n = m + 1 := ⟨n - 1, by omega⟩
    have hi : i = N := by omega
    subst hi
    rw [iter, h2]
    rfl
  | k + 1, i, n, hk, hn => by
    obtain ⟨m, rfl⟩ : ∃ m, n = m + 1 := ⟨n - 1, by omega⟩
    rw [iter, h1 i (by omega)]
    simp only [first]
    cases hp : p i with
    | true => rfl
    | false => exact find_iter h1 h2 k (i + 1) m (by omega) (by omega)
/-- Do two lists agree at all places? -/
theorem first_lists {q : X → X → Bool} [DecidableEq X] (hq : ∀ x y, q x y = !decide (x = y)) {xs ys : List X} (hl : xs.length = ys.length) {p : Nat → Bool} (hp : ∀ (i : Nat) (x y : X), xs[i]? = some x → ys[i]? = some y → p i = q x y) : (first p 0 xs.length).isNone = decide (xs = ys) := by
  cases h : first p 0 xs.length with
  | none =>
    have h0 := first_none h
    have : xs = ys := by
      apply List.ext_getElem hl
      intro i h1 h2
      have := hp i xs[i] ys[i] (List.getElem?_eq_getElem h1) (List.getElem?_eq_getElem h2)
      rw [h0 i (Nat.zero_le _) (by omega), hq] at this
      simpa using this.symm
    simp [this]
  | some j =>
    obtain ⟨h1, h2, h3⟩ := first_some h
    have hj : j < xs.length := by omega
    have := hp j xs[j] ys[j] (List.getElem?_eq_getElem hj) (List.getElem?_eq_getElem (hl ▸ hj))
    rw [h3, hq] at this
    have hne : xs ≠ ys := by
      rintro rfl
      simp at this
    simp [hne]
theorem first_any {p : X → Bool} {xs : List X} {q : Nat → Bool} (hq : ∀ (i : Nat) (x : X), xs[i]? = some x → q i = p x) : (first q 0 xs.length).isSome = xs.any p := by
  cases h : first q 0 xs.length with
  | none =>
    have h0 := first_none h
    symm
    rw [Option.isSome_none, List.any_eq_false]
    intro x hx
    obtain ⟨i, hi⟩ := List.getElem?_of_mem hx
    have hlt := (List.getElem?_eq_some_iff.1 hi).1
    rw [← hq i x hi, h0 i (Nat.zero_le _) (by omega)]
    simp
  | some j =>
    obtain ⟨h1, h2, h3⟩ := first_some h
    have hj : j < xs.length := by omega
    symm
    rw [Option.isSome_some, List.any_eq_true]
    exact ⟨xs[j], List.getElem_mem hj, by rw [← hq j _ (List.getElem?_eq_getElem hj)]; exact h3⟩
end
end Go.Proofs.Ytcladakiniekcaa.Lib

