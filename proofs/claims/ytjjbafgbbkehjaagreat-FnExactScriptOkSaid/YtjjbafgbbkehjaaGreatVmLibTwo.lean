/- An interpreter over plain values for translated functions, and that it says what the model does (calls, statements, loops, arguments). No condition. -/
import Derived.Test.YtjjbafgbbkehjaaGreatVmLibOne
import Derived.Great.BuildSlice
import Derived.KernelRfl
/- Appends. No condition. -/
namespace Go.Proofs.YtjjbafgbbkehjaaGreat.Lib
open Go Go.RowKit
set_option linter.unusedVariables false
set_option linter.unusedSimpArgs false
/-- A slice value whose elements can be read. -/
def Row (ok : Nat → Prop) (w : World) (t : Ty) (l : List t.T) (v : Value) : Prop :=
  ∃ A c, v = .slice A l.length c ∧ (0 < l.length → ∃ ad : Addr, A = some ad ∧ ∀ i x, l[i]? = some x → ∃ c, c.length = t.sz ∧ Rp ok w t x c ∧ ∀ q u, c[q]? = some u → w.cell? (ad.add (i * t.sz + q)) = some u)
theorem Row.of_Rp {ok : Nat → Prop} {w : World} {e : TypeId} {t : Ty} {l : List t.T} {v : Value} (h : Rp ok w (.sl e t) l [v]) : Row ok w t l v := by
  simp only [Rp] at h
  obtain ⟨A, c, h1, _, _, h2⟩ := h
  simp only [List.cons.injEq, and_true] at h1
  refine ⟨A, c, h1, fun hp => ?_⟩
  obtain ⟨ad, h3, _, h4⟩ := h2 hp
  exact ⟨ad, h3, h4⟩
theorem Row.of_own {ok : Nat → Prop} {w : World} {e : TypeId} {t : Ty} {l : List t.T} {v : Value} {xs : List Value} {g : Option Nat} (hx : Elems ok w t l xs)
    (h : match g with | some g => w.ownsRow 0 e t.sz v l.length xs ∧ v.ownBlock = some g | none => l = [] ∧ ∃ A, v = .slice A 0 0) : Row ok w t l v := by
  cases g with
  | none =>
    obtain ⟨rfl, A, rfl⟩ := h
    exact ⟨A, 0, rfl, fun hp => absurd hp (by simp)⟩
  | some g =>
    obtain ⟨ho, hg⟩ := h
    rcases ho.2 with ⟨rfl, _⟩ | ⟨g', cap, cur, rfl, _⟩
    · cases hg
    · refine ⟨_, cap, rfl, fun hp => ⟨_, rfl, fun i x hxi => ⟨_, (hx.2 i x hxi).len, hx.2 i x hxi, fun q u hq => ?_⟩⟩⟩
      rw [List.getElem?_take] at hq
      split at hq
      · rw [List.getElem?_drop] at hq
        exact ho.cells (g := g') rfl _ u hq
      · cases hq
theorem Row.sub {ok : Nat → Prop} {w : World} {t : Ty} {l : List t.T} {A : Option Addr} {c off len : Nat} {v : Value} (h : Row ok w t l (.slice A l.length c)) (hle : off + len ≤ l.length) (hv : subV A c t.sz off len v) : Row ok w t ((l.drop off).take len) v := by
  obtain ⟨A', c', h1, h4⟩ := h
  simp only [Value.slice.injEq, true_and] at h1
  obtain ⟨rfl, rfl⟩ := h1
  have hl : ((l.drop off).take len).length = len := by rw [List.length_take, List.length_drop]; omega
  have hget : ∀ i x, ((l.drop off).take len)[i]? = some x → i < len ∧ l[off + i]? = some x := by
    intro i x hx
    rw [List.getElem?_take] at hx
    split at hx
    · rw [List.getElem?_drop] at hx; exact ⟨by assumption, hx⟩
    · cases hx
  rcases hv with ⟨rfl, rfl⟩ | ⟨h5, h6, ad, rfl, rfl⟩ | ⟨rfl, _, A', c', rfl, hc'⟩
  · refine ⟨A, c, by rw [hl], fun hp => ?_⟩
    obtain ⟨ad, hA, hr⟩ := h4 (by omega)
    refine ⟨ad, hA, fun i x hx => ?_⟩
    have := (hget i x hx).2
    rw [Nat.zero_add] at this
    exact hr i x this
  · refine ⟨some (ad.add (off * t.sz)), c - off, by rw [hl], fun hp => ?_⟩
    obtain ⟨ad', hA, hr⟩ := h4 (by omega)
    cases hA
    refine ⟨_, rfl, fun i x hx => ?_⟩
    obtain ⟨cs, hcl, hcr, hcc⟩ := hr _ x (hget i x hx).2
    refine ⟨cs, hcl, hcr, fun q u hq => ?_⟩
    rw [addr_add_add, ← Nat.add_assoc, ← Nat.add_mul]
    exact hcc q u hq
  · exact ⟨A', c', by simp, fun hp => by simp at hp⟩
theorem Elems.cons {ok : Nat → Prop} {w : World} {t : Ty} {x : t.T} {l : List t.T} {c xs : List Value} (h0 : Rp ok w t x c) (h : Elems ok w t l xs) : Elems ok w t (x :: l) (c ++ xs) := by
  have hc := h0.len
  refine ⟨by rw [List.length_append, List.length_cons, hc, h.1, Nat.succ_mul]; omega, fun j p hp => ?_⟩
  cases j with
  | zero =>
    simp only [List.getElem?_cons_zero, Option.some.injEq] at hp
    subst hp
    rw [Nat.zero_mul, List.drop_zero, ← hc, List.take_left]
    exact h0
  | succ j =>
    rw [List.getElem?_cons_succ] at hp
    have := h.2 j p hp
    rw [Nat.succ_mul, Nat.add_comm, ← hc, ← List.drop_drop, List.drop_left, hc]
    exact this
theorem Elems.append {ok : Nat → Prop} {w : World} {t : Ty} {m : List t.T} {ys : List Value} (hm : Elems ok w t m ys) : ∀ {l : List t.T} {xs : List Value}, Elems ok w t l xs → Elems ok w t (l ++ m) (xs ++ ys)
  | [], xs, h => by
    have : xs = [] := List.eq_nil_of_length_eq_zero (by simpa using h.1)
    subst this
    exact hm
  | x :: l, xs, h => by
    have hl := h.1
    rw [List.length_cons, Nat.succ_mul] at hl
    have h0 := h.2 0 x rfl
    rw [Nat.zero_mul, List.drop_zero] at h0
    have hd : Elems ok w t l (xs.drop t.sz) := by
      refine ⟨by rw [List.length_drop]; omega, fun j p hp => ?_⟩
      have := h.2 (j + 1) p (by simpa using hp)
      rwa [Nat.succ_mul, Nat.add_comm, ← List.drop_drop] at this
    have := Elems.cons h0 (Elems.append hm hd)
    rw [← List.append_assoc, List.take_append_drop] at this
    exact this
theorem elems_take {ok : Nat → Prop} {w : World} {t : Ty} {l : List t.T} {xs : List Value} (h : Elems ok w t l xs) {n : Nat} (hn : n ≤ l.length) : Elems ok w t (l.take n) (xs.take (n * t.sz)) := by
  have hle : n * t.sz ≤ l.length * t.sz := Nat.mul_le_mul_right _ hn
  refine ⟨by rw [List.length_take, List.length_take, h.1]; rw [Nat.min_eq_left hn]; omega, fun j p hp => ?_⟩
  rw [List.getElem?_take] at hp
  split at hp
  · rename_i hj
    have hj' : j * t.sz + t.sz ≤ n * t.sz := by rw [← Nat.succ_mul]; exact Nat.mul_le_mul_right _ hj
    have := h.2 j p hp
    have he : (((xs.take (n * t.sz)).drop (j * t.sz)).take t.sz) = (xs.drop (j * t.sz)).take t.sz := by
      rw [List.drop_take, List.take_take, Nat.min_eq_left (by omega)]
    rw [he]
    exact this
  · cases hp
theorem row_flat {ok : Nat → Prop} {w : World} {t : Ty} (ad : Addr) : ∀ (l : List t.T) (o : Nat), (∀ i x, l[i]? = some x → ∃ c, c.length = t.sz ∧ Rp ok w t x c ∧ ∀ q u, c[q]? = some u → w.cell? (ad.add (o + (i * t.sz + q))) = some u) →
    ∃ news, Elems ok w t l news ∧ (∀ j u, news[j]? = some u → w.cell? (ad.add (o + j)) = some u) ∧ ∀ u ∈ news, u.oneCell' = true
  | [], o, h => ⟨[], ⟨by simp, fun j p hp => by simp at hp⟩, fun j u hu => by simp at hu, fun u hu => by cases hu⟩
  | x :: l, o, h => by
    obtain ⟨c, h1, h2, h3⟩ := h 0 x rfl
    obtain ⟨news, h4, h5, h6⟩ := row_flat ad l (o + t.sz) (fun i x hx => by
      obtain ⟨c, h1, h2, h3⟩ := h (i + 1) x (by simpa using hx)
      refine ⟨c, h1, h2, fun q u hu => ?_⟩
      have := h3 q u hu
      rwa [show o + ((i + 1) * t.sz + q) = o + t.sz + (i * t.sz + q) by rw [Nat.succ_mul]; omega] at this)
    refine ⟨c ++ news, Elems.cons h2 h4, fun j u hu => ?_, fun u hu => ?_⟩
    · rcases Nat.lt_or_ge j c.length with hj | hj
      · rw [List.getElem?_append_left hj] at hu
        have := h3 j u hu
        rwa [Nat.zero_mul, Nat.zero_add] at this
      · rw [List.getElem?_append_right hj] at hu
        have := h5 _ u hu
        rwa [show o + t.sz + (j - c.length) = o + j by omega] at this
    · rcases List.mem_append.1 hu with hu | hu
      · exact h2.one u hu
      · exact h6 u hu
/-- What a row of one's own is, by its own block (none: nothing in it yet). -/
def Own (w : World) (e : TypeId) (sz : Nat) (v : Value) (n : Nat) (xs : List Value) : Option Nat → Prop
  | some g => w.ownsRow 0 e sz v n xs ∧ v.ownBlock = some g
  | none => n = 0 ∧ xs = [] ∧ ∃ A, v = .slice A 0 0
theorem append_run {P : Program} {w : World} {t e ty : TypeId} {ti : TypeInfo} {z : Value} {τ : Ty} (ht : P.underlying t = some (.slice e)) (hi : P.info? e = some ti) (hz : ti.zero = some z) (hsz : ti.size = τ.sz) (hzc : z.cells.size = τ.sz)
    {v : Value} {n : Nat} {xs : List Value} {g : Option Nat} (hv : Own w e τ.sz v n xs g) {ok : Nat → Prop} {m : List τ.T} {u : Value} (hu : Row ok w τ m u) (hle : (n + m.length) * ti.bytes ≤ 140737488351232) (hby : ti.bytes ≠ 0) :
    ∃ v' w' g' news, (Builtin.append_ #[t, t] ty #[v, u]).run P w = .ok v' w' ∧ Elems ok w τ m news ∧ Own w' e τ.sz v' (n + m.length) (xs ++ news) g' ∧
      w'.os = w.os ∧ w'.tape = w.tape ∧ w'.output = w.output ∧ w.heap.size ≤ w'.heap.size ∧ (∀ k, k < w.heap.size → g ≠ some k → w'.heap[k]? = w.heap[k]?) ∧ (∀ k, g' = some k → g = some k ∨ w.heap.size ≤ k) := by
  have h63 : n + m.length ≤ maxLen := by
    have := Nat.le_trans (Nat.le_mul_of_pos_right (n + m.length) (Nat.pos_of_ne_zero hby)) hle
    unfold maxLen; omega
  obtain ⟨A, c, rfl, hr⟩ := hu
  rcases Nat.eq_zero_or_pos m.length with hm | hm
  · have hm' : m = [] := List.eq_nil_of_length_eq_zero hm
    subst hm'
    refine ⟨v, w, g, [], ?_, ⟨by simp, fun j p hp => by simp at hp⟩, by simpa using hv, rfl, rfl, rfl, Nat.le_refl _, fun _ _ _ => rfl, fun k hk => .inl hk⟩
    have hform : ∃ B n' cap, v = .slice B n' cap ∧ n' ≤ cap := by
      cases g with
      | none => obtain ⟨_, _, A, rfl⟩ := hv; exact ⟨A, 0, 0, rfl, Nat.le_refl _⟩
      | some g =>
        rcases hv.1.2 with ⟨rfl, _⟩ | ⟨g', cap, cur, rfl, _, _, h, _⟩
        · exact ⟨_, _, _, rfl, Nat.le_refl _⟩
        · exact ⟨_, _, _, rfl, h⟩
    obtain ⟨B, n', cap, rfl, hle'⟩ := hform
    cases A <;> cases B <;> simp [Builtin.append_, run_underlying ht, sizeOf, typeInfo, hi, Builtin.lenOf, Builtin.firstCells, Go.loadCells, loadCellsFrom, hle', storeCells]
  · obtain ⟨ad, hA, hrd⟩ := hr hm
    subst hA
    obtain ⟨news, h1, h2, h3⟩ := row_flat ad m 0 (fun i x hx => by
      obtain ⟨c, h1, h2, h3⟩ := hrd i x hx
      exact ⟨c, h1, h2, fun q u hu => by rw [Nat.zero_add]; exact h3 q u hu⟩)
    simp only [Nat.zero_add] at h2
    have own : ∀ (hw : w.ownsRow 0 e τ.sz v n xs), g = v.ownBlock → ∃ v' w' g' news, (Builtin.append_ #[t, t] ty #[v, .slice (some ad) m.length c]).run P w = .ok v' w' ∧ Elems ok w τ m news ∧ Own w' e τ.sz v' (n + m.length) (xs ++ news) g' ∧
      w'.os = w.os ∧ w'.tape = w.tape ∧ w'.output = w.output ∧ w.heap.size ≤ w'.heap.size ∧ (∀ k, k < w.heap.size → g ≠ some k → w'.heap[k]? = w.heap[k]?) ∧ (∀ k, g' = some k → g = some k ∨ w.heap.size ≤ k) := by
      intro hw hg
      obtain ⟨v', w', hrun, ho, hgr, hnil⟩ := run_append_own (P := P) w 0 t ty e ti z τ.sz ti.bytes ht hi hz hsz rfl hzc (Ty.sz_pos τ) v n xs hw ad m.length c news h1.1 h2 h3 h63 (by omega) (Nat.zero_le _)
      have hob : ∃ k, v'.ownBlock = some k := by
        rcases ho.2 with ⟨_, h⟩ | ⟨g', cap, cur, rfl, _⟩
        · omega
        · exact ⟨g', rfl⟩
      obtain ⟨k, hk⟩ := hob
      refine ⟨v', w', some k, news, hrun, h1, ⟨ho, hk⟩, hgr.os, hgr.tape, hgr.output, hgr.size, fun k' hk' hne => hgr.block k' hk' (by rw [← hg]; exact Ne.symm hne), fun k' hk' => ?_⟩
      cases hk'
      by_cases hlt : k < w.heap.size
      · left
        have hl : news.length = m.length * ti.size := by rw [h1.1, hsz]
        rcases hw.2 with ⟨rfl, rfl⟩ | ⟨g0, cap, cur, rfl, hb0, hg0, hnc, hcm, hcs, htake⟩
        · have hr := run_append_nil (P := P) w t ty e ti z ht hi hz ad m.length c news hl h2 hm (by unfold maxLen at h63; omega) (by simp only [Nat.zero_add] at hle; omega)
          rw [hrun] at hr
          cases hr
          simp only [Value.ownBlock, Option.some.injEq] at hk
          omega
        · by_cases hroom : n + m.length ≤ cap
          · have hr := run_append_room (P := P) w t ty e ti ht hi g0 n cap cur hg0 ad m.length c news hl h2 h3 hroom (by rw [hl, hcs, hsz, ← Nat.add_mul]; exact Nat.mul_le_mul_right _ hroom)
            rw [hrun] at hr
            cases hr
            rw [hg, ← hk]
            rfl
          · have hr := run_append_grow (P := P) w t ty e ti z ht hi hz ⟨g0, 0, none⟩ n cap xs (by rw [hw.1, hsz]) (hw.cells (g := g0) rfl) ad m.length c news hl h2 (by omega) (by unfold maxLen at h63; omega) (growslice_fits (by omega) (by omega))
            rw [hrun] at hr
            cases hr
            simp only [Value.ownBlock, Option.some.injEq] at hk
            omega
      · right; omega
    cases g with
    | some g => exact own hv.1 hv.2.symm
    | none =>
      obtain ⟨rfl, rfl, A, rfl⟩ := hv
      cases A with
      | none => exact own (World.ownsRow_nil w 0 e τ.sz) rfl
      | some a0 =>
        have hr := run_append_grow (P := P) w t ty e ti z ht hi hz a0 0 0 [] (by simp) (fun j u hu => by simp at hu) ad m.length c news (by rw [h1.1, hsz]) h2 (by omega) (by unfold maxLen at h63; omega) (growslice_fits (by omega) (by omega))
        have hge := grownCap_ge w (0 + m.length) 0 e
        have hcm := grownCap_le_maxLen w (0 + m.length) 0 e h63
        refine ⟨_, _, some w.heap.size, news, hr, h1, ⟨⟨?_, .inr ⟨w.heap.size, _, _, rfl, Nat.zero_le _, heap_alloc_new w.drew _, hge, hcm, ?_, ?_⟩⟩, rfl⟩, rfl, rfl, rfl, by simp, fun k hk _ => heap_alloc_old w.drew _ hk, fun k hk => .inr (by cases hk; exact Nat.le_refl _)⟩
        · simp [h1.1]
        · simp only [Array.size_append, List.size_toArray, size_zeroCells, hzc, h1.1, List.length_nil, Nat.zero_add, ← Nat.add_mul] at hge ⊢
          congr 1
          omega
        · simp only [Array.toList_append, List.append_assoc, List.nil_append, Nat.zero_add]
          rw [← h1.1]
          exact List.take_left
end Go.Proofs.YtjjbafgbbkehjaaGreat.Lib

/- Handles struck, and appends. No condition. -/
namespace Go.Proofs.YtjjbafgbbkehjaaGreat.Lib
open Go Go.RowKit
set_option linter.unusedVariables false
set_option linter.unusedSimpArgs false
theorem strike_uses {p : Nat → Bool} {c : Cell} {d : Nat} (h : (c.strike p).uses d = true) : c.uses d = true ∧ p d = false := by
  cases c <;> simp only [Cell.strike] at h
  case sl j =>
    cases hp : p j with
    | true => rw [hp] at h; cases h
    | false => rw [hp] at h; have hj : (j == d) = true := h; exact ⟨hj, by rw [← eq_of_beq hj]; exact hp⟩
  case sub j o n =>
    cases hp : p j with
    | true => rw [hp] at h; cases h
    | false => rw [hp] at h; have hj : (j == d) = true := h; exact ⟨hj, by rw [← eq_of_beq hj]; exact hp⟩
  case ptr j i c =>
    cases hp : p j with
    | true => rw [hp] at h; cases h
    | false => rw [hp] at h; have hj : (j == d) = true := h; exact ⟨hj, by rw [← eq_of_beq hj]; exact hp⟩
  case fnp f js =>
    cases hp : js.any p with
    | true => rw [hp] at h; cases h
    | false =>
      rw [hp] at h
      have hj : js.contains d = true := h
      refine ⟨hj, ?_⟩
      rw [List.any_eq_false] at hp
      simpa using hp d (by simpa using hj)
  all_goals cases h
theorem strike_rc {ρ : CEnv} {w : World} {p : Nat → Bool} {c : Cell} {v : Value} (h : rc ρ w c v) : rc ρ w (c.strike p) v := by
  cases c <;> simp only [Cell.strike] <;> first | exact h | skip
  case sl j => cases p j <;> first | exact h | exact trivial
  case sub j o n => cases p j <;> first | exact h | exact trivial
  case ptr j i c => cases p j <;> first | exact h | exact trivial
  case fnp f js => cases js.any p <;> first | exact h | exact trivial
theorem strike_cells {ρ : CEnv} {w : World} {p : Nat → Bool} {cs : List Cell} {vs : List Value} (h : All2 (rc ρ w) cs vs) : All2 (rc ρ w) (cs.map (·.strike p)) vs :=
  h.map_left _ (fun _ _ _ h => strike_rc h)
theorem strike_rav {ρ : CEnv} {w : World} {p : Nat → Bool} {c : AV} {v : Value} (h : rav ρ w c v) : rav ρ w (c.strike p) v := by
  cases c with
  | one c => exact strike_rc h
  | agg cs => obtain ⟨vs, h0, h1⟩ := h; exact ⟨vs, h0, strike_cells h1⟩
  | tup ps =>
    obtain ⟨vs, h0, h1⟩ := h
    refine ⟨vs, h0, h1.map_left _ fun q v _ h => ?_⟩
    obtain ⟨g, cs⟩ := q
    cases g with
    | true => obtain ⟨vs, h0, h1⟩ := h; exact ⟨vs, h0, strike_cells h1⟩
    | false => obtain ⟨c, rfl, h⟩ := h; exact ⟨c.strike p, rfl, strike_rc h⟩
theorem strike_any {p : Nat → Bool} {cs : List Cell} {d : Nat} (h : (cs.map (·.strike p)).any (·.uses d) = true) : cs.any (·.uses d) = true ∧ p d = false := by
  obtain ⟨c, hc, hd⟩ := List.any_eq_true.1 h
  obtain ⟨c', hc', rfl⟩ := List.mem_map.1 hc
  obtain ⟨h1, h2⟩ := strike_uses hd
  exact ⟨List.any_eq_true.2 ⟨c', hc', h1⟩, h2⟩
theorem strike_av {p : Nat → Bool} {v : AV} {d : Nat} (h : (v.strike p).uses d = true) : v.uses d = true ∧ p d = false := by
  cases v with
  | one c => exact strike_uses h
  | agg cs => exact strike_any h
  | tup ps =>
    obtain ⟨q, hq, hd⟩ := List.any_eq_true.1 h
    obtain ⟨q', hq', rfl⟩ := List.mem_map.1 hq
    obtain ⟨h1, h2⟩ := strike_any hd
    exact ⟨List.any_eq_true.2 ⟨q', hq', h1⟩, h2⟩
theorem strike_blk {p : Nat → Bool} {b : Blk} {d : Nat} (h : (b.strike p).uses d = true) : b.uses d = true ∧ p d = false := by
  cases b with
  | box t cs => exact strike_any h
  | _ => cases h
section
variable {P : Program} {E : Env} {B : Nat} {O : Ow} {w0 w w' : World} {ρ ρ' : CEnv} {a : Act} {R : Type} {r : R} {sg sg' : Sig} {st : St}
theorem strike_rblk {p : Nat → Bool} {j : Nat} {b : Blk} (h : rblk ρ w j b) : rblk ρ w j (b.strike p) := by
  cases b with
  | box t cs => obtain ⟨g, vs, h0, h1, h2⟩ := h; exact ⟨g, vs, h0, h1, strike_cells h2⟩
  | arr e t l b => exact h
  | fro e t l b => exact h
theorem Mem.strike (h : Mem B O ρ sg w) {p : Nat → Bool} (hs : ∀ i b', sg'.get i = some b' → ∃ b, sg.get i = some b ∧ b' = b.strike p) (hd : ∀ d, (sg.get d).isSome = true → p d = false → (sg'.get d).isSome = true) : Mem B O ρ sg' w := by
  have hown : ∀ i g, Owns ρ sg' i g → Owns ρ sg i g := by
    intro i g ho
    obtain ⟨b', h1, h2, h3⟩ := owns_iff.1 ho
    obtain ⟨b, h4, rfl⟩ := hs i b' h1
    refine owns_iff.2 ⟨b, h4, ?_, ?_⟩
    · rintro e t l q rfl
      exact h2 e t l q rfl
    · cases b with
      | box ty cs =>
        rcases h3 with ⟨_, _, _, h3⟩ | ⟨_, _, _, _, h3, _⟩
        · exact .inl ⟨_, _, rfl, h3⟩
        · cases h3
      | arr e t l q =>
        rcases h3 with ⟨_, _, h3, _⟩ | ⟨_, _, _, _, _, h3⟩
        · cases h3
        · exact .inr ⟨_, _, _, _, rfl, h3⟩
      | fro e t l q => exact absurd rfl (h2 e t l q)
  exact ⟨fun i b' hi => by obtain ⟨b, h1, rfl⟩ := hs i b' hi; exact strike_rblk (h.blk i b h1), fun i k g hi hk => h.inj i k g (hown i g hi) (hown k g hk), fun i g hi => h.old i g (hown i g hi), h.okb,
    fun q g hq i hi => h.oko q g hq i (hown i g hi), h.okm, h.okx, h.oky, fun i b' d hi hu => by
      obtain ⟨b, h1, rfl⟩ := hs i b' hi
      obtain ⟨h2, h3⟩ := strike_blk hu
      exact hd d (h.dom i b d h1 h2) h3⟩
theorem Sim.loosen (h : Sim B O w0 ρ st a w) (j : Nat) : Sim B O w0 ρ (st.loosen j) a w := by
  have hget : ∀ i, Sig.get i (st.loosen j).sg = (st.sg.get i).map (·.strike (· == j)) := fun i => Sig.get_map _ _ _
  refine ⟨h.mem.strike (p := (· == j)) (fun i b' hi => ?_) (fun d hd _ => ?_), by simp [St.loosen, h.len], fun i v hi => ?_, fun i v d hi hd => ?_, h.defers, h.fr, h.base, h.pin⟩
  · rw [hget, Option.map_eq_some_iff] at hi
    obtain ⟨b, h1, h2⟩ := hi
    exact ⟨b, h1, h2.symm⟩
  · rw [hget, Option.isSome_map]; exact hd
  · simp only [St.loosen, List.getElem?_map, Option.map_eq_some_iff] at hi
    obtain ⟨v', h1, rfl⟩ := hi
    obtain ⟨u, h2, h3⟩ := h.sl i v' h1
    exact ⟨u, h2, strike_rav h3⟩
  · simp only [St.loosen, List.getElem?_map, Option.map_eq_some_iff] at hi
    obtain ⟨v', h1, rfl⟩ := hi
    rw [hget, Option.isSome_map]
    exact h.dom i v' d h1 (strike_av hd).1
theorem row_sound (h : Mem B O ρ sg w) {τ : Ty} {c : Cell} {u : Value} {l : List τ.T} {b : Bool} (hr : rowOf τ sg c = some (l, b)) (hc : rc ρ w c u) : Row (ρ.ok b) w τ l u := by
  have own : ∀ {j : Nat} {e : TypeId} {l : List τ.T} {b : Bool}, sg.get j = some (.arr e τ l b) → ∃ v g, ρ.loc j = .arr v g τ.sz ∧ Row (ρ.ok b) w τ l v := by
    intro j e l b hj
    obtain ⟨v, g, xs, h1, h2, h3⟩ := h.blk j _ hj
    exact ⟨v, g, h1, Row.of_own h2 h3⟩
  have fro : ∀ {j : Nat} {e : TypeId} {l : List τ.T} {b : Bool}, sg.get j = some (.fro e τ l b) → ∃ v g, ρ.loc j = .arr v g τ.sz ∧ Row (ρ.ok b) w τ l v := by
    intro j e l b hj
    obtain ⟨v, g, h1, h2⟩ := h.blk j _ hj
    exact ⟨v, g, h1, Row.of_Rp h2⟩
  have sub : ∀ {j o n : Nat} {l : List τ.T} {b : Bool} {u v : Value} {g : Option Nat}, ρ.loc j = .arr v g τ.sz → Row (ρ.ok b) w τ l v → rc ρ w (.sub j o n) u → Row (ρ.ok b) w τ ((l.drop o).take n) u := by
    intro j o n l b u v g h1 h2 hc
    obtain ⟨A, m, cp, g', sz, h3, h4, h5⟩ := hc
    rw [h1] at h3; cases h3
    have h6 := h2
    obtain ⟨A', c', h6, _⟩ := h6
    cases h6
    exact Row.sub h2 h4 h5
  unfold rowOf at hr
  split at hr
  · cases hr; exact ⟨none, 0, hc, fun hp => by simp at hp⟩
  · cases hr
    obtain ⟨A, hc⟩ := hc
    exact ⟨A, 0, hc, fun hp => by simp at hp⟩
  · split at hr
    · rename_i ht
      subst ht
      cases hr
      exact Row.of_Rp hc
    · cases hr
  · rename_i j
    split at hr
    · rename_i e t' l' b' hj
      split at hr
      · rename_i ht
        subst ht
        cases hr
        obtain ⟨v, g, h1, h2⟩ := own hj
        obtain ⟨g', sz, h3⟩ := hc
        rw [h1] at h3; cases h3
        exact h2
      · cases hr
    · rename_i e t' l' b' hj
      split at hr
      · rename_i ht
        subst ht
        cases hr
        obtain ⟨v, g, h1, h2⟩ := fro hj
        obtain ⟨g', sz, h3⟩ := hc
        rw [h1] at h3; cases h3
        exact h2
      · cases hr
    · cases hr
  · rename_i j o n
    split at hr
    · rename_i e t' l' b' hj
      split at hr
      · rename_i ht
        subst ht
        cases hr
        obtain ⟨v, g, h1, h2⟩ := own hj
        exact sub h1 h2 hc
      · cases hr
    · rename_i e t' l' b' hj
      split at hr
      · rename_i ht
        subst ht
        cases hr
        obtain ⟨v, g, h1, h2⟩ := fro hj
        exact sub h1 h2 hc
      · cases hr
    · cases hr
  · cases hr
end
end Go.Proofs.YtjjbafgbbkehjaaGreat.Lib

/- Appends, and slices written out. No condition. -/
namespace Go.Proofs.YtjjbafgbbkehjaaGreat.Lib
open Go Go.RowKit
set_option linter.unusedVariables false
set_option linter.unusedSimpArgs false
section
variable {P : Program} {E : Env} {B : Nat} {O : Ow} {w0 w w' : World} {ρ ρ' : CEnv} {a : Act} {R : Type} {r : R} {sg sg' : Sig} {st : St}
theorem ok_or {ρ : CEnv} (hm : ∀ g, ρ.ok false g → ρ.ok true g) (b b' : Bool) : (∀ g, ρ.ok b g → ρ.ok (b || b') g) ∧ ∀ g, ρ.ok b' g → ρ.ok (b || b') g := by
  cases b <;> cases b' <;> simp <;> exact hm
/-- What an append starts from. -/
theorem target_pin {d : Nat} {e : TypeId} {s : Cell} {j : Nat} (ht : target st d e s = some j) : j < PIN := by
  unfold target at ht
  split at ht
  · simp only [bifs] at ht
    split at ht
    · rename_i hn; cases ht; exact (Sig.free_iff.1 hn).2
    · cases ht
  · simp only [bifs] at ht
    split at ht
    · rename_i hn; cases ht; exact (Sig.free_iff.1 hn).2
    · cases ht
  · split at ht
    · simp only [bifs] at ht
      split at ht
      · rename_i hn
        cases ht
        simp only [Bool.and_eq_true, Nat.blt_eq] at hn
        exact hn.2
      · cases ht
    · cases ht
  · split at ht
    · simp only [bifs] at ht
      split at ht
      · rename_i hn
        cases ht
        simp only [Bool.and_eq_true, Nat.blt_eq] at hn
        exact hn.2
      · cases ht
    · cases ht
  · cases ht
theorem target_sound (h : Mem B O ρ st.sg w) {d : Nat} {e : TypeId} {τ : Ty} {s : Cell} {u : Value} {j : Nat} {l : List τ.T} {b : Bool} (hs : rc ρ w s u) (ht : target st d e s = some j) (hl : rowOf τ st.sg s = some (l, b)) :
    ∃ g xs, Own w e τ.sz u l.length xs g ∧ Elems (ρ.ok b) w τ l xs ∧ (∀ k, g = some k → Owns ρ st.sg j k) ∧ (st.sg.get j = none ∧ j = d ∨ ∃ e' τ' l' b', st.sg.get j = some (.arr e' τ' l' b')) := by
  unfold target at ht
  unfold rowOf at hl
  split at ht
  · simp only [bifs] at ht
    split at ht
    · rename_i hn
      cases ht
      cases hl
      have hs : u = _ := hs
      exact ⟨none, [], ⟨rfl, rfl, none, hs⟩, ⟨by simp, fun j p hp => by simp at hp⟩, (fun k hk => by cases hk), .inl ⟨(Sig.free_iff.1 hn).1, rfl⟩⟩
    · cases ht
  · simp only [bifs] at ht
    split at ht
    · rename_i hn
      cases ht
      cases hl
      obtain ⟨A, hs⟩ := hs
      exact ⟨none, [], ⟨rfl, rfl, A, hs⟩, ⟨by simp, fun j p hp => by simp at hp⟩, (fun k hk => by cases hk), .inl ⟨(Sig.free_iff.1 hn).1, rfl⟩⟩
    · cases ht
  · rename_i j'
    split at ht
    · rename_i e' τ' l' b' hj
      rw [bifs] at ht
      split at ht
      · rename_i he
        cases ht
        simp only [Bool.and_eq_true, beq_iff_eq] at he
        obtain ⟨he, _⟩ := he
        subst he
        simp only [hj] at hl
        split at hl
        · rename_i ht
          subst ht
          cases hl
          obtain ⟨v, g, xs, h1, h2, h3⟩ := h.blk j _ hj
          obtain ⟨g', sz, h4⟩ := hs
          rw [h1] at h4; cases h4
          refine ⟨g, xs, ?_, h2, fun k hk => owns_iff.2 ⟨_, hj, by simp, .inr ⟨_, _, _, _, rfl, u, τ'.sz, by rw [h1, hk]⟩⟩, .inr ⟨_, _, _, _, hj⟩⟩
          cases g with
          | none =>
            obtain ⟨rfl, A, rfl⟩ := h3
            exact ⟨rfl, List.eq_nil_of_length_eq_zero (by simpa using h2.1), A, rfl⟩
          | some g => exact h3
        · cases hl
      · cases ht
    · cases ht
  · rename_i j' o n
    split at ht
    · rename_i e' τ' l' b' hj
      rw [bifs] at ht
      split at ht
      · rename_i he
        cases ht
        simp only [Bool.and_eq_true, beq_iff_eq] at he
        obtain ⟨he, _⟩ := he
        subst he
        simp only [hj] at hl
        split at hl
        · rename_i ht
          subst ht
          have hl : some ((l'.drop 0).take n, b') = some (l, b) := hl
          cases hl
          obtain ⟨v, g, xs, h1, h2, h3⟩ := h.blk j _ hj
          obtain ⟨A, m, c, g', sz, h4, h5, h6⟩ := hs
          rw [h1] at h4; cases h4
          have hu : u = .slice A n c := by
            rcases h6 with ⟨_, h6⟩ | ⟨_, _, ad, rfl, h6⟩ | ⟨_, h6, _⟩
            · exact h6
            · rw [h6]; simp [Addr.add]
            · exact absurd rfl h6
          subst hu
          rw [List.drop_zero]
          cases g with
          | none =>
            obtain ⟨rfl, A', h7⟩ := h3
            cases h7
            have hn : n = 0 := by omega
            subst hn
            exact ⟨none, [], ⟨by simp, rfl, _, rfl⟩, ⟨by simp, fun j p hp => by simp at hp⟩, (fun k hk => by cases hk), .inr ⟨_, _, _, _, hj⟩⟩
          | some g =>
            obtain ⟨⟨h7, h8⟩, h9⟩ := h3
            rcases h8 with ⟨h8, _⟩ | ⟨g', cap, cur, h8, hb, hg, hle, hm, hcs, htake⟩
            · cases h8; cases h9
            · cases h8
              simp only [Value.ownBlock, Option.some.injEq] at h9
              subst h9
              have hnl : (l'.take n).length = n := by rw [List.length_take]; omega
              have hmul : n * τ'.sz ≤ l'.length * τ'.sz := Nat.mul_le_mul_right _ (by omega)
              refine ⟨some g', xs.take (n * τ'.sz), ⟨⟨?_, .inr ⟨g', c, cur, by rw [hnl], hb, hg, by omega, hm, hcs, ?_⟩⟩, rfl⟩, elems_take h2 (by omega), fun k hk => owns_iff.2 ⟨_, hj, by simp, .inr ⟨_, _, _, _, rfl, _, τ'.sz, by rw [h1, hk]⟩⟩, .inr ⟨_, _, _, _, hj⟩⟩
              · rw [hnl, List.length_take, h7]; omega
              · rw [hnl, ← htake, List.take_take, Nat.min_eq_left hmul]
        · cases hl
      · cases ht
    · cases ht
  · cases ht
theorem vappend_sound (hE : Env.Ok P E) (h : Sim B O w0 ρ st a w) {o : Oper} {c : Call} {t : TypeId} {s x : Operand} (ho : o.op = .call c) (hc : c.callee = .builtin .append) (ha : c.args.toList = [s, x]) (hat : c.argTypes.toList = [t, t]) {k : St → Option R} (hk : vappend E st o.dst t (evalO st.sl s) (evalO st.sl x) k = some r) :
    ∃ ρ' st' w' v, k st' = some r ∧ (execOp a.eval o).run P w = .ok (.value v) w' ∧ Sim B O w0 ρ' st' (a.put o.dst v) w' := by
  have ha := toArr ha
  have hat := toArr hat
  unfold vappend at hk
  split at hk
  · rename_i e sz by_ ty d cs cx ht hd hs hx
    split at hk
    · rename_i td sz' by' τ he
      split at hk
      · rename_i l b m b' hl hm
        split at hk
        · rename_i j hj
          split at hk
          · rename_i hle
            rw [bifs] at hk
            split at hk
            · rename_i hby
              have hs' := (h.eval s).1
              have hx' := (h.eval x).1
              rw [hs] at hs'
              rw [hx] at hx'
              obtain ⟨g, xs, h1, h2, h3, h4⟩ := target_sound h.mem hs' hj hl
              have hjp := target_pin hj
              have hrow := row_sound h.mem hm hx'
              obtain ⟨ti, h5, h6, h7, h8⟩ := (hE.ti _ _ he).info
              obtain ⟨h9, z, h10, h11⟩ := h8 τ rfl
              simp only at h6 h7 h9
              have hok := ok_or h.mem.okm b b'
              obtain ⟨v', w', g', news, hrun, h12, h13, hos, htape, hout, hsize, hheap, hg'⟩ := append_run (P := P) (ty := o.type) (slice_run (hE.ti _ _ ht)) h5 h10 (h6.trans h9.symm) (by rw [h11]; simp [Ty.zv_length]) h1 hrow (by rw [h7, ← List.length_append]; exact hle) (by rw [h7]; simpa using hby)
              have hl' := h.loosen j
              have hno : ∀ (i : Nat) (v : AV) (d' : Nat), (st.loosen j).sl[i]? = some v → v.uses d' = true → d' ≠ j := by
                intro i v d' hi hu
                simp only [St.loosen, List.getElem?_map, Option.map_eq_some_iff] at hi
                obtain ⟨v', _, rfl⟩ := hi
                have := (strike_av hu).2
                simpa using this
              have hnob : ∀ (i : Nat) (b : Blk) (d' : Nat), Sig.get i (st.loosen j).sg = some b → b.uses d' = true → d' ≠ j := by
                intro i b d' hi hu
                rw [show (st.loosen j).sg = st.sg.map fun q => (q.1, q.2.strike (· == j)) from rfl, Sig.get_map, Option.map_eq_some_iff] at hi
                obtain ⟨b', _, rfl⟩ := hi
                have := (strike_blk hu).2
                simpa using this
              have hownl : ∀ k, g = some k → Owns ρ (st.loosen j).sg j k := by
                intro k hk
                rcases h4 with ⟨h4, _⟩ | ⟨e', τ', l', q, h4⟩
                · obtain ⟨b0, hb0, _⟩ := owns_iff.1 (h3 k hk)
                  rw [h4] at hb0; cases hb0
                · obtain ⟨b0, hb0, _, hb1⟩ := owns_iff.1 (h3 k hk)
                  rw [h4] at hb0; cases hb0
                  rcases hb1 with ⟨_, _, hb1, _⟩ | ⟨_, _, _, _, _, hb1⟩
                  · cases hb1
                  · refine owns_iff.2 ⟨.arr e' τ' l' q, ?_, by simp, .inr ⟨_, _, _, _, rfl, hb1⟩⟩
                    rw [show (st.loosen j).sg = st.sg.map fun q => (q.1, q.2.strike (· == j)) from rfl, Sig.get_map, h4]
                    rfl
              have hge : ∀ k, k < w.heap.size → ¬ Owns ρ (st.loosen j).sg j k → w'.heap[k]? = w.heap[k]? := fun k hk hn => hheap k hk (fun e => hn (hownl k e))
              have hokh : ∀ q g0, ρ.ok q g0 → w'.heap[g0]? = w.heap[g0]? := fun q g0 hq => hge g0 (h.mem.okb q g0 hq) (hl'.mem.oko q g0 hq j)
              have hkp : Keeps B O w w' := ⟨hos, htape, hout, hsize, fun k hk hn => hheap k (Nat.lt_of_lt_of_le hk h.base) (fun e => by
                rcases h.mem.old j k (h3 k e) with h0 | h0
                · omega
                · exact hn h0)⟩
              have hM : Mem B O (ρ.upd j (.arr v' g' τ.sz)) ((st.loosen j).sg.put j (.arr e τ (l ++ m) (b || b'))) w' := by
                refine hl'.mem.renew h.base rfl (fun i hi => CEnv.upd_ne ρ _ hi) (fun i b0 d' hi hij hu => CEnv.upd_ne ρ _ (hnob i b0 d' hi hu)) hge hsize ?_ ?_ (fun d' hd' => by cases hd')
                · refine ⟨v', g', xs ++ news, CEnv.upd_same _ _ _, ?_, ?_⟩
                  · exact Elems.append (h12.step hok.2 (hokh b')) (h2.step hok.1 (hokh b))
                  · cases g' with
                    | some g' => rw [List.length_append]; exact h13
                    | none =>
                      obtain ⟨h14, h15, A, rfl⟩ := h13
                      rw [← List.length_append] at h14
                      exact ⟨List.eq_nil_of_length_eq_zero h14, A, rfl⟩
                · intro k hk
                  rw [CEnv.upd_same] at hk
                  cases g' with
                  | none => cases hk
                  | some g' =>
                    have hk : k = g' := hk
                    subst hk
                    rcases hg' k rfl with h0 | h0
                    · exact .inr (hownl k h0)
                    · exact .inl h0
              have hS := hl'.renew hM hkp (fun _ _ h => h) hokh (fun i v d' hi hu => CEnv.upd_ne ρ _ (hno i v d' hi hu)) (fun i hi => CEnv.upd_ne ρ _ (by omega))
              refine ⟨ρ.upd j (.arr v' g' τ.sz), _, w', v', hk, ?_, ?_⟩
              · unfold execOp
                simp [ho, hc, ha, hat, Sem.run_bind, resolve, invoke, builtin, hrun]
              · rw [hd]
                exact hS.put (some d) ⟨g', τ.sz, CEnv.upd_same _ _ _⟩ (fun d' hd' => by
                  have hd' : (j == d') = true := hd'
                  rw [← eq_of_beq hd', Sig.get_put, if_pos rfl]
                  rfl)
            · cases hk
          · cases hk
        · cases hk
      · cases hk
    · cases hk
  · cases hk
end
end Go.Proofs.YtjjbafgbbkehjaaGreat.Lib

/- Slices written out. No condition. -/
namespace Go.Proofs.YtjjbafgbbkehjaaGreat.Lib
open Go Go.RowKit
set_option linter.unusedVariables false
set_option linter.unusedSimpArgs false
section
variable {P : Program} {E : Env} {B : Nat} {O : Ow} {w0 w w' : World} {ρ ρ' : CEnv} {a : Act} {R : Type} {r : R} {sg sg' : Sig} {st : St}
theorem settleAV_sound (h : Mem B O ρ sg w) {v v' : AV} {u : Value} (hr : rav ρ w v u) (hs : settleAV sg v = some (sg', v')) :
    ∃ ρ', More ρ ρ' ∧ Mem B O ρ' sg' w ∧ Froze sg sg' ∧ rav ρ' w v' u ∧ ∀ d, v'.uses d = true → v.uses d = true := by
  unfold settleAV at hs
  split at hs
  · rename_i c
    split at hs
    · rename_i sg1 c' hc
      simp only [Option.some.injEq, Prod.mk.injEq] at hs
      obtain ⟨rfl, rfl⟩ := hs
      obtain ⟨ρ1, h1, h2, h3, h4, h5⟩ := settle_sound [c] sg ρ [u] _ _ h (.cons hr .nil) hc
      obtain ⟨u', h6, h7⟩ := h4.single
      cases h6
      exact ⟨ρ1, h1, h2, h3, h7, fun d hd => by have := h5 d (by simp only [List.any_cons, List.any_nil, Bool.or_false]; exact hd); simp only [List.any_cons, List.any_nil, Bool.or_false] at this; exact this⟩
    · cases hs
  · rename_i cs
    split at hs
    · rename_i sg1 cs' hc
      simp only [Option.some.injEq, Prod.mk.injEq] at hs
      obtain ⟨rfl, rfl⟩ := hs
      obtain ⟨vs, rfl, hr⟩ := hr
      obtain ⟨ρ1, h1, h2, h3, h4, h5⟩ := settle_sound cs sg ρ vs _ _ h hr hc
      exact ⟨ρ1, h1, h2, h3, ⟨vs, rfl, h4⟩, h5⟩
    · cases hs
  · simp only [Option.some.injEq, Prod.mk.injEq] at hs
    obtain ⟨rfl, rfl⟩ := hs
    exact ⟨ρ, More.refl _, h, Froze.refl _, hr, fun _ h => h⟩
theorem settleParts_sound : ∀ (ps : List (Nat × AV)) (sg : Sig) (ρ : CEnv) (us : List Value) (sg' : Sig) (ps' : List (Nat × AV)), Mem B O ρ sg w → All2 (fun q u => rav ρ w q.2 u) ps us → settleParts sg ps = some (sg', ps') →
    ∃ ρ', More ρ ρ' ∧ Mem B O ρ' sg' w ∧ Froze sg sg' ∧ All2 (fun q u => rav ρ' w q.2 u) ps' us ∧ ps'.map (·.1) = ps.map (·.1) ∧ ∀ d, ps'.any (·.2.uses d) = true → ps.any (·.2.uses d) = true
  | [], sg, ρ, us, sg', ps', h, hr, hs => by
    simp only [settleParts, Option.some.injEq, Prod.mk.injEq] at hs
    obtain ⟨rfl, rfl⟩ := hs
    exact ⟨ρ, More.refl _, h, Froze.refl _, hr, rfl, fun _ h => h⟩
  | (i, v) :: ps, sg, ρ, us, sg', ps', h, hr, hs => by
    simp only [settleParts] at hs
    cases hr with
    | @cons _ u0 _ us h0 h1 =>
    split at hs
    · rename_i sg1 v1 hv
      split at hs
      · rename_i sg2 ps2 hp
        simp only [Option.some.injEq, Prod.mk.injEq] at hs
        obtain ⟨rfl, rfl⟩ := hs
        obtain ⟨ρ1, a1, a2, a3, a4, a5⟩ := settleAV_sound h h0 hv
        obtain ⟨ρ2, b1, b2, b3, b4, b5, b6⟩ := settleParts_sound ps sg1 ρ1 us sg2 ps2 a2 (h1.imp fun q u _ hq => rav_step (a1.step w) (fun _ _ => trivial) hq) hp
        refine ⟨ρ2, a1.trans b1, b2, a3.trans b3, .cons (rav_step (b1.step w) (fun _ _ => trivial) a4) b4, by simp [b5], fun d hd => ?_⟩
        simp only [List.any_cons, Bool.or_eq_true] at hd ⊢
        exact hd.imp (a5 d) (b6 d)
      · cases hs
    · cases hs
theorem readElems_sound (h : Mem B O ρ sg w) {b : Bool} {τ : Ty} : ∀ (ps : List (Nat × AV)) (n : Nat) (us : List Value) (l : List τ.T), All2 (fun q u => rav ρ w q.2 u) ps us → (∀ d, ps.any (·.2.uses d) = true → (sg.get d).isSome = true) → readElems b τ ps n = some l →
    Elems (ρ.ok b) w τ l (us.flatMap fun u => u.cells.toList) ∧ (∀ u ∈ us, u.cells.size = τ.sz) ∧ l.length = us.length ∧ ps.map (·.1) = List.range' n us.length
  | [], n, us, l, hr, hu, hs => by
    cases hr
    simp only [readElems, Option.some.injEq] at hs
    subst hs
    exact ⟨⟨by simp, fun j p hp => by simp at hp⟩, (fun u hu => by cases hu), rfl, rfl⟩
  | (i, v) :: ps, n, us, l, hr, hu, hs => by
    cases hr with
    | @cons _ u0 _ us h0 h1 =>
    simp only [readElems, bifs] at hs
    split at hs
    · rename_i hi
      simp only [beq_iff_eq] at hi
      split at hs
      · rename_i cs hc
        split at hs
        · rename_i x hx
          split at hs
          · rename_i xs hxs
            simp only [Option.some.injEq] at hs
            subst hs
            obtain ⟨vs, a1, a2, _, _⟩ := rav_cells h h0 hc (fun d hd => hu d (by simp only [List.any_cons, Bool.or_eq_true]; exact .inl hd))
            have a3 := read_sound h.okm hx a2
            obtain ⟨b1, b2, b3, b4⟩ := readElems_sound h ps (n + 1) us xs h1 (fun d hd => hu d (by simp only [List.any_cons, Bool.or_eq_true]; exact .inr hd)) hxs
            refine ⟨?_, fun u hu => ?_, by simp [b3], by simp [b4, hi, List.range'_succ]⟩
            · rw [List.flatMap_cons, a1]
              exact Elems.cons a3 b1
            · rcases List.mem_cons.1 hu with rfl | hu
              · rw [a1, List.size_toArray]; exact a3.len
              · exact b2 u hu
          · cases hs
        · cases hs
      · cases hs
    · cases hs
theorem vbuild_sound (hE : Env.Ok P E) (h : Sim B O w0 ρ st a w) {o : Oper} {t e : TypeId} {n d : Nat} {ps : Array (Nat × Operand)} {ps' : List (Nat × AV)} {τ : Ty} {sz by_ sz' by' : Nat} {ty : Option Ty} {td : TD} (ho : o.op = .buildSlice t n ps) (hd : o.dst = some d)
    (hset : settleParts st.sg (ps.toList.map fun p => (p.1, evalO st.sl p.2)) = some (sg, ps')) (ht : E.ti.lookup t = some ⟨.slice e, sz, by_, ty⟩) (he : E.ti.lookup e = some ⟨td, sz', by', some τ⟩) (hn : sg.get d = none ∧ d < PIN) (hln : n = ps'.length) (hsm : n * τ.sz ≤ 16777216)
    {b : Bool} {l : List τ.T} (hl : readElems b τ ps' 0 = some l) :
    ∃ ρ' w' v, (execOp a.eval o).run P w = .ok (.value v) w' ∧ Sim B O w0 ρ' ⟨st.sl.set d (.one (.sl d)), (d, .arr e τ l b) :: sg⟩ (a.put o.dst v) w' := by
  have hpr : All2 (fun (q : Nat × AV) u => rav ρ w q.2 u) (ps.toList.map fun p => (p.1, evalO st.sl p.2)) (ps.toList.map fun p => a.eval p.2) := by
    induction ps.toList with
    | nil => exact .nil
    | cons p ps ih => exact .cons (h.eval p.2).1 ih
  have hpu : ∀ d, (ps.toList.map fun p => (p.1, evalO st.sl p.2)).any (·.2.uses d) = true → (st.sg.get d).isSome = true := by
    intro d hd
    obtain ⟨q, hq, hd⟩ := List.any_eq_true.1 hd
    obtain ⟨p, _, rfl⟩ := List.mem_map.1 hq
    exact (h.eval p.2).2 d hd
  obtain ⟨ρ1, h1, h2, h3, h4, h5, h6⟩ := settleParts_sound _ _ _ _ _ _ h.mem hpr hset
  have hs1 := h.more h1 h2 h3
  obtain ⟨b1, b2, b3, b4⟩ := readElems_sound h2 ps' 0 _ l h4 (fun d hd => by rw [h3.some]; exact hpu d (h6 d hd)) hl
  have hnl : n = l.length := by rw [hln, b3, h4.length]
  obtain ⟨ti, c1, c2, c3, c4⟩ := (hE.ti _ _ he).info
  obtain ⟨c5, z, c6, c7⟩ := c4 τ rfl
  simp only at c2 c5
  have hps : (ps.map fun (i, x) => (i, a.eval x)).toList = ((ps.toList.map fun p => a.eval p.2).zipIdx 0).map fun x => (x.2, x.1) := by
    rw [Array.toList_map]
    rw [h5, List.map_map] at b4
    have key : ∀ (l : List (Nat × Operand)) (k : Nat), l.map (Prod.fst ∘ fun p => (p.1, evalO st.sl p.2)) = List.range' k l.length → l.map (fun (i, x) => (i, a.eval x)) = ((l.map fun p => a.eval p.2).zipIdx k).map fun x => (x.2, x.1) := by
      intro l
      induction l with
      | nil => intro k _; rfl
      | cons p l ih =>
        intro k hk
        simp only [List.map_cons, List.length_cons, List.range'_succ, List.cons.injEq, Function.comp] at hk
        simp only [List.map_cons, List.zipIdx_cons, ih (k + 1) hk.2, hk.1]
    exact key _ 0 (by rw [b4, List.length_map])
  have run : (execOp a.eval o).run P w = .ok (.value (.slice (some ⟨w.heap.size, 0, none⟩) n n)) (w.alloc (.cells ((ps.toList.map fun p => a.eval p.2).flatMap fun u => u.cells.toList).toArray e)) := by
    have hz : z.cells.size = τ.sz := by rw [c7]; simp [Ty.zv_length]
    by_cases h0 : n = 0
    · subst h0
      have hl0 : (ps.toList.map fun p => a.eval p.2) = [] := by
        apply List.eq_nil_of_length_eq_zero
        rw [← b3, ← hnl]
      have hp0 : ps.map (fun (i, x) => (i, a.eval x)) = #[] := by
        apply Array.ext'
        rw [hps, hl0]
        rfl
      unfold execOp
      simp only [ho, hl0, hp0]
      simp [Instr.buildSlice, Sem.run_bind, run_underlying (slice_run (hE.ti _ _ ht)), size_run (hE.ti _ _ he), Instr.fill, newRow, Array.range_zero']
    · have hr := run_buildSlice (P := P) w t e n (ps.map fun (i, x) => (i, a.eval x)) ((ps.toList.map fun p => a.eval p.2).flatMap fun u => u.cells.toList).toArray ti z (slice_run (hE.ti _ _ ht)) c1 c6
        (by rw [c2, ← c5]; omega) (by rw [c2, ← c5]; have := Ty.sz_pos τ; exact Nat.mul_ne_zero h0 (by omega)) (by
          rw [hps, c2, ← c5]
          refine Great.fill_whole (Ty.sz_pos τ) _ _ b2 ?_
          rw [← b3, ← hnl]
          simp)
      unfold execOp
      simp only [ho, Sem.run_bind, hr, Result.andThen_ok]
      rfl
  have hadd : Adds ρ1 sg w (w.alloc (.cells ((ps.toList.map fun p => a.eval p.2).flatMap fun u => u.cells.toList).toArray e)) (some d) (.one (.sl d)) [(d, .arr e τ l b)] (.slice (some ⟨w.heap.size, 0, none⟩) n n) := by
    have hb : Below w.heap.size w (w.alloc (.cells ((ps.toList.map fun p => a.eval p.2).flatMap fun u => u.cells.toList).toArray e)) := (Below.refl _ _).alloc (Nat.le_refl _) _
    refine .inr ⟨d, _, .arr (.slice (some ⟨w.heap.size, 0, none⟩) n n) (some w.heap.size) τ.sz, rfl, hn, rfl, hb, ?_, ⟨_, _, CEnv.upd_same _ _ _⟩, ?_, (fun x hx => by cases hx), fun g hg => Nat.le_of_eq hg.symm⟩
    · refine ⟨_, some w.heap.size, _, CEnv.upd_same _ _ _, b1.step (fun _ h => h) (fun g hg => hb.block g (h2.okb b g hg)), ⟨b1.1, .inr ⟨w.heap.size, n, _, by rw [hnl], Nat.zero_le _, heap_alloc_new w _, by omega, ?_, ?_, ?_⟩⟩, rfl⟩
      · have := Nat.le_mul_of_pos_right n (Ty.sz_pos τ)
        unfold maxLen; omega
      · rw [List.size_toArray, b1.1, hnl]
      · rw [List.take_of_length_le (by rw [b1.1]; exact Nat.le_refl _)]
    · intro x hx
      have hx : (d == x) = true := hx
      exact (eq_of_beq hx).symm
  obtain ⟨ρ2, hs2⟩ := hs1.adds hadd
  exact ⟨ρ2, _, _, run, by rw [hd]; exact hs2⟩
end
end Go.Proofs.YtjjbafgbbkehjaaGreat.Lib

/- Calls. No condition. -/
namespace Go.Proofs.YtjjbafgbbkehjaaGreat.Lib
open Go Go.RowKit
set_option linter.unusedVariables false
set_option linter.unusedSimpArgs false
theorem All2.app {α β : Type} {R : α → β → Prop} {l l' : List α} {m m' : List β} (h : All2 R l m) (h' : All2 R l' m') : All2 R (l ++ l') (m ++ m') := h.append h'
def CEnv.strict (ρ : CEnv) : CEnv := ⟨ρ.loc, fun _ => ρ.ok false⟩
theorem nobor_rc {ρ : CEnv} {w : World} {c : Cell} {v : Value} (hn : c.nobor = true) (h : rc ρ w c v) : rc ρ.strict w c v := by
  cases c with
  | emb e t l b =>
    have : b = false := by simpa [Cell.nobor] using hn
    subst this; exact h
  | eptr t x c b =>
    have : b = false := by simpa [Cell.nobor] using hn
    subst this; exact h
  | fn f caps =>
    have : caps = [] := by simpa [Cell.nobor] using hn
    subst this
    obtain ⟨vs, h0, h1⟩ := h
    cases h1
    exact ⟨_, h0, .nil⟩
  | _ => exact h
theorem nobor_cells {ρ : CEnv} {w : World} {cs : List Cell} {vs : List Value} (hn : cs.all (·.nobor) = true) (h : All2 (rc ρ w) cs vs) : All2 (rc ρ.strict w) cs vs :=
  h.imp fun c v hc h => nobor_rc (List.all_eq_true.1 hn c hc) h
theorem nobor_rav {ρ : CEnv} {w : World} {x : AV} {v : Value} (hn : x.nobor = true) (h : rav ρ w x v) : rav ρ.strict w x v := by
  cases x with
  | one c => exact nobor_rc hn h
  | agg cs => obtain ⟨vs, h0, h1⟩ := h; exact ⟨vs, h0, nobor_cells hn h1⟩
  | tup ps =>
    obtain ⟨vs, h0, h1⟩ := h
    refine ⟨vs, h0, h1.imp fun q v hq h => ?_⟩
    have hq := List.all_eq_true.1 hn q hq
    obtain ⟨g, cs⟩ := q
    cases g with
    | true => obtain ⟨vs, h0, h1⟩ := h; exact ⟨vs, h0, nobor_cells hq h1⟩
    | false => obtain ⟨c, rfl, h⟩ := h; exact ⟨c, rfl, nobor_rc (by simpa using hq) h⟩
theorem nobor_blk {ρ : CEnv} {w : World} {j : Nat} {b : Blk} (hn : b.nobor = true) (h : rblk ρ w j b) : rblk ρ.strict w j b := by
  cases b with
  | box t cs => obtain ⟨g, vs, h0, h1, h2⟩ := h; exact ⟨g, vs, h0, h1, nobor_cells hn h2⟩
  | arr e t l b =>
    have : b = false := by simpa [Blk.nobor] using hn
    subst this; exact h
  | fro e t l b =>
    have : b = false := by simpa [Blk.nobor] using hn
    subst this; exact h
/-- Renumbered. -/
theorem shift_rc {ρ ρ' : CEnv} {w : World} {d : Nat} {c : Cell} {v : Value} (hl : ∀ j, c.uses j = true → ρ'.loc (j + d) = ρ.loc j) (ho : ρ'.ok = ρ.ok) (h : rc ρ w c v) : rc ρ' w (c.shift d) v := by
  cases c with
  | emb e t l b => rw [show Cell.shift d (.emb e t l b) = .emb e t l b from rfl]; unfold rc at h ⊢; rw [ho]; exact h
  | sl j =>
    obtain ⟨g, sz, h⟩ := h
    exact ⟨g, sz, (hl j (by simp [Cell.uses])).trans h⟩
  | sub j o n =>
    obtain ⟨A, m, c, g, sz, h, h1⟩ := h
    exact ⟨A, m, c, g, sz, (hl j (by simp [Cell.uses])).trans h, h1⟩
  | ptr j i c =>
    have hl := hl j (by simp [Cell.uses])
    rcases h with ⟨h0, g, h, h1⟩ | ⟨a, m, cp, g, sz, h, h1⟩
    · exact .inl ⟨h0, g, hl.trans h, h1⟩
    · exact .inr ⟨a, m, cp, g, sz, hl.trans h, h1⟩
  | eptr t x c b =>
    obtain ⟨a, h, h1⟩ := h
    exact ⟨a, by rw [ho]; exact h, h1⟩
  | fn f caps =>
    obtain ⟨vs, h, h1⟩ := h
    exact ⟨vs, h, h1.imp fun p u _ ⟨a, h, h2⟩ => ⟨a, by rw [ho]; exact h, h2⟩⟩
  | fnp f js =>
    obtain ⟨vs, h, h1⟩ := h
    exact ⟨vs, h, h1.map_left _ fun j u hj ⟨g, h, h2⟩ => ⟨g, (hl j (by simp [Cell.uses, hj])).trans h, h2⟩⟩
  | _ => exact h
theorem shift_cells {ρ ρ' : CEnv} {w : World} {d : Nat} {cs : List Cell} {vs : List Value} (hl : ∀ j, cs.any (·.uses j) = true → ρ'.loc (j + d) = ρ.loc j) (ho : ρ'.ok = ρ.ok) (h : All2 (rc ρ w) cs vs) : All2 (rc ρ' w) (cs.map (·.shift d)) vs :=
  h.map_left _ fun c v hc h => shift_rc (fun j hj => hl j (List.any_eq_true.2 ⟨c, hc, hj⟩)) ho h
theorem shift_rav {ρ ρ' : CEnv} {w : World} {d : Nat} {x : AV} {v : Value} (hl : ∀ j, x.uses j = true → ρ'.loc (j + d) = ρ.loc j) (ho : ρ'.ok = ρ.ok) (h : rav ρ w x v) : rav ρ' w (x.shift d) v := by
  cases x with
  | one c => exact shift_rc hl ho h
  | agg cs => obtain ⟨vs, h0, h1⟩ := h; exact ⟨vs, h0, shift_cells hl ho h1⟩
  | tup ps =>
    obtain ⟨vs, h0, h1⟩ := h
    refine ⟨vs, h0, h1.map_left _ fun q v hq h => ?_⟩
    have hl' : ∀ j, q.2.any (·.uses j) = true → ρ'.loc (j + d) = ρ.loc j := fun j hj => hl j (List.any_eq_true.2 ⟨q, hq, hj⟩)
    obtain ⟨g, cs⟩ := q
    cases g with
    | true => obtain ⟨vs, h0, h1⟩ := h; exact ⟨vs, h0, shift_cells hl' ho h1⟩
    | false => obtain ⟨c, rfl, h⟩ := h; exact ⟨c.shift d, rfl, shift_rc (fun j hj => hl' j (by simpa using hj)) ho h⟩
theorem shift_uses {d i : Nat} {c : Cell} (h : (c.shift d).uses i = true) : ∃ j, i = j + d ∧ c.uses j = true := by
  cases c with
  | sl j => have h : (j + d == i) = true := h; exact ⟨j, (eq_of_beq h).symm, by simp [Cell.uses]⟩
  | sub j o n => have h : (j + d == i) = true := h; exact ⟨j, (eq_of_beq h).symm, by simp [Cell.uses]⟩
  | ptr j k c => have h : (j + d == i) = true := h; exact ⟨j, (eq_of_beq h).symm, by simp [Cell.uses]⟩
  | fnp f js =>
    have h : (js.map (· + d)).contains i = true := h
    simp only [List.contains_eq_mem, List.mem_map, decide_eq_true_eq] at h
    obtain ⟨j, h1, h2⟩ := h
    exact ⟨j, h2.symm, by simp [Cell.uses, h1]⟩
  | _ => cases h
theorem shift_any {d i : Nat} {cs : List Cell} (h : (cs.map (·.shift d)).any (·.uses i) = true) : ∃ j, i = j + d ∧ cs.any (·.uses j) = true := by
  obtain ⟨c, hc, h⟩ := List.any_eq_true.1 h
  obtain ⟨c', hc', rfl⟩ := List.mem_map.1 hc
  obtain ⟨j, h1, h2⟩ := shift_uses h
  exact ⟨j, h1, List.any_eq_true.2 ⟨c', hc', h2⟩⟩
theorem shift_av {d i : Nat} {x : AV} (h : (x.shift d).uses i = true) : ∃ j, i = j + d ∧ x.uses j = true := by
  cases x with
  | one c => exact shift_uses h
  | agg cs => exact shift_any h
  | tup ps =>
    obtain ⟨q, hq, h⟩ := List.any_eq_true.1 h
    obtain ⟨q', hq', rfl⟩ := List.mem_map.1 hq
    obtain ⟨j, h1, h2⟩ := shift_any h
    exact ⟨j, h1, List.any_eq_true.2 ⟨q', hq', h2⟩⟩
theorem shift_rblk {ρ ρ' : CEnv} {w : World} {d j : Nat} {b : Blk} (hj : ρ'.loc (j + d) = ρ.loc j) (hl : ∀ i, b.uses i = true → ρ'.loc (i + d) = ρ.loc i) (ho : ρ'.ok = ρ.ok) (h : rblk ρ w j b) : rblk ρ' w (j + d) (b.shift d) := by
  cases b with
  | box t cs => obtain ⟨g, vs, h0, h1, h2⟩ := h; exact ⟨g, vs, hj.trans h0, h1, shift_cells hl ho h2⟩
  | arr e t l b =>
    obtain ⟨v, g, xs, h0, h1, h2⟩ := h
    exact ⟨v, g, xs, hj.trans h0, by rw [ho]; exact h1, h2⟩
  | fro e t l b =>
    obtain ⟨v, g, h0, h1⟩ := h
    exact ⟨v, g, hj.trans h0, by rw [ho]; exact h1⟩
section
variable {P : Program} {E : Env} {B : Nat} {O : Ow} {w0 w w' : World} {ρ ρ' : CEnv} {a : Act} {R : Type} {r : R} {sg sg' : Sig} {st : St}
/-- What may be read while a call runs: with rows of one's own lent, these too. -/
def CEnv.lent (ρ : CEnv) (sg : Sig) (own : Bool) : CEnv := ⟨ρ.loc, fun q k => ρ.ok q k ∨ (q = true ∧ own = true ∧ ∃ j, Owns ρ sg j k)⟩
theorem lendBoxes_sound (hE : Env.Ok P E) (h : Mem B O ρ sg w) {own : Bool} (ho : own = true) : ∀ {js : List Nat} {us : List Value} {l : List ((t : Ty) × t.T)}, All2 (fun j u => ∃ g, ρ.loc j = .box g ∧ u = .pointer (some ⟨g, 0, none⟩)) js us → lendBoxes E sg js = some l →
    All2 (fun (p : (t : Ty) × t.T) u => ∃ a, Peek ((ρ.lent sg own).ok true) w p.1 p.2 a ∧ u = .pointer (some a)) l us
  | [], us, l, hj, hl => by
    simp only [lendBoxes, Option.some.injEq] at hl
    subst hl
    cases hj
    exact .nil
  | j :: js, us, l, hj, hl => by
    cases hj with
    | cons h0 h1 =>
    simp only [lendBoxes] at hl
    split at hl
    · rename_i ty cs hb
      split at hl
      · rename_i td sz by_ τ ht
        split at hl
        · rename_i x hx
          split at hl
          · rename_i l' hl'
            simp only [Option.some.injEq] at hl
            subst hl
            obtain ⟨g, h2, rfl⟩ := h0
            obtain ⟨g', vs, h3, h4, h5⟩ := h.blk j _ hb
            rw [h2] at h3; cases h3
            refine .cons ⟨⟨g, 0, none⟩, ⟨?_, vs, ?_, ?_⟩, rfl⟩ (lendBoxes_sound hE h ho h1 hl')
            · exact .inr ⟨rfl, ho, j, owns_iff.2 ⟨_, hb, by simp, .inl ⟨ty, cs, rfl, h2⟩⟩⟩
            · exact (read_sound h.okm hx h5).step (fun g hg => .inl hg) (fun _ _ => rfl)
            · intro q u hq
              rw [addp, Nat.zero_add]
              rw [cell_of_row w g q vs.toArray ty (0, 0) h4]
              simpa using hq
          · cases hl
        · cases hl
      · cases hl
    · cases hl
theorem lend_sound (hE : Env.Ok P E) (h : Mem B O ρ sg w) {own : Bool} {c c' : Cell} {u : Bool} {v : Value} (hr : rc ρ w c v) (hl : lendCell E sg c = some (c', u)) (hu : u = true → own = true) : rc (ρ.lent sg own) w c' v ∧ ∀ d, c'.uses d = false := by
  have up : ∀ b g, ρ.ok b g → (ρ.lent sg own).ok b g := fun b g h => .inl h
  have step : Step (fun _ => True) ρ (ρ.lent sg own) w w := ⟨fun _ _ => rfl, up, fun _ _ _ => rfl⟩
  have upt : ∀ b g, ρ.ok b g → (ρ.lent sg own).ok true g := fun b g hg => by
    cases b with
    | true => exact .inl hg
    | false => exact .inl (h.okm g hg)
  have arr : ∀ {j : Nat} {e : TypeId} {t : Ty} {l : List t.T} {b : Bool}, sg.get j = some (.arr e t l b) → own = true → ∃ v g, ρ.loc j = .arr v g t.sz ∧ Rp ((ρ.lent sg own).ok true) w (.sl e t) l [v] := by
    intro j e t l b hj ho
    obtain ⟨v, g, xs, h1, h2, h3⟩ := h.blk j _ hj
    refine ⟨v, g, h1, ?_⟩
    cases g with
    | none =>
      obtain ⟨rfl, A, rfl⟩ := h3
      simp only [Rp]
      exact ⟨A, 0, rfl, Nat.zero_le _, Nat.zero_le _, fun hp => absurd hp (by simp)⟩
    | some g => exact Rp_own h3.1 h3.2 (.inr ⟨rfl, ho, j, owns_iff.2 ⟨_, hj, by simp, .inr ⟨_, _, _, _, rfl, v, t.sz, h1⟩⟩⟩) (h2.step (upt b) (fun _ _ => rfl))
  unfold lendCell at hl
  split at hl
  · rename_i j
    split at hl
    · rename_i e t l b hj
      cases hl
      obtain ⟨v', g, h1, h2⟩ := arr hj (hu rfl)
      obtain ⟨g', sz, h3⟩ := hr
      rw [h1] at h3; cases h3
      exact ⟨h2, fun _ => rfl⟩
    · rename_i e t l b hj
      cases hl
      exact ⟨rc_step step (fun _ _ => trivial) ((fro_row h hj).1 v hr), fun _ => rfl⟩
    · cases hl
  · rename_i j o n
    split at hl
    · rename_i e t l b hj
      cases hl
      obtain ⟨v', g, h1, h2⟩ := arr hj (hu rfl)
      obtain ⟨A, m, c, g', sz, h3, h4, h5⟩ := hr
      rw [h1] at h3; cases h3
      have h6 := h2
      simp only [Rp] at h6
      obtain ⟨A', c', h6, _⟩ := h6
      simp only [List.cons.injEq, Value.slice.injEq, and_true] at h6
      obtain ⟨rfl, rfl, rfl⟩ := h6
      exact ⟨Rp_sub h2 h4 h5, fun _ => rfl⟩
    · rename_i e t l b hj
      cases hl
      exact ⟨rc_step step (fun _ _ => trivial) ((fro_row h hj).2 o n v hr), fun _ => rfl⟩
    · cases hl
  · rename_i f js
    split at hl
    · rename_i l hl'
      cases hl
      obtain ⟨vs, h0, h1⟩ := hr
      exact ⟨⟨vs, h0, lendBoxes_sound hE h (hu rfl) h1 hl'⟩, fun _ => rfl⟩
    · cases hl
  · cases hl
  · cases hl
  · rename_i n1 n2 n4 n3 n5
    cases hl
    refine ⟨rc_step step (fun _ _ => trivial) hr, fun d => ?_⟩
    cases c <;> first | rfl | exact absurd rfl (n1 _) | exact absurd rfl (n2 _ _ _) | exact absurd rfl (n3 _ _ _) | exact absurd rfl (n4 _ _)
theorem lendCells_sound (hE : Env.Ok P E) (h : Mem B O ρ sg w) {own : Bool} : ∀ {cs cs' : List Cell} {u : Bool} {vs : List Value}, All2 (rc ρ w) cs vs → lendCells E sg cs = some (cs', u) → (u = true → own = true) → All2 (rc (ρ.lent sg own) w) cs' vs ∧ ∀ d, cs'.any (·.uses d) = false
  | [], cs', u, vs, hr, hl, hu => by
    simp only [lendCells, Option.some.injEq, Prod.mk.injEq] at hl
    obtain ⟨rfl, rfl⟩ := hl
    cases hr
    exact ⟨.nil, fun _ => rfl⟩
  | c :: cs, cs', u, vs, hr, hl, hu => by
    cases hr with
    | cons h0 h1 =>
    simp only [lendCells] at hl
    split at hl
    · rename_i c1 u1 hc
      split at hl
      · rename_i cs1 u2 hcs
        simp only [Option.some.injEq, Prod.mk.injEq] at hl
        obtain ⟨rfl, rfl⟩ := hl
        obtain ⟨a1, a2⟩ := lend_sound hE h (own := own) h0 hc (fun hu1 => hu (by simp [hu1]))
        obtain ⟨b1, b2⟩ := lendCells_sound hE h h1 hcs (fun hu1 => hu (by simp [hu1]))
        exact ⟨.cons a1 b1, fun d => by simp [a2 d, b2 d]⟩
      · cases hl
    · cases hl
theorem lendAV_sound (hE : Env.Ok P E) (h : Mem B O ρ sg w) {own : Bool} {x x' : AV} {u : Bool} {v : Value} (hr : rav ρ w x v) (hl : lend E sg x = some (x', u)) (hu : u = true → own = true) : rav (ρ.lent sg own) w x' v ∧ ∀ d, x'.uses d = false := by
  unfold lend at hl
  split at hl
  · split at hl
    · rename_i c1 u1 hc
      simp only [Option.some.injEq, Prod.mk.injEq] at hl
      obtain ⟨rfl, rfl⟩ := hl
      exact lend_sound hE h hr hc hu
    · cases hl
  · split at hl
    · rename_i c1 u1 hc
      simp only [Option.some.injEq, Prod.mk.injEq] at hl
      obtain ⟨rfl, rfl⟩ := hl
      obtain ⟨vs, h0, h1⟩ := hr
      obtain ⟨b1, b2⟩ := lendCells_sound hE h h1 hc hu
      exact ⟨⟨vs, h0, b1⟩, b2⟩
    · cases hl
  · cases hl
theorem lendAll_sound (hE : Env.Ok P E) (h : Mem B O ρ sg w) {own : Bool} : ∀ {xs xs' : List AV} {u : Bool} {vs : List Value}, All2 (rav ρ w) xs vs → lendAll E sg xs = some (xs', u) → (u = true → own = true) → All2 (rav (ρ.lent sg own) w) xs' vs ∧ ∀ x ∈ xs', ∀ d, x.uses d = false
  | [], xs', u, vs, hr, hl, hu => by
    simp only [lendAll, Option.some.injEq, Prod.mk.injEq] at hl
    obtain ⟨rfl, rfl⟩ := hl
    cases hr
    exact ⟨.nil, fun x hx => by cases hx⟩
  | x :: xs, xs', u, vs, hr, hl, hu => by
    cases hr with
    | cons h0 h1 =>
    simp only [lendAll] at hl
    split at hl
    · rename_i c1 u1 hc
      split at hl
      · rename_i cs1 u2 hcs
        simp only [Option.some.injEq, Prod.mk.injEq] at hl
        obtain ⟨rfl, rfl⟩ := hl
        obtain ⟨a1, a2⟩ := lendAV_sound hE h (own := own) h0 hc (fun hu1 => hu (by simp [hu1]))
        obtain ⟨b1, b2⟩ := lendAll_sound hE h h1 hcs (fun hu1 => hu (by simp [hu1]))
        exact ⟨.cons a1 b1, fun y hy => by
          rcases List.mem_cons.1 hy with rfl | hy
          · exact a2
          · exact b2 y hy⟩
      · cases hl
    · cases hl
end
end Go.Proofs.YtjjbafgbbkehjaaGreat.Lib

/- What a summary takes of a state. No condition. -/
namespace Go.Proofs.YtjjbafgbbkehjaaGreat.Lib
open Go Go.RowKit
set_option linter.unusedVariables false
set_option linter.unusedSimpArgs false
section
variable {P : Program} {E : Env} {B : Nat} {O : Ow} {w0 w w' : World} {ρ ρ' : CEnv} {a : Act} {R : Type}
theorem cells_any (t : Ty) (b : Bool) (x : t.T) (d : Nat) : (t.cells b x).any (·.uses d) = false := by
  induction t with
  | pair a c iha ihc => simp only [Ty.cells, List.any_append, iha, ihc]; rfl
  | _ => rfl
theorem Tys.sound : ∀ {ts : List Ty} {cs : List ((t : Ty) × t.T)} {k : Option R} {y : Tys.T ts R}, Tys.cap ts cs k = some y → (Tys.bld ts y).1 = cs ∧ k = some (Tys.bld ts y).2
  | [], cs, k, y, h => by
    cases cs with
    | nil => exact ⟨rfl, h⟩
    | cons c r => cases h
  | t :: ts, cs, k, y, h => by
    cases cs with
    | nil => cases h
    | cons c r =>
      obtain ⟨t', x⟩ := c
      simp only [Tys.cap] at h
      split at h
      · rename_i ht
        subst ht
        split at h
        · rename_i y1 h1
          cases h
          obtain ⟨h2, h3⟩ := Tys.sound h1
          exact ⟨by simp only [Tys.bld, h2], h3⟩
        · cases h
      · cases h
theorem CPs.sound (hm : ∀ g, ρ.ok false g → ρ.ok true g) : ∀ {ps : List CP} {cs : List Cell} {k : Option R} {y : CPs.T ps R}, CPs.cap ps cs k = some y → k = some (CPs.bld ps y).2 ∧ (∀ vs, All2 (rc ρ w) cs vs → All2 (rc ρ w) (CPs.bld ps y).1 vs)
  | [], cs, k, y, h => by
    cases cs with
    | nil => exact ⟨h, fun vs hv => hv⟩
    | cons c r => cases h
  | .dat t b :: r, cs, k, y, h => by
    simp only [CPs.cap] at h
    split at h
    · rename_i x cs1 hp
      split at h
      · rename_i y1 h1
        cases h
        obtain ⟨h2, h3⟩ := CPs.sound hm h1
        refine ⟨h2, fun vs hv => ?_⟩
        obtain ⟨v0, v1, rfl, h4, h5⟩ := parse_sound hm hp hv
        exact (cells_of_Rp h4).append (h3 v1 h5)
      · cases h
    · cases h
  | .own j :: r, cs, k, y, h => by
    cases cs with
    | nil => cases h
    | cons c cs =>
      cases c <;> simp only [CPs.cap] at h <;> try (cases h; done)
      rename_i j'
      simp only [bifs, beq_iff_eq] at h
      split at h
      · rename_i hj
        subst hj
        obtain ⟨h2, h3⟩ := CPs.sound hm h
        refine ⟨h2, fun vs hv => ?_⟩
        cases hv with
        | cons h0 h1 => exact .cons h0 (h3 _ h1)
      · cases h
  | .ptr j c :: r, cs, k, y, h => by
    cases cs with
    | nil => cases h
    | cons cc cs =>
      cases cc <;> simp only [CPs.cap] at h <;> try (cases h; done)
      rename_i j' i' c'
      simp only [bifs] at h
      split at h
      · rename_i hj
        simp only [Bool.and_eq_true, beq_iff_eq] at hj
        obtain ⟨⟨rfl, rfl⟩, rfl⟩ := hj
        obtain ⟨h2, h3⟩ := CPs.sound hm h
        refine ⟨h2, fun vs hv => ?_⟩
        cases hv with
        | cons h0 h1 => exact .cons h0 (h3 _ h1)
      · cases h
  | .und :: r, cs, k, y, h => by
    cases cs with
    | nil => cases h
    | cons c cs =>
      simp only [CPs.cap] at h
      obtain ⟨h2, h3⟩ := CPs.sound hm h
      refine ⟨h2, fun vs hv => ?_⟩
      cases hv with
      | cons h0 h1 => exact .cons trivial (h3 _ h1)
  | .fnc f ts :: r, cs, k, y, h => by
    cases cs with
    | nil => cases h
    | cons c cs =>
      cases c <;> simp only [CPs.cap] at h <;> try (cases h; done)
      rename_i f' caps
      simp only [bifs, beq_iff_eq] at h
      split at h
      · rename_i hf
        subst hf
        obtain ⟨h4, h5⟩ := Tys.sound h
        obtain ⟨h2, h3⟩ := CPs.sound hm h5
        refine ⟨h2, fun vs hv => ?_⟩
        cases hv with
        | cons h0 h1 =>
          simp only [CPs.bld]
          rw [h4]
          exact .cons h0 (h3 _ h1)
      · cases h
  | .ept t :: r, cs, k, y, h => by
    cases cs with
    | nil => cases h
    | cons c cs =>
      cases c <;> simp only [CPs.cap] at h <;> try (cases h; done)
      rename_i t' x c b
      split at h
      · rename_i ht
        subst ht
        simp only [bifs, beq_iff_eq] at h
        split at h
        · rename_i hc
          subst hc
          split at h
          · rename_i y1 hy
            cases h
            obtain ⟨h2, h3⟩ := CPs.sound hm hy
            refine ⟨h2, fun vs hv => ?_⟩
            cases hv with
            | cons h0 h1 =>
              refine .cons ?_ (h3 _ h1)
              obtain ⟨a, ha, hv⟩ := h0
              refine ⟨a, ha.step (fun g hg => ?_) (fun _ _ => rfl), hv⟩
              cases b with
              | true => exact hg
              | false => exact hm g hg
          · cases h
        · cases h
      · cases h
theorem CPs.len {ρ : CEnv} {w : World} : ∀ {ps : List CP} {y : CPs.T ps R} (d : Nat), (CPs.bld ps y).1.any (·.uses d) = true → ps.any (·.uses d) = true
  | [], y, d, h => h
  | .dat t b :: r, y, d, h => by
    simp only [CPs.bld, List.any_append, cells_any, Bool.false_or] at h
    simp only [List.any_cons, CP.uses, Bool.false_or]
    exact CPs.len (ρ := ρ) (w := w) d h
  | .own j :: r, y, d, h => by
    simp only [CPs.bld, List.any_cons, Cell.uses, Bool.or_eq_true] at h
    simp only [List.any_cons, CP.uses, Bool.or_eq_true]
    exact h.imp id (CPs.len (ρ := ρ) (w := w) d)
  | .ptr j c :: r, y, d, h => by
    simp only [CPs.bld, List.any_cons, Cell.uses, Bool.or_eq_true] at h
    simp only [List.any_cons, CP.uses, Bool.or_eq_true]
    exact h.imp id (CPs.len (ρ := ρ) (w := w) d)
  | .und :: r, y, d, h => by
    simp only [CPs.bld, List.any_cons, Cell.uses, Bool.false_or] at h
    simp only [List.any_cons, CP.uses, Bool.false_or]
    exact CPs.len (ρ := ρ) (w := w) d h
  | .fnc f ts :: r, y, d, h => by
    simp only [CPs.bld, List.any_cons, Cell.uses, Bool.false_or] at h
    simp only [List.any_cons, CP.uses, Bool.false_or]
    exact CPs.len (ρ := ρ) (w := w) d h
  | .ept t :: r, y, d, h => by
    simp only [CPs.bld, List.any_cons, Cell.uses, Bool.false_or] at h
    simp only [List.any_cons, CP.uses, Bool.false_or]
    exact CPs.len (ρ := ρ) (w := w) d h
/-- Slots: what was built says no more than what was there. -/
theorem SPs.sound (hm : ∀ g, ρ.ok false g → ρ.ok true g) : ∀ {ss : List SP} {vs : List AV} {k : Option R} {y : SPs.T ss R}, SPs.cap ss vs k = some y → k = some (SPs.bld ss y).2 ∧ (SPs.bld ss y).1.length = vs.length ∧
    (∀ (i : Nat) (v' : AV), (SPs.bld ss y).1[i]? = some v' → ∃ v, vs[i]? = some v ∧ (∀ u, rav ρ w v u → rav ρ w v' u) ∧ ∀ d, v'.uses d = true → ss.any (·.uses d) = true)
  | [], vs, k, y, h => by
    cases vs with
    | nil => exact ⟨h, rfl, fun i v' hi => by simp [SPs.bld] at hi⟩
    | cons c r => cases h
  | .und :: r, vs, k, y, h => by
    cases vs with
    | nil => cases h
    | cons v vs =>
      simp only [SPs.cap] at h
      obtain ⟨h1, h2, h3⟩ := SPs.sound hm h
      refine ⟨h1, by simp [SPs.bld, h2], fun i v' hi => ?_⟩
      cases i with
      | zero => simp only [SPs.bld, List.getElem?_cons_zero, Option.some.injEq] at hi; subst hi; exact ⟨v, rfl, fun _ _ => trivial, fun d hd => by cases hd⟩
      | succ i =>
        simp only [SPs.bld, List.getElem?_cons_succ] at hi
        obtain ⟨x, h4, h5, h6⟩ := h3 i v' hi
        exact ⟨x, by simpa using h4, h5, fun d hd => by simp only [List.any_cons, h6 d hd, Bool.or_true]⟩
  | .one p :: r, vs, k, y, h => by
    cases vs with
    | nil => cases h
    | cons v vs =>
      cases v <;> simp only [SPs.cap] at h <;> try (cases h; done)
      rename_i c
      obtain ⟨h0, h0'⟩ := CPs.sound (w := w) hm h
      obtain ⟨h1, h2, h3⟩ := SPs.sound hm h0
      refine ⟨h1, by simp [SPs.bld, h2], fun i v' hi => ?_⟩
      cases i with
      | zero =>
        simp only [SPs.bld, List.getElem?_cons_zero, Option.some.injEq] at hi
        subst hi
        refine ⟨.one c, rfl, fun u hu => ?_, fun d hd => ?_⟩
        · have := h0' [u] (.cons hu .nil)
          generalize (CPs.bld [p] y).1 = l at this
          cases this with
          | cons h4 h5 => cases h5; exact h4
        · have hl := CPs.len (ρ := ρ) (w := w) (ps := [p]) (y := y) d
          generalize (CPs.bld [p] y).1 = l at hl hd
          have : l.any (·.uses d) = true := by
            unfold oneOf at hd
            split at hd
            · simpa [AV.uses] using hd
            · cases hd
          have := hl this
          simp only [List.any_cons, SP.uses, List.any_nil, Bool.or_false] at this ⊢
          rw [this]; rfl
      | succ i =>
        simp only [SPs.bld, List.getElem?_cons_succ] at hi
        obtain ⟨x, h4, h5, h6⟩ := h3 i v' hi
        exact ⟨x, by simpa using h4, h5, fun d hd => by simp only [List.any_cons, h6 d hd, Bool.or_true]⟩
  | .agg ps :: r, vs, k, y, h => by
    cases vs with
    | nil => cases h
    | cons v vs =>
      cases v <;> simp only [SPs.cap] at h <;> try (cases h; done)
      rename_i cs
      obtain ⟨h0, h0'⟩ := CPs.sound (w := w) hm h
      obtain ⟨h1, h2, h3⟩ := SPs.sound hm h0
      refine ⟨h1, by simp [SPs.bld, h2], fun i v' hi => ?_⟩
      cases i with
      | zero =>
        simp only [SPs.bld, List.getElem?_cons_zero, Option.some.injEq] at hi
        subst hi
        refine ⟨.agg cs, rfl, fun u hu => ?_, fun d hd => ?_⟩
        · obtain ⟨us, rfl, hus⟩ := hu
          exact ⟨us, rfl, h0' us hus⟩
        · have := CPs.len (ρ := ρ) (w := w) (ps := ps) (y := y) d hd
          simp only [List.any_cons, SP.uses, this, Bool.true_or]
      | succ i =>
        simp only [SPs.bld, List.getElem?_cons_succ] at hi
        obtain ⟨x, h4, h5, h6⟩ := h3 i v' hi
        exact ⟨x, by simpa using h4, h5, fun d hd => by simp only [List.any_cons, h6 d hd, Bool.or_true]⟩
theorem rblk_arr_mono (hm : ∀ g, ρ.ok false g → ρ.ok true g) {j : Nat} {e : TypeId} {t : Ty} {l : List t.T} {b b' : Bool} (hb : (!b' || b) = true) (h : rblk ρ w j (.arr e t l b')) : rblk ρ w j (.arr e t l b) := by
  cases b' with
  | false =>
    cases b with
    | false => exact h
    | true =>
      obtain ⟨v, g, xs, h0, h1, h2⟩ := h
      exact ⟨v, g, xs, h0, h1.step hm (fun _ _ => rfl), h2⟩
  | true => cases b with | true => exact h | false => cases hb
theorem GPs.sound (hm : ∀ g, ρ.ok false g → ρ.ok true g) {sg : Sig} : ∀ {gs : List (Nat × GP)} {y : GPs.T gs}, GPs.cap gs sg = some y →
    (∀ j b', (GPs.bld gs y).get j = some b' → ∃ b, sg.get j = some b ∧ (rblk ρ w j b → rblk ρ w j b') ∧ (∀ g, (match b' with | .box _ _ => ρ.loc j = .box g | .arr _ _ _ _ => ∃ v sz, ρ.loc j = .arr v (some g) sz | _ => False) → Owns ρ sg j g) ∧ ∀ d, b'.uses d = true → gs.any (·.2.uses d) = true) ∧
    (∀ d, gs.any (·.1 == d) = true → ((GPs.bld gs y).get d).isSome = true)
  | [], y, h => by
    constructor
    · intro j b' hj
      cases hj
    · intro d hd
      cases hd
  | (i, .arr e t b) :: r, y, h => by
    simp only [GPs.cap] at h
    split at h
    · rename_i e' t' l b' hg
      split at h
      · rename_i ht
        subst ht
        simp only [bifs] at h
        split at h
        · rename_i hc
          simp only [Bool.and_eq_true, beq_iff_eq] at hc
          obtain ⟨rfl, hb⟩ := hc
          split at h
          · rename_i y1 h1
            cases h
            obtain ⟨ih, ih2⟩ := GPs.sound hm h1
            refine ⟨fun j b2 hj => ?_, fun d hd => ?_⟩
            · simp only [GPs.bld, Sig.get] at hj
              cases hij : (i == j) with
              | true =>
                rw [hij] at hj
                simp only [cond_true, Option.some.injEq] at hj
                have := eq_of_beq hij
                subst this
                subst hj
                exact ⟨_, hg, fun h => rblk_arr_mono hm hb h, fun g hh => by unfold Owns; rw [hg]; exact hh, fun d hd => by cases hd⟩
              | false =>
                rw [hij] at hj
                obtain ⟨b3, h3, h4, h5, h6⟩ := ih j b2 (by simpa using hj)
                exact ⟨b3, h3, h4, h5, fun d hd => by simp only [List.any_cons, h6 d hd, Bool.or_true]⟩
            · simp only [GPs.bld, Sig.get]
              simp only [List.any_cons, Bool.or_eq_true] at hd
              cases hij : (i == d) with
              | true => rfl
              | false => rw [hij] at hd; simpa using ih2 d (by simpa using hd)
          · cases h
        · cases h
      · cases h
    · cases h
  | (i, .box ty ps) :: r, y, h => by
    simp only [GPs.cap] at h
    split at h
    · rename_i ty' cs hg
      simp only [bifs, beq_iff_eq] at h
      split at h
      · rename_i hty
        subst hty
        obtain ⟨h0, h0'⟩ := CPs.sound (w := w) hm h
        obtain ⟨ih, ih2⟩ := GPs.sound hm h0
        refine ⟨fun j b2 hj => ?_, fun d hd => ?_⟩
        · simp only [GPs.bld, Sig.get] at hj
          cases hij : (i == j) with
          | true =>
            rw [hij] at hj
            simp only [cond_true, Option.some.injEq] at hj
            have := eq_of_beq hij
            subst this
            subst hj
            refine ⟨_, hg, fun h => ?_, fun g hh => by unfold Owns; rw [hg]; exact hh, fun d hd => ?_⟩
            · obtain ⟨g, vs, h1, h2, h3⟩ := h
              exact ⟨g, vs, h1, h2, h0' vs h3⟩
            · have := CPs.len (ρ := ρ) (w := w) (ps := ps) (y := y) d hd
              simp only [List.any_cons, GP.uses, this, Bool.true_or]
          | false =>
            rw [hij] at hj
            obtain ⟨b3, h3, h4, h5, h6⟩ := ih j b2 (by simpa using hj)
            exact ⟨b3, h3, h4, h5, fun d hd => by simp only [List.any_cons, h6 d hd, Bool.or_true]⟩
        · simp only [GPs.bld, Sig.get]
          simp only [List.any_cons, Bool.or_eq_true] at hd
          cases hij : (i == d) with
          | true => rfl
          | false => rw [hij] at hd; simpa using ih2 d (by simpa using hd)
      · cases h
    · cases h
/-- The state that a summary takes is the state that is there, in part. -/
theorem Sim.cap {st : St} {ss : List SP} {gs : List (Nat × GP)} {v : StT ss gs} (h : Sim B O w0 ρ st a w) (hwf : wfSt ss gs) (hc : capSt ss gs st = some v) : Sim B O w0 ρ (bldSt ss gs v) a w := by
  unfold capSt at hc
  obtain ⟨h1, h2, h3⟩ := SPs.sound (w := w) h.mem.okm hc
  obtain ⟨h4, h5⟩ := GPs.sound (w := w) h.mem.okm h1
  have ho : ∀ j g, Owns ρ (bldSt ss gs v).sg j g → Owns ρ st.sg j g := fun j g hj => by
    unfold Owns at hj
    cases hb : (bldSt ss gs v).sg.get j with
    | none => rw [hb] at hj; exact hj.elim
    | some b' =>
      obtain ⟨b, h6, h7, h8, h9⟩ := h4 j b' hb
      rw [hb] at hj
      exact h8 g (by cases b' <;> exact hj)
  refine ⟨⟨fun j b' hj => ?_, fun i j g hi hj => h.mem.inj i j g (ho i g hi) (ho j g hj), fun j g hj => h.mem.old j g (ho j g hj), h.mem.okb, fun b g hg j hj => h.mem.oko b g hg j (ho j g hj), h.mem.okm, h.mem.okx, h.mem.oky, fun j b' d hj hd => ?_⟩, ?_, fun i v' hi => ?_, fun i v' d hi hd => ?_, h.defers, h.fr, h.base, h.pin⟩
  · obtain ⟨b, h6, h7, _⟩ := h4 j b' hj
    exact h7 (h.mem.blk j b h6)
  · obtain ⟨b, h6, h7, h8, h9⟩ := h4 j b' hj
    exact h5 d (hwf d (by rw [h9 d hd, Bool.or_true]))
  · rw [h.len]; exact h2.symm
  · obtain ⟨x, h6, h7, _⟩ := h3 i v' hi
    obtain ⟨u, h8, h9⟩ := h.sl i x h6
    exact ⟨u, h8, h7 u h9⟩
  · obtain ⟨x, h6, h7, h8⟩ := h3 i v' hi
    exact h5 d (hwf d (by rw [h8 d hd, Bool.true_or]))
/-! ### calls of functions of which something is known -/
theorem Ways.run_bind {α : Type} (o : Ways α) (k : α → Option R) : o.run k = (o.run some).bind k := by
  induction o with
  | no => rfl
  | done x => rfl
  | br c a b iha ihb => simp only [Ways.run]; cases c <;> assumption
def callP (E : Env) (call : CallFn) (g : FuncId) (args : List AV) : Option (AV × Sig) :=
  match capPrim args g E.prim with
  | some o => o.run some
  | none => call g args []
theorem callK_eq {call : CallFn} {g : FuncId} {args : List AV} (k : AV × Sig → Option R) : callK E call g args k = (callP E call g args).bind k := by
  unfold callK callP
  cases hl : capPrim args g E.prim with
  | none => rfl
  | some o => exact Ways.run_bind _ _
theorem capPrim_spec {g : FuncId} {args : List AV} {o : Ways (AV × Sig)} : ∀ {l : List (FuncId × Prim)}, capPrim args g l = some o → ∃ p v, (g, p) ∈ l ∧ SPs.cap p.ss args (some ()) = some v ∧ o = p.F v
  | [], h => by cases h
  | (f, p) :: r, h => by
    simp only [capPrim, bifs, beq_iff_eq] at h
    split at h
    · rename_i hf
      subst hf
      split at h
      · rename_i v hv
        cases h
        exact ⟨p, v, List.mem_cons_self, hv, rfl⟩
      · obtain ⟨p', v, h1, h2, h3⟩ := capPrim_spec h
        exact ⟨p', v, List.mem_cons_of_mem _ h1, h2, h3⟩
    · obtain ⟨p', v, h1, h2, h3⟩ := capPrim_spec h
      exact ⟨p', v, List.mem_cons_of_mem _ h1, h2, h3⟩
theorem bld_nouse (w : World) {ss : List SP} {vs : List AV} {y : SPs.T ss Unit} (h : SPs.cap ss vs (some ()) = some y) (hu : ∀ v ∈ vs, ∀ d, v.uses d = false) : ∀ v ∈ (SPs.bld (R := Unit) ss y).1, ∀ d, v.uses d = false := by
  have hcp : ∀ {R : Type} {ps : List CP} {cs : List Cell} {k : Option R} {y : CPs.T ps R}, CPs.cap ps cs k = some y → ∀ d, cs.any (·.uses d) = false → (CPs.bld ps y).1.any (·.uses d) = false := by
    intro R ps
    induction ps with
    | nil => intro cs k y h d hd; rfl
    | cons p r ih =>
      intro cs k y h d hd
      cases p with
      | dat t b =>
        simp only [CPs.cap] at h
        split at h
        · rename_i x cs1 hp
          split at h
          · rename_i y1 h1
            cases h
            simp only [CPs.bld, List.any_append, cells_any, Bool.false_or]
            refine ih h1 d ?_
            have : ∀ {t : Ty} {cs : List Cell} {p : t.T × List Cell}, t.parse b cs = some p → cs.any (·.uses d) = false → p.2.any (·.uses d) = false := by
              intro t
              induction t with
              | pair a c iha ihc =>
                intro cs p h hd
                simp only [Ty.parse, Option.bind_eq_some_iff] at h
                obtain ⟨p1, h1, p2, h2, h3⟩ := h
                cases h3
                exact ihc h2 (iha h1 hd)
              | int k =>
                intro cs p h hd
                cases cs with
                | nil => simp [Ty.parse] at h
                | cons c r =>
                  cases c <;> simp only [Ty.parse] at h <;> try (cases h; done)
                  split at h
                  · cases h; simpa [Cell.uses] using hd
                  · cases h
              | bool =>
                intro cs p h hd
                cases cs with
                | nil => simp [Ty.parse] at h
                | cons c r =>
                  cases c <;> simp only [Ty.parse] at h <;> try (cases h; done)
                  cases h; simpa [Cell.uses] using hd
              | str =>
                intro cs p h hd
                cases cs with
                | nil => simp [Ty.parse] at h
                | cons c r =>
                  cases c <;> simp only [Ty.parse] at h <;> try (cases h; done)
                  cases h; simpa [Cell.uses] using hd
              | sl e t _ =>
                intro cs p h hd
                cases cs with
                | nil => simp [Ty.parse] at h
                | cons c r =>
                  simp only [List.any_cons, Bool.or_eq_false_iff] at hd
                  cases c <;> simp only [Ty.parse] at h <;> try (cases h; done)
                  · cases h; exact hd.2
                  · cases h; exact hd.2
                  · split at h
                    · split at h
                      · cases h; exact hd.2
                      · cases h
                    · cases h
            exact this hp hd
          · cases h
        · cases h
      | own j =>
        cases cs with
        | nil => cases h
        | cons c cs =>
          cases c <;> simp only [CPs.cap] at h <;> try (cases h; done)
          simp only [bifs, beq_iff_eq] at h
          split at h
          · rename_i hj
            subst hj
            simp only [List.any_cons, Bool.or_eq_false_iff] at hd
            simp only [CPs.bld, List.any_cons, hd.1, ih h d hd.2]; rfl
          · cases h
      | ptr j c =>
        cases cs with
        | nil => cases h
        | cons cc cs =>
          cases cc <;> simp only [CPs.cap] at h <;> try (cases h; done)
          simp only [bifs] at h
          split at h
          · rename_i hj
            simp only [Bool.and_eq_true, beq_iff_eq] at hj
            obtain ⟨⟨rfl, rfl⟩, rfl⟩ := hj
            simp only [List.any_cons, Bool.or_eq_false_iff] at hd
            simp only [CPs.bld, List.any_cons, hd.1, ih h d hd.2]; rfl
          · cases h
      | und =>
        cases cs with
        | nil => cases h
        | cons c cs =>
          simp only [CPs.cap] at h
          simp only [List.any_cons, Bool.or_eq_false_iff] at hd
          simp only [CPs.bld, List.any_cons, ih h d hd.2]; rfl
      | fnc f ts =>
        cases cs with
        | nil => cases h
        | cons c cs =>
          cases c <;> simp only [CPs.cap] at h <;> try (cases h; done)
          simp only [bifs, beq_iff_eq] at h
          split at h
          · simp only [List.any_cons, Bool.or_eq_false_iff] at hd
            obtain ⟨_, h5⟩ := Tys.sound h
            simp only [CPs.bld, List.any_cons, ih h5 d hd.2]; rfl
          · cases h
      | ept t =>
        cases cs with
        | nil => cases h
        | cons c cs =>
          cases c <;> simp only [CPs.cap] at h <;> try (cases h; done)
          split at h
          · simp only [bifs, beq_iff_eq] at h
            split at h
            · split at h
              · rename_i y1 hy
                cases h
                simp only [List.any_cons, Bool.or_eq_false_iff] at hd
                simp only [CPs.bld, List.any_cons, ih hy d hd.2]; rfl
              · cases h
            · cases h
          · cases h
  have main : ∀ {R : Type} {ss : List SP} {vs : List AV} {k : Option R} {y : SPs.T ss R}, SPs.cap ss vs k = some y → (∀ v ∈ vs, ∀ d, v.uses d = false) → ∀ v ∈ (SPs.bld ss y).1, ∀ d, v.uses d = false := by
    intro R ss
    induction ss with
    | nil => intro vs k y h hu v hv; simp [SPs.bld] at hv
    | cons s r ih =>
      intro vs k y h hu v hv d
      cases vs with
      | nil => cases s <;> cases h
      | cons v0 vs =>
        have hu' : ∀ v ∈ vs, ∀ d, v.uses d = false := fun v hv => hu v (List.mem_cons_of_mem _ hv)
        cases s with
        | und =>
          simp only [SPs.cap] at h
          rcases List.mem_cons.1 hv with rfl | hv
          · rfl
          · exact ih h hu' v hv d
        | one p =>
          cases v0 <;> simp only [SPs.cap] at h <;> try (cases h; done)
          rename_i c
          have h0 := (CPs.sound (ρ := ⟨fun _ => .dead, fun _ _ => False⟩) (w := w) (fun _ h => h) h).1
          rcases List.mem_cons.1 hv with rfl | hv
          · have := hcp h d (by simpa [AV.uses] using hu (.one c) List.mem_cons_self d)
            generalize (CPs.bld [p] y).1 = l at this
            unfold oneOf
            split
            · simpa [AV.uses] using this
            · rfl
          · exact ih h0 hu' v hv d
        | agg ps =>
          cases v0 <;> simp only [SPs.cap] at h <;> try (cases h; done)
          rename_i cs
          have h0 := (CPs.sound (ρ := ⟨fun _ => .dead, fun _ _ => False⟩) (w := w) (fun _ h => h) h).1
          rcases List.mem_cons.1 hv with rfl | hv
          · exact hcp h d (hu (.agg cs) List.mem_cons_self d)
          · exact ih h0 hu' v hv d
  exact main h hu
theorem callP_ok (hE : Env.Ok P E) {call : CallFn} (hC : CallOk P call) {g : FuncId} {args : List AV} {res : AV} {out : Sig} (h : callP E call g args = some (res, out)) : CallOk1 P g args res out := by
  unfold callP at h
  split at h
  · rename_i o ho
    obtain ⟨p, v, hp, hv, rfl⟩ := capPrim_spec ho
    intro ρ0 w vs h1 h2 h3 h4
    have hF := h
    obtain ⟨h5, h6, h7⟩ := SPs.sound (w := w) h2 hv
    refine hE.prim _ hp v res out hF ρ0 w vs h1 h2 ?_ (bld_nouse w hv h4)
    generalize (SPs.bld (R := Unit) p.ss v).1 = l at h6 h7
    clear hv h4 h ho
    induction h3 generalizing l with
    | nil =>
      cases l with
      | nil => exact .nil
      | cons x l => simp at h6
    | @cons x u xs us hx hxs ih =>
      cases l with
      | nil => simp at h6
      | cons y l =>
        refine .cons ?_ (ih l (by simpa using h6) fun i v' hi => by simpa using h7 (i + 1) v' (by simpa using hi))
        obtain ⟨z, h8, h9, _⟩ := h7 0 y rfl
        have : x = z := by simpa using h8
        subst this
        exact h9 u hx
  · exact hC g args res out h
end
end Go.Proofs.YtjjbafgbbkehjaaGreat.Lib

/- What leaves a call. No condition. -/
namespace Go.Proofs.YtjjbafgbbkehjaaGreat.Lib
open Go Go.RowKit
set_option linter.unusedVariables false
set_option linter.unusedSimpArgs false
theorem nodup_spec : ∀ {l : List Nat}, nodup l = true → ∀ (i j : Nat) (a : Nat), l[i]? = some a → l[j]? = some a → i = j
  | [], _, i, j, a, h, _ => by simp at h
  | x :: l, hn, i, j, a, hi, hj => by
    simp only [nodup, Bool.and_eq_true, Bool.not_eq_true'] at hn
    cases i with
    | zero =>
      cases j with
      | zero => rfl
      | succ j =>
        simp at hi hj
        subst hi
        have := List.mem_of_getElem? hj
        simp [this] at hn
    | succ i =>
      cases j with
      | zero =>
        simp at hi hj
        subst hj
        have := List.mem_of_getElem? hi
        simp [this] at hn
      | succ j =>
        simp at hi hj
        rw [nodup_spec hn.2 i j a hi hj]
theorem nodup_fst {js : List (Nat × Nat)} (h : leaveOk js = true) {i j k : Nat} (h1 : (i, j) ∈ js) (h2 : (i, k) ∈ js) : j = k := by
  simp only [leaveOk, Bool.and_eq_true] at h
  obtain ⟨a, ha⟩ := List.getElem?_of_mem h1
  obtain ⟨b, hb⟩ := List.getElem?_of_mem h2
  have := nodup_spec h.1 a b i (by rw [List.getElem?_map, ha]; rfl) (by rw [List.getElem?_map, hb]; rfl)
  subst this
  rw [ha] at hb
  cases hb; rfl
theorem nodup_snd {js : List (Nat × Nat)} (h : leaveOk js = true) {i j k : Nat} (h1 : (i, k) ∈ js) (h2 : (j, k) ∈ js) : i = j := by
  simp only [leaveOk, Bool.and_eq_true] at h
  obtain ⟨a, ha⟩ := List.getElem?_of_mem h1
  obtain ⟨b, hb⟩ := List.getElem?_of_mem h2
  have := nodup_spec h.2 a b k (by rw [List.getElem?_map, ha]; rfl) (by rw [List.getElem?_map, hb]; rfl)
  subst this
  rw [ha] at hb
  cases hb; rfl
section
variable {P : Program} {E : Env} {B : Nat} {O : Ow} {w0 w w' : World} {ρ ρ' : CEnv} {a : Act} {R : Type} {r : R} {sg sg' : Sig} {st : St} {call : CallFn}
/-- What leaves: each row by its new number. -/
def Out (sg out : Sig) (js : List (Nat × Nat)) : Prop := ∀ i b, out.get i = some b → ∃ j, (i, j) ∈ js ∧ sg.get j = some b ∧ ∃ e t l q, b = .arr e t l q
theorem leaveCells_sound (h : Mem B O ρ sg w) : ∀ {cs : List Cell} {n : Nat} {vs : List Value} {cs' : List Cell} {out : Sig} {js : List (Nat × Nat)}, All2 (rc ρ w) cs vs → leaveCells sg cs n = some (cs', out, js) →
    (∀ L : Nat → Loc, (∀ i j, (i, j) ∈ js → L i = ρ.loc j) → All2 (rc ⟨L, ρ.ok⟩ w) cs' vs) ∧ Out sg out js ∧ (∀ d, cs'.any (·.uses d) = true → (out.get d).isSome = true)
  | [], n, vs, cs', out, js, hr, hl => by
    simp only [leaveCells, Option.some.injEq, Prod.mk.injEq] at hl
    obtain ⟨rfl, rfl, rfl⟩ := hl
    cases hr
    exact ⟨fun _ _ => .nil, (fun i b hi => by cases hi), fun d hd => by cases hd⟩
  | c :: cs, n, vs, cs', out, js, hr, hl => by
    cases hr with
    | @cons _ u0 _ us h0 h1 =>
    simp only [leaveCells] at hl
    split at hl
    · rename_i cs1 out1 js1 hrec
      obtain ⟨i1, i2, i3⟩ := leaveCells_sound h h1 hrec
      have plain : ∀ {d : Cell}, (∀ x, d.uses x = false) → rc ρ w d u0 → (cs', out, js) = (d :: cs1, out1, js1) → (∀ L : Nat → Loc, (∀ i j, (i, j) ∈ js → L i = ρ.loc j) → All2 (rc ⟨L, ρ.ok⟩ w) cs' (u0 :: us)) ∧ Out sg out js ∧ (∀ d, cs'.any (·.uses d) = true → (out.get d).isSome = true) := by
        intro d hu hd he
        cases he
        refine ⟨fun L hL => .cons (rc_step (ρ := ρ) (ρ' := ⟨L, ρ.ok⟩) (w := w) (U := fun _ => False) ⟨fun _ h => h.elim, fun _ _ h => h, fun _ _ _ => rfl⟩ (fun x hx => by rw [hu x] at hx; cases hx) hd) (i1 L hL), i2, fun x hx => ?_⟩
        simp only [List.any_cons, hu x, Bool.false_or] at hx
        exact i3 x hx
      split at hl
      · rename_i j
        split at hl
        · rename_i e t l b hj
          simp only [Option.some.injEq, Prod.mk.injEq] at hl
          obtain ⟨rfl, rfl, rfl⟩ := hl
          refine ⟨fun L hL => .cons ?_ (i1 L (fun i j hij => hL i j (List.mem_cons_of_mem _ hij))), fun i b' hi => ?_, fun x hx => ?_⟩
          · obtain ⟨g, sz, h2⟩ := h0
            exact ⟨g, sz, (hL _ j List.mem_cons_self).trans h2⟩
          · simp only [Sig.get, bifs] at hi
            split at hi
            · rename_i he
              cases hi
              have he := eq_of_beq he
              subst he
              exact ⟨j, List.mem_cons_self, hj, _, _, _, _, rfl⟩
            · obtain ⟨j', a1, a2⟩ := i2 i b' hi
              exact ⟨j', List.mem_cons_of_mem _ a1, a2⟩
          · simp only [List.any_cons, Bool.or_eq_true] at hx
            simp only [Sig.get, bifs]
            split
            · rfl
            · rename_i hne
              rcases hx with hx | hx
              · exact absurd hx hne
              · exact i3 x hx
        · rename_i e t l b hj
          simp only [Option.some.injEq] at hl
          exact plain (fun _ => rfl) ((fro_row h hj).1 _ h0) hl.symm
        · cases hl
      · rename_i j o m
        split at hl
        · rename_i e t l b hj
          simp only [Option.some.injEq] at hl
          exact plain (fun _ => rfl) ((fro_row h hj).2 _ _ _ h0) hl.symm
        · cases hl
      · cases hl
      · cases hl
      · cases hl
      · rename_i n1 n2 n3 n4 n5
        simp only [Option.some.injEq] at hl
        refine plain (fun x => ?_) h0 hl.symm
        cases c <;> first | rfl | exact absurd rfl (n1 _) | exact absurd rfl (n2 _ _ _) | exact absurd rfl (n3 _ _ _) | exact absurd rfl (n4 _ _)
    · cases hl
theorem Out.append {out out' : Sig} {js js' : List (Nat × Nat)} (h : Out sg out js) (h' : Out sg out' js') : Out sg (out ++ out') (js ++ js') := by
  intro i b hi
  rw [Sig.get_append] at hi
  cases ho : out.get i with
  | some b0 =>
    rw [ho] at hi
    cases hi
    obtain ⟨j, a1, a2⟩ := h i _ ho
    exact ⟨j, List.mem_append_left _ a1, a2⟩
  | none =>
    rw [ho] at hi
    obtain ⟨j, a1, a2⟩ := h' i b hi
    exact ⟨j, List.mem_append_right _ a1, a2⟩
theorem pairOf_sound {v : AV} {u : Value} {g : Bool} {cs : List Cell} (hr : rav ρ w v u) (hp : pairOf v = some (g, cs)) : rp ρ w (g, cs) u := by
  unfold pairOf at hp
  split at hp
  · cases hp; exact ⟨_, rfl, hr⟩
  · cases hp; exact hr
  · cases hp
theorem rp_cells {g : Bool} {cs : List Cell} {u : Value} (h : rp ρ w (g, cs) u) : ∃ vs, All2 (rc ρ w) cs vs ∧ ∀ (ρ' : CEnv) (cs' : List Cell), All2 (rc ρ' w) cs' vs → rp ρ' w (g, cs') u := by
  cases g with
  | true =>
    obtain ⟨vs, rfl, h⟩ := h
    exact ⟨vs, h, fun ρ' cs' h' => ⟨vs, rfl, h'⟩⟩
  | false =>
    obtain ⟨c, rfl, h⟩ := h
    refine ⟨[u], .cons h .nil, fun ρ' cs' h' => ?_⟩
    cases h' with
    | cons h1 h2 => cases h2; exact ⟨_, rfl, h1⟩
theorem leaveTup_sound (h : Mem B O ρ sg w) : ∀ {vs : List AV} {n : Nat} {us : List Value} {ps : List (Bool × List Cell)} {out : Sig} {js : List (Nat × Nat)}, All2 (rav ρ w) vs us → leaveTup sg vs n = some (ps, out, js) →
    (∀ L : Nat → Loc, (∀ i j, (i, j) ∈ js → L i = ρ.loc j) → All2 (rp ⟨L, ρ.ok⟩ w) ps us) ∧ Out sg out js ∧ (∀ d, ps.any (·.2.any (·.uses d)) = true → (out.get d).isSome = true)
  | [], n, us, ps, out, js, hr, hl => by
    simp only [leaveTup, Option.some.injEq, Prod.mk.injEq] at hl
    obtain ⟨rfl, rfl, rfl⟩ := hl
    cases hr
    exact ⟨fun _ _ => .nil, (fun i b hi => by cases hi), fun d hd => by cases hd⟩
  | v :: vs, n, us, ps, out, js, hr, hl => by
    cases hr with
    | @cons _ u0 _ us h0 h1 =>
    simp only [leaveTup] at hl
    split at hl
    · rename_i g cs hp
      split at hl
      · rename_i cs1 out1 js1 ps2 out2 js2 hc ht
        simp only [Option.some.injEq, Prod.mk.injEq] at hl
        obtain ⟨rfl, rfl, rfl⟩ := hl
        obtain ⟨vs0, a1, a2⟩ := rp_cells (pairOf_sound h0 hp)
        obtain ⟨b1, b2, b3⟩ := leaveCells_sound h a1 hc
        obtain ⟨c1, c2, c3⟩ := leaveTup_sound h h1 ht
        refine ⟨fun L hL => .cons (a2 _ _ (b1 L fun i j hij => hL i j (List.mem_append_left _ hij))) (c1 L fun i j hij => hL i j (List.mem_append_right _ hij)), b2.append c2, fun d hd => ?_⟩
        rw [Sig.get_append]
        simp only [List.any_cons, Bool.or_eq_true] at hd
        rcases hd with hd | hd
        · have := b3 d hd
          obtain ⟨b, hb⟩ := Option.isSome_iff_exists.1 this
          rw [hb]; rfl
        · have := c3 d hd
          cases hb : out1.get d with
          | some b => rfl
          | none => exact this
      · cases hl
    · cases hl
/-- The results, laid into a memory of their own numbers. -/
theorem leave_mem (h : Mem B O ρ sg w) {out : Sig} {js : List (Nat × Nat)} (ho : Out sg out js) (hj : leaveOk js = true) :
    ∃ L : Nat → Loc, (∀ i j, (i, j) ∈ js → L i = ρ.loc j) ∧ Mem B O ⟨L, ρ.ok⟩ out w := by
  have hex : ∀ i, ∃ l : Loc, ∀ j, (i, j) ∈ js → l = ρ.loc j := by
    intro i
    by_cases hi : ∃ j, (i, j) ∈ js
    · obtain ⟨j, hj1⟩ := hi
      exact ⟨ρ.loc j, fun k hk => by rw [nodup_fst hj hj1 hk]⟩
    · exact ⟨.dead, fun j hj => absurd ⟨j, hj⟩ hi⟩
  refine ⟨fun i => Classical.choose (hex i), fun i j hij => Classical.choose_spec (hex i) j hij, ?_⟩
  have hL : ∀ i j, (i, j) ∈ js → Classical.choose (hex i) = ρ.loc j := fun i j hij => Classical.choose_spec (hex i) j hij
  have hown : ∀ i g, Owns ⟨fun i => Classical.choose (hex i), ρ.ok⟩ out i g → ∃ j, (i, j) ∈ js ∧ Owns ρ sg j g := by
    intro i g hi
    obtain ⟨b, h1, h2, h3⟩ := owns_iff.1 hi
    obtain ⟨j, a1, a2, e, t, l, q, rfl⟩ := ho i b h1
    refine ⟨j, a1, owns_iff.2 ⟨_, a2, h2, ?_⟩⟩
    rcases h3 with ⟨_, _, h3, _⟩ | ⟨_, _, _, _, _, h3⟩
    · cases h3
    · refine .inr ⟨_, _, _, _, rfl, ?_⟩
      obtain ⟨v, sz, h3⟩ := h3
      exact ⟨v, sz, (hL i j a1).symm.trans h3⟩
  refine ⟨fun i b hi => ?_, fun i k g hi hk => ?_, fun i g hi => ?_, h.okb, fun q g hq i hi => ?_, h.okm, h.okx, h.oky, fun i b d hi hd => ?_⟩
  · obtain ⟨j, a1, a2, e, t, l, q, rfl⟩ := ho i b hi
    obtain ⟨v, g, xs, b1, b2⟩ := h.blk j _ a2
    exact ⟨v, g, xs, (hL i j a1).trans b1, b2⟩
  · obtain ⟨j, a1, a2⟩ := hown i g hi
    obtain ⟨j', a3, a4⟩ := hown k g hk
    have := h.inj j j' g a2 a4
    subst this
    exact nodup_snd hj a1 a3
  · obtain ⟨j, a1, a2⟩ := hown i g hi
    exact h.old j g a2
  · obtain ⟨j, a1, a2⟩ := hown i g hi
    exact h.oko q g hq j a2
  · obtain ⟨j, a1, a2, e, t, l, q, rfl⟩ := ho i b hi
    cases hd
end
end Go.Proofs.YtjjbafgbbkehjaaGreat.Lib

/- Calls that write the rows they are given: what the caller has then. No condition. -/
namespace Go.Proofs.YtjjbafgbbkehjaaGreat.Lib
open Go Go.RowKit
set_option linter.unusedVariables false
set_option linter.unusedSimpArgs false
section
variable {P : Program} {E : Env} {B : Nat} {O O' : Ow} {w0 w w' : World} {ρ ρ' : CEnv} {a : Act} {R : Type} {r : R} {sg sg' : Sig} {st : St} {call : CallFn}
theorem Mem.ow (h : Mem B O ρ sg w) (h1 : O'.o = O.o) (h2 : O'.ok0 = O.ok0) : Mem B O' ρ sg w :=
  ⟨h.blk, h.inj, fun j g hj => by rw [h1]; exact h.old j g hj, h.okb, h.oko, h.okm, fun b g hg => by rw [h1, h2]; exact h.okx b g hg, fun b g hg => h.oky b g (by rw [← h2]; exact hg), h.dom⟩
theorem plain_rc {c : Cell} {v : Value} (hp : c.plain = true) (h : rc ρ w c v) : rc ρ' w' c v := by
  cases c with
  | int k n => exact h
  | bool b => exact h
  | str s => exact h
  | _ => cases hp
theorem plain_rav {x : AV} {v : Value} (hp : x.plain = true) (h : rav ρ w x v) : rav ρ' w' x v := by
  cases x with
  | one c => exact plain_rc hp h
  | agg cs =>
    obtain ⟨vs, h0, h1⟩ := h
    exact ⟨vs, h0, h1.imp fun c v hc h => plain_rc (List.all_eq_true.1 hp c hc) h⟩
  | tup ps => cases hp
theorem plain_cell {c : Cell} (hp : c.plain = true) (d : Nat) : c.uses d = false := by
  cases c with
  | int k n => rfl
  | bool b => rfl
  | str s => rfl
  | _ => cases hp
theorem plain_uses {x : AV} (hp : x.plain = true) (d : Nat) : x.uses d = false := by
  cases x with
  | one c => exact plain_cell hp d
  | agg cs =>
    cases h : (AV.agg cs).uses d with
    | false => rfl
    | true =>
      obtain ⟨c, hc, hu⟩ := List.any_eq_true.1 h
      rw [plain_cell (List.all_eq_true.1 hp c hc) d] at hu
      cases hu
  | tup ps => cases hp
theorem backOf_mem {js : List (Nat × Nat)} {i j : Nat} (h : backOf js j = some i) : (i, j) ∈ js := by
  induction js with
  | nil => cases h
  | cons q r ih =>
    obtain ⟨i', j'⟩ := q
    simp only [backOf, bifs, beq_iff_eq] at h
    split at h
    · rename_i he; cases h; rw [he]; exact List.mem_cons_self
    · exact List.mem_cons_of_mem _ (ih h)
theorem backOf_some {js : List (Nat × Nat)} {i j : Nat} (h : (i, j) ∈ js) : ∃ i', backOf js j = some i' := by
  induction js with
  | nil => cases h
  | cons q r ih =>
    obtain ⟨i0, j0⟩ := q
    simp only [backOf, bifs, beq_iff_eq]
    split
    · exact ⟨_, rfl⟩
    · rename_i hn
      rcases List.mem_cons.1 h with h | h
      · cases h; exact absurd rfl hn
      · exact ih h
theorem get_over (js : List (Nat × Nat)) (upd sg : Sig) (j : Nat) : (overSg js upd sg).get j = (sg.get j).map fun b => (match overB js upd j with | some b' => b' | none => b) := by
  induction sg with
  | nil => rfl
  | cons q r ih =>
    obtain ⟨i, b⟩ := q
    simp only [overSg, Sig.get, ih, bifs, beq_iff_eq]
    split
    · rename_i he; subst he; rfl
    · rfl
/-- Some rows have other contents now, at their old places. -/
theorem Mem.over (h : Mem B O ρ sg w) {js : List (Nat × Nat)} {upd : Sig}
    (hf : ∀ j b', overB js upd j = some b' → (sg.get j).isSome = true → (∃ e t l q, sg.get j = some (.arr e t l q)) ∧ (∃ e t l q, b' = .arr e t l q) ∧ rblk ρ w' j b')
    (hw : ∀ k, k < w.heap.size → (∀ i j, (i, j) ∈ js → ¬ Owns ρ sg j k) → w'.heap[k]? = w.heap[k]?) (hs : w.heap.size ≤ w'.heap.size)
    (hj : ∀ i j k, (i, j) ∈ js → Owns ρ sg j k → overB js upd j = none → w'.heap[k]? = w.heap[k]?) : Mem B O ρ (overSg js upd sg) w' := by
  have hown : ∀ j g, Owns ρ (overSg js upd sg) j g → Owns ρ sg j g := by
    intro j g ho
    obtain ⟨b', h1, h2, h3⟩ := owns_iff.1 ho
    rw [get_over, Option.map_eq_some_iff] at h1
    obtain ⟨b, h4, h5⟩ := h1
    cases hb : overB js upd j with
    | none =>
      rw [hb] at h5
      simp only at h5
      subst h5
      exact owns_iff.2 ⟨b, h4, h2, h3⟩
    | some b0 =>
      rw [hb] at h5
      simp only at h5
      subst h5
      obtain ⟨⟨e, t, l, q, h6⟩, ⟨e', t', l', q', rfl⟩, _⟩ := hf j b0 hb (by rw [h4]; rfl)
      refine owns_iff.2 ⟨_, h6, by simp, .inr ⟨_, _, _, _, rfl, ?_⟩⟩
      rcases h3 with ⟨_, _, h3, _⟩ | ⟨_, _, _, _, _, h3⟩
      · cases h3
      · exact h3
  have hok : ∀ b g, ρ.ok b g → w'.heap[g]? = w.heap[g]? := fun b g hg => hw g (h.okb b g hg) fun i j _ => h.oko b g hg j
  have hstep : Step (fun _ => True) ρ ρ w w' := ⟨fun _ _ => rfl, fun _ _ h => h, hok⟩
  refine ⟨fun j b' hb' => ?_, fun i j g hi hj => h.inj i j g (hown i g hi) (hown j g hj), fun j g hg => h.old j g (hown j g hg), fun b g hg => Nat.lt_of_lt_of_le (h.okb b g hg) hs, fun b g hg j hj => h.oko b g hg j (hown j g hj), h.okm, h.okx, h.oky, fun j b' d hb' hd => ?_⟩
  · rw [get_over, Option.map_eq_some_iff] at hb'
    obtain ⟨b, h4, h5⟩ := hb'
    cases hb : overB js upd j with
    | some b0 =>
      rw [hb] at h5
      simp only at h5
      subst h5
      exact (hf j b0 hb (by rw [h4]; rfl)).2.2
    | none =>
      rw [hb] at h5
      simp only at h5
      subst h5
      refine rblk_step hstep trivial (fun _ _ => trivial) (fun g hg hn => ?_) (h.blk j b h4)
      have ho : Owns ρ sg j g := by
        refine owns_iff.2 ⟨b, h4, hn, ?_⟩
        have hr := h.blk j b h4
        cases b with
        | fro e t l q => exact absurd rfl (hn e t l q)
        | box ty cs =>
          refine .inl ⟨ty, cs, rfl, ?_⟩
          rcases hg with hg | ⟨v, sz, hg⟩
          · exact hg
          · obtain ⟨g', vs, h3, _⟩ := hr
            rw [hg] at h3; cases h3
        | arr e t l q =>
          refine .inr ⟨e, t, l, q, rfl, ?_⟩
          rcases hg with hg | hg
          · obtain ⟨v', g', xs, h3, _⟩ := hr
            rw [hg] at h3; cases h3
          · exact hg
      by_cases hin : ∃ i, (i, j) ∈ js
      · obtain ⟨i, hi⟩ := hin
        exact hj i j g hi ho hb
      · refine hw g (h.lt ho) fun i k hk hk' => hin ⟨i, ?_⟩
        have := h.inj k j g hk' ho
        subst this
        exact hk
  · rw [get_over, Option.map_eq_some_iff] at hb'
    obtain ⟨b, h4, h5⟩ := hb'
    rw [get_over, Option.isSome_map]
    cases hb : overB js upd j with
    | some b0 =>
      rw [hb] at h5
      simp only at h5
      subst h5
      obtain ⟨_, ⟨e', t', l', q', rfl⟩, _⟩ := hf j b0 hb (by rw [h4]; rfl)
      cases hd
    | none =>
      rw [hb] at h5
      simp only at h5
      subst h5
      exact h.dom j b d h4 hd
theorem avOf_rav {p : Bool × List Cell} {v : Value} (h : rp ρ w p v) : rav ρ w (avOf p) v := by
  obtain ⟨g, cs⟩ := p
  cases g with
  | true => exact h
  | false => obtain ⟨c, rfl, h⟩ := h; exact h
theorem avOf_uses {p : Bool × List Cell} {d : Nat} (h : (avOf p).uses d = true) : p.2.any (·.uses d) = true := by
  obtain ⟨g, cs⟩ := p
  cases g with
  | true => exact h
  | false =>
    have h : (oneOf cs).uses d = true := h
    unfold oneOf at h
    split at h
    · simpa [AV.uses] using h
    · cases h
/-- Of what a summary takes, nothing owns more than what was there. -/
theorem bld_owns (w : World) (hm : ∀ g, ρ.ok false g → ρ.ok true g) {ss : List SP} {gs : List (Nat × GP)} {v : StT ss gs} (hc : capSt ss gs st = some v) {j g : Nat} (hj : Owns ρ (bldSt ss gs v).sg j g) : Owns ρ st.sg j g := by
  unfold capSt at hc
  obtain ⟨h1, _, _⟩ := SPs.sound (w := w) hm hc
  obtain ⟨h4, _⟩ := GPs.sound (w := w) hm h1
  unfold Owns at hj
  cases hb : (bldSt ss gs v).sg.get j with
  | none => rw [hb] at hj; exact hj.elim
  | some b' =>
    obtain ⟨b, h6, h7, h8, h9⟩ := h4 j b' hb
    rw [hb] at hj
    exact h8 g (by cases b' <;> exact hj)
theorem bld_arr (w : World) (hm : ∀ g, ρ.ok false g → ρ.ok true g) {ss : List SP} {gs : List (Nat × GP)} {v : StT ss gs} (hc : capSt ss gs st = some v) {j : Nat} (hj : ((bldSt ss gs v).sg.get j).isSome = true) : (st.sg.get j).isSome = true := by
  unfold capSt at hc
  obtain ⟨h1, _, _⟩ := SPs.sound (w := w) hm hc
  obtain ⟨h4, _⟩ := GPs.sound (w := w) hm h1
  obtain ⟨b', hb⟩ := Option.isSome_iff_exists.1 hj
  obtain ⟨b, h6, _⟩ := h4 j b' hb
  rw [h6]; rfl
theorem vmark_sound (h : Sim B O w0 ρ st a w) {o : Oper} {c : Call} {g : FuncId} (ho : o.op = .call c) (hc : c.callee = .value (.func g)) {m : Mrk} (hm : MarkOk P g m) {k : St → Option R} (hk : vmarkOp st o.dst m (c.args.toList.map (evalO st.sl)) k = some r)
    {next : Act → World → Prop} {Q : Exit → Act → World → Prop} (hnext : ∀ ρ' st' a' w', k st' = some r → Sim B O w0 ρ' st' a' w' → next a' w') : o.wp P a w next Q := by
  unfold vmarkOp at hk
  split at hk
  · rename_i ps out js ht
    rw [bifs] at hk
    split at hk
    · rename_i hj
      split at hk
      · rename_i v hv
        rw [Ways.run_bind, Option.bind_eq_some_iff] at hk
        obtain ⟨⟨res, upd⟩, hF, hk⟩ := hk
        simp only [bifs] at hk
        split at hk
        · rename_i hpl
          rw [Bool.and_eq_true] at hpl
          have hav : All2 (rav ρ w) (c.args.toList.map (evalO st.sl)) (c.args.toList.map a.eval) := by
            induction c.args.toList with
            | nil => exact .nil
            | cons x xs ih => exact .cons (h.eval x).1 ih
          obtain ⟨b1, b2, b3⟩ := leaveTup_sound h.mem hav ht
          obtain ⟨L, c1, c2⟩ := leave_mem h.mem b2 hj
          have hargs := b1 L c1
          obtain ⟨hwf, ⟨fn, hfn, hbody, hname⟩, hcalls⟩ := hm
          have hS : Sim B ⟨O.o, O.ok0, L⟩ w ⟨L, ρ.ok⟩ ⟨ps.map avOf, out⟩ { tmps := (c.args.toList.map a.eval).toArray, defers := [] } w := by
            have hal : All2 (rav ⟨L, ρ.ok⟩ w) (ps.map avOf) (c.args.toList.map a.eval) := hargs.map_left _ fun p u _ h => avOf_rav h
            refine ⟨c2.ow rfl rfl, by simp [← hal.length], fun i v hi => ?_, fun i v d hi hd => ?_, rfl, Keeps.refl _ _ _, h.base, fun _ _ => rfl⟩
            · obtain ⟨u, h1, h2⟩ := hal.get i hi
              exact ⟨u, by simpa using h1, h2⟩
            · simp only [List.getElem?_map, Option.map_eq_some_iff] at hi
              obtain ⟨p, hp, rfl⟩ := hi
              exact b3 d (List.any_eq_true.2 ⟨p, List.mem_of_getElem? hp, avOf_uses hd⟩)
          have hcl := hcalls v res upd hF _ _ _ _ _ (hS.cap hwf hv)
          have hrun : (execOp a.eval o).run P w = .ok (.enter g (c.args.toList.map a.eval).toArray) w := by
            have hargs : (c.args.toList.map a.eval).toArray = c.args.map a.eval := by
              apply Array.ext'
              simp
            rw [hargs]
            unfold execOp
            have hbn : ¬ (fn.body = none) := by intro hb; rw [hb] at hbody; cases hbody
            have hnn : ¬ (fn.name = "runtime.NumGoroutine") := by intro hn; rw [hn] at hname; simp at hname
            have hfe : a.eval (.func g) = .func (.func g) #[] #[] := rfl
            simp [ho, hc, resolve, hfe, Deferred.ofValue, Sem.run_bind, invoke, callFunc, hfn]
            rw [if_neg hnn, if_neg hbn]
          unfold Oper.wp
          rw [hrun, Oper.upon_enter]
          refine hcl.mono fun e w' hh => ?_
          obtain ⟨u, rfl, hr, hupd, hos, htape, hout, hsz, hfr⟩ := hh
          have hL : ∀ i j, (i, j) ∈ js → L i = ρ.loc j := c1
          have hown : ∀ i g, Owns ⟨L, ρ.ok⟩ out i g → ∃ j, (i, j) ∈ js ∧ Owns ρ st.sg j g := by
            intro i g hi
            obtain ⟨b, h1, h2, h3⟩ := owns_iff.1 hi
            obtain ⟨j, a1, a2, e, t, l, q, rfl⟩ := b2 i b h1
            refine ⟨j, a1, owns_iff.2 ⟨_, a2, h2, ?_⟩⟩
            rcases h3 with ⟨_, _, h3, _⟩ | ⟨_, _, _, _, _, h3⟩
            · cases h3
            · refine .inr ⟨_, _, _, _, rfl, ?_⟩
              obtain ⟨v, sz, h3⟩ := h3
              exact ⟨v, sz, (hL i j a1).symm.trans h3⟩
          have hframe : ∀ k, k < w.heap.size → (∀ i j, (i, j) ∈ js → ¬ Owns ρ st.sg j k) → w'.heap[k]? = w.heap[k]? := by
            intro k hk hn
            refine hfr k hk fun i hi => ?_
            obtain ⟨j, h1, h2⟩ := hown i k (bld_owns w (ρ := ⟨L, ρ.ok⟩) (st := ⟨ps.map avOf, out⟩) h.mem.okm hv hi)
            exact hn i j h1 h2
          have hup : ∀ j b', overB js upd j = some b' → (∃ e t l q, st.sg.get j = some (.arr e t l q)) ∧ (∃ e t l q, b' = .arr e t l q) ∧ rblk ρ w' j b' := by
            intro j b' hb
            unfold overB at hb
            split at hb
            · rename_i i hi
              have hij := backOf_mem hi
              obtain ⟨⟨e, t, l, q, h1⟩, ⟨e', t', l', q', rfl⟩, h3⟩ := hupd i b' hb
              have h4 := bld_arr w (ρ := ⟨L, ρ.ok⟩) (st := ⟨ps.map avOf, out⟩) h.mem.okm hv (j := i) (by rw [h1]; rfl)
              obtain ⟨b0, h5⟩ := Option.isSome_iff_exists.1 h4
              obtain ⟨j', h6, h7, e2, t2, l2, q2, rfl⟩ := b2 i b0 h5
              have := nodup_fst hj h6 hij
              subst this
              refine ⟨⟨_, _, _, _, h7⟩, ⟨_, _, _, _, rfl⟩, ?_⟩
              obtain ⟨va, gg, xs, d1, d2⟩ := h3
              exact ⟨va, gg, xs, (hL i _ h6).symm.trans d1, d2⟩
            · cases hb
          have hquiet : ∀ i j k, (i, j) ∈ js → Owns ρ st.sg j k → overB js upd j = none → w'.heap[k]? = w.heap[k]? := by
            intro i j k hij hjk hnone
            obtain ⟨i', hi'⟩ := backOf_some hij
            have h1 := List.all_eq_true.1 hpl.2 _ (backOf_mem hi')
            unfold overB at hnone
            rw [hi'] at hnone
            simp only at hnone h1
            rw [hnone] at h1
            cases h1
          have hM := h.mem.over (w' := w') (js := js) (upd := upd) (fun j b' hb _ => hup j b' hb) hframe hsz hquiet
          have hok : ∀ b g, ρ.ok b g → w'.heap[g]? = w.heap[g]? := fun b g hg => hframe g (h.mem.okb b g hg) fun i j _ => h.mem.oko b g hg j
          have hstep : Step (fun _ => True) ρ ρ w w' := ⟨fun _ _ => rfl, fun _ _ h => h, hok⟩
          have hkp : Keeps B O w w' := ⟨hos, htape, hout, hsz, fun k hk hn => hframe k (Nat.lt_of_lt_of_le hk h.base) fun i j _ hjk => by
            rcases h.mem.old j k hjk with h0 | h0
            · omega
            · exact hn h0⟩
          have hS' : Sim B O w0 ρ ⟨st.sl, overSg js upd st.sg⟩ a w' := by
            refine ⟨hM, h.len, fun i v hi => ?_, fun i v d hi hd => ?_, h.defers, h.fr.trans hkp, Nat.le_trans h.base hsz, h.pin⟩
            · obtain ⟨u, h1, h2⟩ := h.sl i v hi
              exact ⟨u, h1, rav_step hstep (fun _ _ => trivial) h2⟩
            · show (Sig.get d (overSg js upd st.sg)).isSome = true
              rw [get_over, Option.isSome_map]
              exact h.dom i v d hi hd
          exact hnext ρ _ _ w' hk (hS'.put o.dst (plain_rav hpl.1 hr) (fun d hd => by rw [plain_uses hpl.1 d] at hd; cases hd))
        · cases hk
      · cases hk
    · cases hk
  · cases hk
end
end Go.Proofs.YtjjbafgbbkehjaaGreat.Lib

/- The call operation; all operations. No condition. -/
namespace Go.Proofs.YtjjbafgbbkehjaaGreat.Lib
open Go Go.RowKit
set_option linter.unusedVariables false
set_option linter.unusedSimpArgs false
section
variable {P : Program} {E : Env} {B : Nat} {O : Ow} {w0 w w' : World} {ρ ρ' : CEnv} {a : Act} {R : Type} {r : R} {sg sg' : Sig} {st : St} {call : CallFn}
theorem get_shift_or (out : Sig) (d i : Nat) : (out.shift d).get i = if d ≤ i then (out.get (i - d)).map (·.shift d) else none := by
  split
  · rename_i h
    have := Sig.get_shift out d (i - d)
    rwa [Nat.sub_add_cancel h] at this
  · exact Sig.get_shift_none out d i (by omega)
/-- The world has moved on below what is one's own: nothing of it has changed. -/
theorem Sim.below (h : Sim B O w0 ρ st a w) (hb : Below w.heap.size w w') : Sim B O w0 ρ st a w' := by
  have hst : Step (fun _ => True) ρ ρ w w' := ⟨fun _ _ => rfl, fun _ _ h => h, fun b g hg => hb.block g (h.mem.okb b g hg)⟩
  refine ⟨⟨fun j b hj => ?_, h.mem.inj, h.mem.old, fun b g hg => Nat.lt_of_lt_of_le (h.mem.okb b g hg) hb.size, h.mem.oko, h.mem.okm, h.mem.okx, h.mem.oky, h.mem.dom⟩, h.len, fun i v hi => ?_, h.dom, h.defers,
    h.fr.trans ⟨hb.os, hb.tape, hb.output, hb.size, fun g h1 _ => hb.block g (Nat.lt_of_lt_of_le h1 h.base)⟩, Nat.le_trans h.base hb.size, h.pin⟩
  · refine rblk_step hst trivial (fun _ _ => trivial) (fun g hg hf => ?_) (h.mem.blk j b hj)
    have ho : Owns ρ st.sg j g := by
      refine owns_iff.2 ⟨b, hj, hf, ?_⟩
      have hr := h.mem.blk j b hj
      cases b with
      | fro e t l q => exact absurd rfl (hf e t l q)
      | box ty cs =>
        refine .inl ⟨ty, cs, rfl, ?_⟩
        rcases hg with hg | ⟨v, sz, hg⟩
        · exact hg
        · obtain ⟨g', vs, h3, _⟩ := hr
          rw [hg] at h3; cases h3
      | arr e t l q =>
        refine .inr ⟨e, t, l, q, rfl, ?_⟩
        rcases hg with hg | hg
        · obtain ⟨v', g', xs, h3, _⟩ := hr
          rw [hg] at h3; cases h3
        · exact hg
    exact hb.block g (h.mem.lt ho)
  · obtain ⟨u, hu, hr⟩ := h.sl i v hi
    exact ⟨u, hu, rav_step hst (fun _ _ => trivial) hr⟩
/-- What a call hands back is taken in. -/
theorem Sim.import (h : Sim B O w0 ρ st a w) (hb : Below w.heap.size w w') {ρr : CEnv} {out : Sig} {res : AV} {v : Value} {d : Nat} (hM : Mem w.heap.size ⟨fun _ => False, ρ.ok, ρ.loc⟩ ρr out w') (hr : rav ρr w' res v) (hu : ∀ x, res.uses x = true → (out.get x).isSome = true)
    (hfr : ∀ q ∈ out, st.sg.free (q.1 + d) = true) :
    ∃ ρ', Sim B O w0 ρ' ⟨st.sl.set d (res.shift d), out.shift d ++ st.sg⟩ (a.put (some d) v) w' := by
  have hok := hM.oky
  have hold : ∀ b g, ρr.ok b g → ρ.ok b g ∨ w.heap.size ≤ g := fun b g hg => by
    rcases hM.okx b g hg with h1 | h1 | h1
    · exact .inl h1
    · exact .inr h1
    · exact h1.elim
  let ρ2 : CEnv := ⟨fun i => if d ≤ i ∧ (out.get (i - d)).isSome = true then ρr.loc (i - d) else ρ.loc i, ρr.ok⟩
  have hin : ∀ j, (out.get j).isSome = true → ρ2.loc (j + d) = ρr.loc j := by
    intro j hj
    show (if _ then _ else _) = _
    rw [if_pos ⟨by omega, by rw [Nat.add_sub_cancel]; exact hj⟩, Nat.add_sub_cancel]
  have hdis : ∀ i, (st.sg.get i).isSome = true → ¬ (d ≤ i ∧ (out.get (i - d)).isSome = true) := by
    rintro i hi ⟨h1, h2⟩
    obtain ⟨b, hb⟩ := Option.isSome_iff_exists.1 h2
    have := hfr _ (Sig.get_mem hb)
    rw [Nat.sub_add_cancel h1] at this
    have hpp := (Sig.free_iff.1 this).2
    have this := (Sig.free_iff.1 this).1
    rw [this] at hi
    cases hi
  have hout : ∀ i, (st.sg.get i).isSome = true → ρ2.loc i = ρ.loc i := fun i hi => by
    show (if _ then _ else _) = _
    rw [if_neg (hdis i hi)]
  have hget : ∀ i, (out.shift d ++ st.sg).get i = if d ≤ i ∧ (out.get (i - d)).isSome = true then (out.get (i - d)).map (·.shift d) else st.sg.get i := by
    intro i
    rw [Sig.get_append, get_shift_or]
    by_cases h1 : d ≤ i
    · rw [if_pos h1]
      cases h2 : out.get (i - d) with
      | none => simp
      | some b => simp [h1]
    · rw [if_neg h1, if_neg (fun h => h1 h.1)]; rfl
  have hb' := h.below hb
  have hst : Step (fun i => (st.sg.get i).isSome = true) ρ ρ2 w' w' := ⟨hout, hok, fun _ _ _ => rfl⟩
  have hown : ∀ i g, Owns ρ2 (out.shift d ++ st.sg) i g → (∃ j, i = j + d ∧ Owns ρr out j g) ∨ Owns ρ st.sg i g := by
    intro i g ho
    obtain ⟨b, h1, h2, h3⟩ := owns_iff.1 ho
    rw [hget] at h1
    split at h1
    · rename_i hc
      rw [Option.map_eq_some_iff] at h1
      obtain ⟨b0, h4, rfl⟩ := h1
      have hl := hin (i - d) hc.2
      rw [Nat.sub_add_cancel hc.1] at hl
      rw [hl] at h3
      refine .inl ⟨i - d, by omega, owns_iff.2 ⟨b0, h4, ?_, ?_⟩⟩
      · rintro e t l q rfl; exact h2 e t l q rfl
      · cases b0 with
        | box ty cs =>
          rcases h3 with ⟨_, _, _, h3⟩ | ⟨_, _, _, _, h3, _⟩
          · exact .inl ⟨_, _, rfl, h3⟩
          · cases h3
        | arr e t l q =>
          rcases h3 with ⟨_, _, h3, _⟩ | ⟨_, _, _, _, _, h3⟩
          · cases h3
          · exact .inr ⟨_, _, _, _, rfl, h3⟩
        | fro e t l q => exact absurd rfl (h2 e t l q)
    · rw [hout i (by rw [h1]; rfl)] at h3
      exact .inr (owns_iff.2 ⟨b, h1, h2, h3⟩)
  have hsome : ∀ i, (st.sg.get i).isSome = true → ((out.shift d ++ st.sg).get i).isSome = true := fun i hi => by rw [hget, if_neg (hdis i hi)]; exact hi
  have hsome' : ∀ j, (out.get j).isSome = true → ((out.shift d ++ st.sg).get (j + d)).isSome = true := fun j hj => by
    rw [hget, if_pos ⟨by omega, by rw [Nat.add_sub_cancel]; exact hj⟩, Nat.add_sub_cancel, Option.isSome_map]; exact hj
  have hpn : ∀ i, PIN ≤ i → ρ2.loc i = ρ.loc i := fun i hi => by
    show (if _ then _ else _) = _
    rw [if_neg]
    rintro ⟨h1, h2⟩
    obtain ⟨b, hb⟩ := Option.isSome_iff_exists.1 h2
    have := (Sig.free_iff.1 (hfr _ (Sig.get_mem hb))).2
    simp only at this
    omega
  have hS : Sim B O w0 ρ2 ⟨st.sl, out.shift d ++ st.sg⟩ a w' := by
    refine ⟨⟨fun i b hi => ?_, fun i j g hi hj => ?_, fun i g hi => ?_, hM.okb, fun q g hq i hi => ?_, hM.okm, fun q g hq => ?_, fun q g hq => hok q g (h.mem.oky q g hq), fun i b x hi hx => ?_⟩, h.len, fun i v hi => ?_, fun i v x hi hx => ?_, h.defers, hb'.fr, hb'.base, fun i hi => (hpn i hi).trans (h.pin i hi)⟩
    · rw [hget] at hi
      split at hi
      · rename_i hc
        rw [Option.map_eq_some_iff] at hi
        obtain ⟨b0, h4, rfl⟩ := hi
        have := shift_rblk (ρ' := ρ2) (d := d) (hin (i - d) hc.2) (fun x hx => hin x (hM.dom (i - d) b0 x h4 hx)) rfl (hM.blk (i - d) b0 h4)
        rwa [Nat.sub_add_cancel hc.1] at this
      · exact rblk_step hst (by show _ = _; rw [hi]; rfl) (fun x hx => h.mem.dom i b x hi hx) (fun _ _ _ => rfl) (hb'.mem.blk i b hi)
    · rcases hown i g hi with ⟨i', rfl, h1⟩ | h1 <;> rcases hown j g hj with ⟨j', rfl, h2⟩ | h2
      · rw [hM.inj i' j' g h1 h2]
      · rcases hM.old i' g h1 with h3 | h3
        · exact absurd (h.mem.lt h2) (by omega)
        · exact h3.elim
      · rcases hM.old j' g h2 with h3 | h3
        · exact absurd (h.mem.lt h1) (by omega)
        · exact h3.elim
      · exact h.mem.inj i j g h1 h2
    · rcases hown i g hi with ⟨i', rfl, h1⟩ | h1
      · rcases hM.old i' g h1 with h3 | h3
        · exact .inl (Nat.le_trans h.base h3)
        · exact h3.elim
      · exact h.mem.old i g h1
    · rcases hown i g hi with ⟨i', rfl, h1⟩ | h1
      · exact hM.oko q g hq i' h1
      · rcases hold q g hq with h3 | h3
        · exact h.mem.oko q g h3 i h1
        · exact absurd (h.mem.lt h1) (by omega)
    · rcases hold q g hq with h3 | h3
      · exact h.mem.okx q g h3
      · exact .inr (.inl (Nat.le_trans h.base h3))
    · rw [hget] at hi
      split at hi
      · rename_i hc
        rw [Option.map_eq_some_iff] at hi
        obtain ⟨b0, h4, rfl⟩ := hi
        have hx' : ∃ j, x = j + d ∧ b0.uses j = true := by
          cases b0 with
          | box t cs => exact shift_any hx
          | _ => cases hx
        obtain ⟨j, rfl, hj⟩ := hx'
        exact hsome' j (hM.dom (i - d) b0 j h4 hj)
      · exact hsome x (h.mem.dom i b x hi hx)
    · obtain ⟨u, h1, h2⟩ := hb'.sl i v hi
      exact ⟨u, h1, rav_step hst (fun x hx => h.dom i v x hi hx) h2⟩
    · exact hsome x (h.dom i v x hi hx)
  exact ⟨ρ2, hS.put (some d) (shift_rav (fun x hx => hin x (hu x hx)) rfl hr) (fun x hx => by
    obtain ⟨j, rfl, hj⟩ := shift_av hx
    exact hsome' j (hu j hj))⟩
theorem vcallOp_sound (hE : Env.Ok P E) (hC : CallOk P call) (h : Sim B O w0 ρ st a w) {o : Oper} {c : Call} {f : Operand} (ho : o.op = .call c) (hc : c.callee = .value f) {k : St → Option R} (hk : vcallOp E call st o.dst (evalO st.sl f) (c.args.toList.map (evalO st.sl)) k = some r)
    {next : Act → World → Prop} {Q : Exit → Act → World → Prop} (hnext : ∀ ρ' st' a' w', k st' = some r → Sim B O w0 ρ' st' a' w' → next a' w') : o.wp P a w next Q := by
  unfold vcallOp at hk
  split at hk
  · rename_i g caps hf
    split at hk
    · rename_i args own hargs
      rw [callK_eq] at hk
      obtain ⟨⟨res, out⟩, hcall, hk⟩ := Option.bind_eq_some_iff.1 hk
      simp only [bifs] at hk
      split at hk
      · rename_i hnb
        have hfv := (h.eval f).1
        rw [hf] at hfv
        obtain ⟨cvs, hfe, hcaps⟩ := hfv
        have hav : All2 (rav ρ w) (c.args.toList.map (evalO st.sl)) (c.args.toList.map a.eval) := by
          induction c.args.toList with
          | nil => exact .nil
          | cons x xs ih => exact .cons (h.eval x).1 ih
        obtain ⟨hl1, hl2⟩ := lendAll_sound hE h.mem (own := own) hav hargs (fun h => h)
        have hcap2 : All2 (rav (ρ.lent st.sg own) w) (caps.map fun c => AV.one (.eptr c.1 c.2 0 true)) cvs := hcaps.map_left _ fun p u _ ⟨ad, h1, h2⟩ => ⟨ad, h1.step (fun g hg => .inl hg) (fun _ _ => rfl), by rw [h2]; simp [Addr.add]⟩
        have hall := hl1.append hcap2
        obtain ⟨⟨fn, hfn, hbody, hname⟩, hcalls⟩ := callP_ok hE hC hcall (ρ.lent st.sg own) w _ (fun b k hk => by
            rcases hk with hk | ⟨_, _, j, hj⟩
            · exact h.mem.okb b k hk
            · exact h.mem.lt hj) (fun k hk => by
            rcases hk with hk | ⟨hk, _⟩
            · exact .inl (h.mem.okm k hk)
            · cases hk) hall (fun v hv d => by
            rcases List.mem_append.1 hv with hv | hv
            · exact hl2 v hv d
            · obtain ⟨p, _, rfl⟩ := List.mem_map.1 hv; rfl)
        have hrun : (execOp a.eval o).run P w = .ok (.enter g (c.args.toList.map a.eval ++ cvs).toArray) w := by
          have hargs : (c.args.toList.map a.eval ++ cvs).toArray = c.args.map a.eval ++ cvs.toArray := by
            apply Array.ext'
            simp
          rw [hargs]
          unfold execOp
          have hbn : ¬ (fn.body = none) := by intro hb; rw [hb] at hbody; cases hbody
          have hnn : ¬ (fn.name = "runtime.NumGoroutine") := by intro hn; rw [hn] at hname; simp at hname
          simp [ho, hc, resolve, hfe, Deferred.ofValue, Sem.run_bind, invoke, callFunc, hfn]
          rw [if_neg hnn, if_neg hbn]
        unfold Oper.wp
        rw [hrun, Oper.upon_enter]
        refine hcalls.mono fun e w' hh => ?_
        obtain ⟨v, ρr, rfl, hr, hM, hu, hb⟩ := hh
        have hok := hM.oky
        have hold : ∀ b g, ρr.ok b g → (ρ.lent st.sg own).ok b g ∨ w.heap.size ≤ g := fun b g hg => by
          rcases hM.okx b g hg with h1 | h1 | h1
          · exact .inl h1
          · exact .inr h1
          · exact h1.elim
        have fin : ∃ ρf : CEnv, rav ρf w' res v ∧ Mem w.heap.size ⟨fun _ => False, ρ.ok, ρ.loc⟩ ρf out w' := by
          cases own with
          | false =>
            refine ⟨ρr, hr, ⟨hM.blk, hM.inj, hM.old, hM.okb, hM.oko, hM.okm, fun b g hg => ?_, fun b g hg => hok b g (.inl hg), hM.dom⟩⟩
            rcases hold b g hg with (h1 | ⟨_, h1, _⟩) | h1
            · exact .inl h1
            · cases h1
            · exact .inr (.inl h1)
          | true =>
            simp only [Bool.not_true, Bool.false_or, Bool.and_eq_true] at hnb
            let ρk : CEnv := ⟨ρr.loc, fun q g => ρr.ok false g ∨ ρ.ok q g⟩
            have hsk : Step (fun _ => True) ρr.strict ρk w' w' := ⟨fun _ _ => rfl, fun _ _ h => Or.inl h, fun _ _ _ => rfl⟩
            refine ⟨ρk, rav_step hsk (fun _ _ => trivial) (nobor_rav hnb.1 hr), ⟨fun j b hj => ?_, fun i j g hi hj => hM.inj i j g hi hj, fun j g hj => hM.old j g hj, fun b g hg => ?_, fun b g hg j hj => ?_, fun g hg => ?_, fun b g hg => ?_, fun b g hg => .inr hg, hM.dom⟩⟩
            · have hb0 := nobor_blk (List.all_eq_true.1 hnb.2 _ (Sig.get_mem hj)) (hM.blk j b hj)
              exact rblk_step hsk trivial (fun _ _ => trivial) (fun _ _ _ => rfl) hb0
            · rcases hg with hg | hg
              · exact hM.okb false g hg
              · exact Nat.lt_of_lt_of_le (h.mem.okb b g hg) hb.size
            · rcases hg with hg | hg
              · exact hM.oko false g hg j hj
              · rcases hM.old j g hj with h1 | h1
                · exact absurd (h.mem.okb b g hg) (by omega)
                · exact h1.elim
            · rcases hg with hg | hg
              · exact .inl hg
              · exact .inr (h.mem.okm g hg)
            · rcases hg with hg | hg
              · rcases hold false g hg with (h1 | ⟨h1, _⟩) | h1
                · cases b with
                  | false => exact .inl h1
                  | true => exact .inl (h.mem.okm g h1)
                · cases h1
                · exact .inr (.inl h1)
              · exact .inl hg
        obtain ⟨ρf, f1, f2⟩ := fin
        cases hd : o.dst with
        | none =>
          simp only [hd] at hk
          exact hnext ρ st a w' hk (h.below hb)
        | some d =>
          simp only [hd] at hk
          split at hk
          · rename_i hfr
            obtain ⟨ρ2, hS⟩ := h.import hb f2 f1 hu (d := d) (fun q hq => List.all_eq_true.1 hfr q hq)
            exact hnext ρ2 _ _ w' hk hS
          · cases hk
      · cases hk
    · cases hk
  · cases hk
/-- Every operation. -/
theorem exec_sound (hE : Env.Ok P E) (hC : CallOk P call) (h : Sim B O w0 ρ st a w) (o : Oper) {k : St → Option R} (hk : exec E call o st k = some r)
    {next : Act → World → Prop} {Q : Exit → Act → World → Prop} (hnext : ∀ ρ' st' a' w', k st' = some r → Sim B O w0 ρ' st' a' w' → next a' w') : o.wp P a w next Q := by
  have quiet : qop E st.sg (evalO st.sl) o.dst o.op (fun v add => k (St.put o.dst v ⟨st.sl, add ++ st.sg⟩)) = some r → o.wp P a w next Q := by
    intro hk
    obtain ⟨v, add, u, w', h1, h2, h3⟩ := qop_sound hE h o hk
    obtain ⟨ρ2, hS⟩ := h.adds h3
    unfold Oper.wp
    rw [h2, Oper.upon_value]
    exact hnext ρ2 _ _ w' h1 hS
  unfold exec at hk
  split at hk
  · rename_i t p v ho
    obtain ⟨ρ2, st2, w', h1, h2, h3⟩ := vstore_sound hE h ho hk
    unfold Oper.wp
    rw [h2, Oper.upon_skip]
    exact hnext ρ2 _ _ w' h1 (h3.put o.dst trivial (fun d hd => by cases hd))
  · rename_i c ho
    split at hk
    · rename_i s x t t' hc ha hat
      simp only [bifs] at hk
      split at hk
      · rename_i ht
        have ht : t' = t := by simpa using ht
        subst ht
        obtain ⟨ρ2, st2, w', v, h1, h2, h3⟩ := vappend_sound hE h ho hc ha hat hk
        unfold Oper.wp
        rw [h2, Oper.upon_value]
        exact hnext ρ2 _ _ w' h1 h3
      · cases hk
    · rename_i f hc
      split at hk
      · rename_i m hm
        unfold markOf at hm
        split at hm
        · exact vmark_sound h ho hc (hE.mark _ _ hm) hk hnext
        · cases hm
      · exact vcallOp_sound hE hC h ho hc hk hnext
    · exact quiet hk
  · rename_i t n ps ho
    split at hk
    · rename_i sg ps' hset
      split at hk
      · rename_i d e sz by_ ty hd ht
        split at hk
        · rename_i td sz' by' τ he
          simp only [bifs] at hk
          split at hk
          · rename_i hcond
            simp only [Bool.and_eq_true, Sig.free_iff, beq_iff_eq, Nat.ble_eq] at hcond
            split at hk
            · rename_i l hl
              obtain ⟨ρ2, w', v, h1, h2⟩ := vbuild_sound hE h ho hd hset ht he hcond.1.1 hcond.1.2 hcond.2 hl
              unfold Oper.wp
              rw [h1, Oper.upon_value]
              exact hnext ρ2 _ _ w' hk h2
            · split at hk
              · rename_i l hl
                obtain ⟨ρ2, w', v, h1, h2⟩ := vbuild_sound hE h ho hd hset ht he hcond.1.1 hcond.1.2 hcond.2 hl
                unfold Oper.wp
                rw [h1, Oper.upon_value]
                exact hnext ρ2 _ _ w' hk h2
              · cases hk
          · cases hk
        · cases hk
      · cases hk
    · cases hk
  · exact quiet hk
end
end Go.Proofs.YtjjbafgbbkehjaaGreat.Lib

/- Statements, loops, the code of a function. No condition. -/
namespace Go.Proofs.YtjjbafgbbkehjaaGreat.Lib
open Go Go.RowKit
set_option linter.unusedVariables false
set_option linter.unusedSimpArgs false
section
variable {P : Program} {E : Env} {B : Nat} {O : Ow} {w0 w w' : World} {ρ ρ' : CEnv} {a : Act} {R : Type} {r : R} {sg sg' : Sig} {st : St} {call : CallFn}
theorem put_same {t : Nat} {v : AV} (h : st.sl[t]? = some v) : st.put (some t) v = st := by
  obtain ⟨sl, sg⟩ := st
  simp only [St.put, St.mk.injEq, and_true]
  apply List.ext_getElem?
  intro i
  rw [List.getElem?_set]
  split
  · rename_i hi
    subst hi
    split
    · exact h.symm
    · rename_i hn
      have := (List.getElem?_eq_some_iff.1 h).1
      exact absurd this hn
  · rfl
theorem vguard_sound (hE : Env.Ok P E) (hC : CallOk P call) {ops : Array Oper} {k : St → Option R} {Q : Exit → Act → World → Prop}
    (hnext : ∀ ρ' st' a' w', k st' = some r → Sim B O w0 ρ' st' a' w' → Q .normal a' w') : ∀ (l : List Oper) (st : St) (ρ : CEnv) (a : Act) (w : World), Sim B O w0 ρ st a w → vguard E call ops.toList l st k = some r → wpList P ops Q l a w
  | [], st, ρ, a, w, h, hk => hnext ρ st a w hk h
  | o :: l, st, ρ, a, w, h, hk => by
    have run : ∀ (st : St), Sim B O w0 ρ st a w → exec E call o st (fun st => vguard E call ops.toList l st k) = some r → Region.wanted o (yielded ops a.tmps) = true → wpList P ops Q (o :: l) a w := by
      intro st h hk hw
      unfold wpList
      rw [if_pos hw]
      exact .inl (exec_sound hE hC h o hk fun ρ' st' a' w' hk' h' => vguard_sound hE hC hnext l st' ρ' a' w' h' hk')
    have skip : ∀ (st : St), Sim B O w0 ρ st a w → vguard E call ops.toList l (st.put o.dst (.tup [])) k = some r → Region.wanted o (yielded ops a.tmps) = false → wpList P ops Q (o :: l) a w := by
      intro st h hk hw
      unfold wpList
      rw [if_neg (by rw [hw]; simp)]
      exact vguard_sound hE hC hnext l _ ρ _ w (h.put o.dst (v := .tup []) (u := undef) ⟨[], rfl, .nil⟩ (fun d hd => by cases hd)) hk
    simp only [vguard] at hk
    split at hk
    · rename_i hg
      exact run st h hk (by simp [Region.wanted, hg])
    · rename_i j want hg
      split at hk
      · rename_i t ht
        split at hk
        · rename_i v hv
          obtain ⟨u, hu, hr⟩ := h.sl t _ hv
          have hr : u = .bool v := hr
          subst hr
          have ht' : (ops[j]?).bind (·.dst) = some t := by rw [← Array.getElem?_toList]; exact ht
          have hy : yielded ops a.tmps j = some v := by
            unfold yielded
            rw [ht']
            simp [hu]
          have hw : Region.wanted o (yielded ops a.tmps) = (v == want) := by
            unfold Region.wanted
            rw [hg]
            simp only [hy]
            cases v <;> cases want <;> rfl
          cases v with
          | true =>
            simp only [put_same hv, bifs] at hk
            split at hk
            · rename_i h1; subst h1; exact run st h hk (by rw [hw]; rfl)
            · rename_i h1; have : want = false := by simpa using h1
              subst this; exact skip st h hk (by rw [hw]; rfl)
          | false =>
            simp only [put_same hv, bifs] at hk
            split at hk
            · rename_i h1; subst h1; exact skip st h hk (by rw [hw]; rfl)
            · rename_i h1; have : want = false := by simpa using h1
              subst this; exact run st h hk (by rw [hw]; rfl)
        · rename_i hv
          obtain ⟨u, hu, hr⟩ := h.sl t _ hv
          obtain ⟨us, rfl, hus⟩ := hr
          have ht' : (ops[j]?).bind (·.dst) = some t := by rw [← Array.getElem?_toList]; exact ht
          have hy : yielded ops a.tmps j = none := by
            unfold yielded
            rw [ht']
            simp [hu]
          have hw : Region.wanted o (yielded ops a.tmps) = false := by
            unfold Region.wanted
            rw [hg]
            simp only [hy]
            rfl
          exact skip st h hk hw
        · cases hk
      · cases hk
/-- What is undefined or forgotten asks nothing. -/
theorem Sim.mask (h : Sim B O w0 ρ st a w) {m : List Bool} (hm : m.length = st.sl.length) (keep : List Nat) : Sim B O w0 ρ (st.mask m keep) a w := by
  have hget : ∀ i, (st.mask m keep).sg.get i = if (!keep.contains i) = true then none else (st.sg.get i).map (·.strike fun j => !keep.contains j) := fun i => Sig.get_strike _ _ _
  have hsl : ∀ (i : Nat) (v : AV), (st.mask m keep).sl[i]? = some v → ∃ v0, st.sl[i]? = some v0 ∧ (v = .one .und ∨ v = v0.strike fun j => !keep.contains j) := by
    intro i v hi
    simp only [St.mask, List.getElem?_zipWith] at hi
    split at hi
    · rename_i b v0 hb hv0
      cases hi
      exact ⟨v0, hv0, by cases b <;> simp⟩
    · cases hi
  refine ⟨h.mem.strike (p := fun j => !keep.contains j) (fun i b' hi => ?_) (fun d hd hp => ?_), by simp [St.mask, h.len, hm], fun i v hi => ?_, fun i v d hi hd => ?_, h.defers, h.fr, h.base, h.pin⟩
  · rw [hget] at hi
    split at hi
    · cases hi
    · rw [Option.map_eq_some_iff] at hi
      obtain ⟨b, h1, h2⟩ := hi
      exact ⟨b, h1, h2.symm⟩
  · rw [hget, if_neg (by simpa using hp), Option.isSome_map]; exact hd
  · obtain ⟨v0, h1, h2⟩ := hsl i v hi
    obtain ⟨u, h3, h4⟩ := h.sl i v0 h1
    rcases h2 with rfl | rfl
    · exact ⟨u, h3, trivial⟩
    · exact ⟨u, h3, strike_rav h4⟩
  · obtain ⟨v0, h1, h2⟩ := hsl i v hi
    rcases h2 with rfl | rfl
    · cases hd
    · obtain ⟨h3, h4⟩ := strike_av hd
      rw [hget, if_neg (by simpa using h4), Option.isSome_map]
      exact h.dom i v0 d h1 h3
theorem wp_loop_fuel {c : Code} {Q : Exit → Act → World → Prop} (I : Nat → Act → World → Prop)
    (round : ∀ n a w, I n a w → c.wp P (Exit.then (fun a' w' => ∃ m, m < n ∧ I m a' w') Q) a w) : ∀ n a w, I n a w → (Code.loop c).wp P Q a w := by
  intro n a w hI b k cs
  have key : ∀ n a w, I n a w → ∃ e a' w', Q e a' w' ∧ Arrives P (lone (b.at a (.code c :: .inLoop c :: k)) cs w) b k cs e a' w' := by
    intro n
    induction n using Nat.strongRecOn with
    | _ n ih =>
      intro a w hI
      obtain ⟨e, a₁, w₁, hq, harr⟩ := round n a w hI b (.inLoop c :: k) cs
      cases e with
      | normal =>
        obtain ⟨m, hlt, hI₁⟩ := hq
        obtain ⟨e₂, a₂, w₂, hq₂, harr₂⟩ := ih m hlt a₁ w₁ hI₁
        exact ⟨e₂, a₂, w₂, hq₂, .of_steps (Steps.trans harr (.one step_inLoop)) harr₂⟩
      | exit id => exact ⟨_, a₁, w₁, hq, .pass (x := .inLoop c) rfl (fun _ _ => .inl (by simp)) harr⟩
      | goto l => exact ⟨_, a₁, w₁, hq, .pass (x := .inLoop c) rfl (fun _ _ => .inl (by simp)) harr⟩
      | ret => exact ⟨_, a₁, w₁, hq, .pass (x := .inLoop c) rfl (fun _ _ => .inl (by simp)) harr⟩
      | panic ch => exact ⟨_, a₁, w₁, hq, .pass (x := .inLoop c) rfl (fun _ _ => .inl (by simp)) harr⟩
      | outgrown => exact ⟨_, a₁, w₁, hq, .pass (x := .inLoop c) rfl (fun _ _ => .inl (by simp)) harr⟩
  obtain ⟨e, a', w', hq, harr⟩ := key n a w hI
  exact ⟨e, a', w', hq, .of_steps (.one step_loop) harr⟩
/-- What a statement that the interpreter goes through in line owes where the model draws its order. -/
def DrawOk (P : Program) (E : Env) (call : CallFn) (draw : Env → CallFn → List Oper → St → Bool) : Prop :=
  ∀ (R : Type) (r : R) (B : Nat) (O : Ow) (w0 w : World) (ρ : CEnv) (st : St) (a : Act) (id : Nat) (ops : Array Oper) (k : St → Option R) (Q : Exit → Act → World → Prop), draw E call ops.toList st = true → Sim B O w0 ρ st a w → vguard E call ops.toList ops.toList st k = some r →
    (∀ ρ' st' a' w', k st' = some r → Sim B O w0 ρ' st' a' w' → Q .normal a' w') → (Code.region id ops true).wp P Q a w
theorem vcode_sound (hE : Env.Ok P E) (hC : CallOk P call) {draw : Env → CallFn → List Oper → St → Bool} (hD : DrawOk P E call draw) (fuel : Nat) : ∀ (c : Code) (lt : LT) (st : St) (ρ : CEnv) (a : Act) (w : World) (k : Ex → St → Option R) (Q : Exit → Act → World → Prop), LtOk P c lt → Sim B O w0 ρ st a w → vcode E call draw fuel c lt st k = some r →
    (∀ e ρ' st' a' w', k e st' = some r → Sim B O w0 ρ' st' a' w' → Q e.to a' w') → c.wp P Q a w
  | .skip, lt, st, ρ, a, w, k, Q, hl, h, hk, hn => wp_skip (hn .normal ρ st a w hk h)
  | .label l, lt, st, ρ, a, w, k, Q, hl, h, hk, hn => wp_label (hn .normal ρ st a w hk h)
  | .exit id, lt, st, ρ, a, w, k, Q, hl, h, hk, hn => wp_exit (hn (.exit id) ρ st a w hk h)
  | .ret, lt, st, ρ, a, w, k, Q, hl, h, hk, hn => wp_ret (hn .ret ρ st a w hk h)
  | .goto _, lt, st, ρ, a, w, k, Q, hl, h, hk, hn => by simp only [vcode] at hk; cases hk
  | .scope _, lt, st, ρ, a, w, k, Q, hl, h, hk, hn => by simp only [vcode] at hk; cases hk
  | .refuse _, lt, st, ρ, a, w, k, Q, hl, h, hk, hn => by simp only [vcode] at hk; cases hk
  | .rangeFunc _ _ _ _, lt, st, ρ, a, w, k, Q, hl, h, hk, hn => by simp only [vcode] at hk; cases hk
  | .region id ops d, lt, st, ρ, a, w, k, Q, hl, h, hk, hn => by
    simp only [vcode] at hk
    have go : (bif !d || draw E call ops.toList st then vguard E call ops.toList ops.toList st (k .normal) else none) = some r → (Code.region id ops d).wp P Q a w := by
      clear hk
      intro hk
      simp only [bifs] at hk
      split at hk
      · rename_i hd
        cases d with
        | false => exact wp_region_list (vguard_sound hE hC (fun ρ' st' a' w' hk' h' => hn .normal ρ' st' a' w' hk' h') _ st ρ a w h hk)
        | true => exact hD R r B O w0 w ρ st a id ops (k .normal) Q (by simpa using hd) h hk (fun ρ' st' a' w' hk' h' => hn .normal ρ' st' a' w' hk' h')
      · cases hk
    cases lt with
    | sum ss gs F =>
      simp only at hk
      split at hk
      · rename_i v hv
        rw [Ways.run_bind, Option.bind_eq_some_iff] at hk
        obtain ⟨q, hq, hk⟩ := hk
        simp only [LtOk] at hl
        exact hl.2 B O w0 w ρ a v q.1 q.2 Q hq (h.cap hl.1 hv) fun ρ' a' w' h' => hn _ ρ' _ a' w' hk h'
      · cases hk
    | none => exact go hk
    | node p q => exact go hk
  | .seq x y, lt, st, ρ, a, w, k, Q, hl, h, hk, hn => by
    simp only [vcode] at hk
    refine wp_seq (vcode_sound hE hC hD fuel x lt.l st ρ a w _ _ hl.1 h hk fun e ρ' st' a' w' hk' h' => ?_)
    cases e with
    | normal => exact vcode_sound hE hC hD fuel y lt.r st' ρ' a' w' k Q hl.2 h' hk' hn
    | exit i => exact hn (.exit i) ρ' st' a' w' hk' h'
    | ret => exact hn .ret ρ' st' a' w' hk' h'
  | .cond c x y, lt, st, ρ, a, w, k, Q, hl, h, hk, hn => by
    simp only [vcode] at hk
    have go : LtOk P x lt.l → LtOk P y lt.r → (match evalO st.sl c with
        | .one (.bool v) => (match v with
          | true => vcode E call draw fuel x lt.l st k
          | false => vcode E call draw fuel y lt.r st k)
        | _ => none) = some r → (Code.cond c x y).wp P Q a w := by
      intro hl1 hl2 hk
      split at hk
      · rename_i v hv
        have hc := (h.eval c).1
        rw [hv] at hc
        have hc : a.eval c = .bool v := hc
        cases v with
        | true => exact wp_cond_true hc (vcode_sound hE hC hD fuel x lt.l st ρ a w k Q hl1 h hk hn)
        | false => exact wp_cond_false hc (vcode_sound hE hC hD fuel y lt.r st ρ a w k Q hl2 h hk hn)
      · cases hk
    cases lt with
    | sum ss gs F =>
      simp only at hk
      split at hk
      · rename_i v hv
        rw [Ways.run_bind, Option.bind_eq_some_iff] at hk
        obtain ⟨q, hq, hk⟩ := hk
        simp only [LtOk] at hl
        exact hl.2 B O w0 w ρ a v q.1 q.2 Q hq (h.cap hl.1 hv) fun ρ' a' w' h' => hn _ ρ' _ a' w' hk h'
      · cases hk
    | none => exact go hl.1 hl.2 hk
    | node p q => exact go hl.1 hl.2 hk
  | .block id b, lt, st, ρ, a, w, k, Q, hl, h, hk, hn => by
    simp only [vcode] at hk
    refine wp_block (vcode_sound hE hC hD fuel b lt.l st ρ a w _ _ hl h hk fun e ρ' st' a' w' hk' h' => ?_)
    cases e with
    | normal => exact hn .normal ρ' st' a' w' hk' h'
    | exit i =>
      simp only [bifs, beq_iff_eq] at hk'
      show (if i = id then Q .normal a' w' else Q (.exit i) a' w')
      split at hk'
      · rename_i hi; rw [if_pos hi]; exact hn .normal ρ' st' a' w' hk' h'
      · rename_i hi; rw [if_neg hi]; exact hn (.exit i) ρ' st' a' w' hk' h'
    | ret => exact hn .ret ρ' st' a' w' hk' h'
  | .loop b, lt, st, ρ, a, w, k, Q, hl, h, hk, hn => by
    simp only [vcode] at hk
    have go : LtOk P b lt.l → vloop (vcode E call draw fuel b lt.l) (st.sl.map (·.isDef)) (st.sg.map (·.1)) fuel st k = some r → (Code.loop b).wp P Q a w := by
      intro hl0 hk
      refine wp_loop_fuel (fun n a w => ∃ ρ st', Sim B O w0 ρ st' a w ∧ vloop (vcode E call draw fuel b lt.l) (st.sl.map (·.isDef)) (st.sg.map (·.1)) n st' k = some r) (fun n a w hI => ?_) fuel a w ⟨ρ, st, h, hk⟩
      obtain ⟨ρ1, st1, h1, hk1⟩ := hI
      cases n with
      | zero => simp only [vloop] at hk1; cases hk1
      | succ n =>
        simp only [vloop] at hk1
        refine vcode_sound hE hC hD fuel b lt.l _ ρ1 a w _ _ hl0 h1 hk1 fun e ρ' st' a' w' hk' h' => ?_
        simp only [bifs] at hk'
        split at hk'
        · rename_i hl'
          simp only [beq_iff_eq] at hl'
          have hm := h'.mask hl'.symm (st.sg.map (·.1))
          cases e with
          | normal => exact ⟨n, Nat.lt_succ_self n, ρ', _, hm, hk'⟩
          | exit i => exact hn (.exit i) ρ' _ a' w' hk' hm
          | ret => exact hn .ret ρ' _ a' w' hk' hm
        · cases hk'
    cases lt with
    | sum ss gs F =>
      simp only at hk
      split at hk
      · rename_i v hv
        rw [Ways.run_bind, Option.bind_eq_some_iff] at hk
        obtain ⟨q, hq, hk⟩ := hk
        simp only [LtOk] at hl
        exact hl.2 B O w0 w ρ a v q.1 q.2 Q hq (h.cap hl.1 hv) fun ρ' a' w' h' => hn _ ρ' _ a' w' hk h'
      · cases hk
    | none => exact go hl hk
    | node x y => exact go hl hk
/-- A loop, by itself. -/
theorem vloop_sound (hE : Env.Ok P E) (hC : CallOk P call) {draw : Env → CallFn → List Oper → St → Bool} (hD : DrawOk P E call draw) (fuel : Nat) {b : Code} {lt : LT} (hl0 : LtOk P b lt) {m : List Bool} {keep : List Nat} (N : Nat) (st : St) (ρ : CEnv) (a : Act) (w : World) (k : Ex → St → Option R) (Q : Exit → Act → World → Prop) (h : Sim B O w0 ρ st a w)
    (hk : vloop (vcode E call draw fuel b lt) m keep N st k = some r) (hn : ∀ e ρ' st' a' w', k e st' = some r → Sim B O w0 ρ' st' a' w' → Q e.to a' w') : (Code.loop b).wp P Q a w := by
  refine wp_loop_fuel (fun n a w => ∃ ρ st', Sim B O w0 ρ st' a w ∧ vloop (vcode E call draw fuel b lt) m keep n st' k = some r) (fun n a w hI => ?_) N a w ⟨ρ, st, h, hk⟩
  obtain ⟨ρ1, st1, h1, hk1⟩ := hI
  cases n with
  | zero => simp only [vloop] at hk1; cases hk1
  | succ n =>
    simp only [vloop] at hk1
    refine vcode_sound hE hC hD fuel b lt _ ρ1 a w _ _ hl0 h1 hk1 fun e ρ' st' a' w' hk' h' => ?_
    simp only [bifs] at hk'
    split at hk'
    · rename_i hl'
      simp only [beq_iff_eq] at hl'
      have hm := h'.mask hl'.symm keep
      cases e with
      | normal => exact ⟨n, Nat.lt_succ_self n, ρ', _, hm, hk'⟩
      | exit i => exact hn (.exit i) ρ' _ a' w' hk' hm
      | ret => exact hn .ret ρ' _ a' w' hk' hm
    · cases hk'
end
end Go.Proofs.YtjjbafgbbkehjaaGreat.Lib

/- A whole call. No condition. -/
namespace Go.Proofs.YtjjbafgbbkehjaaGreat.Lib
open Go Go.RowKit
set_option linter.unusedVariables false
set_option linter.unusedSimpArgs false
def resF (tmps : Array Value) : ResultVar → Sem Value
  | .tmp t => pure (tmps.getD t undef)
  | .cell p t => do loadVar t (← asAddr (tmps.getD p undef))
def pack : List Value → Value
  | [u] => u | us => .tuple us.toArray
section
variable {P : Program} {E : Env} {B : Nat} {O : Ow} {w0 w w' : World} {ρ ρ' : CEnv} {a : Act} {R : Type} {r : R} {sg sg' : Sig} {st : St} {call : CallFn}
theorem vleave_sound (h : Mem B O ρ sg w) {vs : List AV} {us : List Value} {res : AV} {out : Sig} (hr : All2 (rav ρ w) vs us) (hl : vleave sg vs = some (res, out)) :
    ∃ ρ', rav ρ' w res (pack us) ∧ Mem B O ρ' out w ∧ (∀ d, res.uses d = true → (out.get d).isSome = true) := by
  unfold vleave at hl
  split at hl
  · rename_i v
    obtain ⟨u, rfl, hr1⟩ := hr.single
    split at hl
    · rename_i g cs hp
      split at hl
      · rename_i cs1 out1 js hc
        simp only [bifs] at hl
        split at hl
        · rename_i hj
          split at hl
          · rename_i v1 hv
            simp only [Option.some.injEq, Prod.mk.injEq] at hl
            obtain ⟨rfl, rfl⟩ := hl
            obtain ⟨vs0, a1, a2⟩ := rp_cells (pairOf_sound hr1 hp)
            obtain ⟨b1, b2, b3⟩ := leaveCells_sound h a1 hc
            obtain ⟨L, c1, c2⟩ := leave_mem h b2 hj
            have hrp := a2 _ _ (b1 L c1)
            rcases ofElem_spec hv with ⟨rfl, rfl⟩ | ⟨rfl, c, rfl, rfl⟩
            · exact ⟨_, hrp, c2, b3⟩
            · obtain ⟨c', hc', hrp⟩ := hrp
              cases hc'
              exact ⟨_, hrp, c2, fun d hd => b3 d (by simpa [AV.uses] using hd)⟩
          · cases hl
        · cases hl
      · cases hl
    · cases hl
  · rename_i hne
    split at hl
    · rename_i ps out1 js ht
      simp only [bifs] at hl
      split at hl
      · rename_i hj
        simp only [Option.some.injEq, Prod.mk.injEq] at hl
        obtain ⟨rfl, rfl⟩ := hl
        obtain ⟨b1, b2, b3⟩ := leaveTup_sound h hr ht
        obtain ⟨L, c1, c2⟩ := leave_mem h b2 hj
        refine ⟨⟨L, ρ.ok⟩, ?_, c2, b3⟩
        have hus : pack us = .tuple us.toArray := by
          unfold pack
          split
          · rename_i u
            obtain ⟨v, rest, rfl⟩ : ∃ v rest, vs = v :: rest := by cases hr; exact ⟨_, _, rfl⟩
            cases hr with
            | cons _ h2 => cases h2; exact absurd rfl (hne _)
          · rfl
        rw [hus]
        exact ⟨us, rfl, b1 L c1⟩
      · cases hl
    · cases hl
theorem results_sound (hE : Env.Ok P E) (h : Sim B O w0 ρ st a w) : ∀ {rs : List ResultVar} {vs : List AV}, resAll E st rs = some vs →
    ∃ us : List Value, All2 (rav ρ w) vs us ∧ (rs.mapM (resF a.tmps)).run P w = .ok us w
  | [], vs, hr => by
    simp only [resAll, Option.some.injEq] at hr
    subst hr
    exact ⟨[], .nil, rfl⟩
  | x :: rs, vs, hr => by
    simp only [resAll] at hr
    split at hr
    · rename_i v vs1 hv hvs
      simp only [Option.some.injEq] at hr
      subst hr
      obtain ⟨us, h1, h2⟩ := results_sound hE h hvs
      have one : ∃ u : Value, rav ρ w v u ∧ (resF a.tmps x).run P w = .ok u w := by
        unfold resOf at hv
        split at hv
        · rename_i t
          simp only [Option.some.injEq] at hv
          subst hv
          exact ⟨a.eval (.tmp t), (h.eval (.tmp t)).1, rfl⟩
        · rename_i p t
          split at hv
          · rename_i j i c ti hp ht
            simp only [bifs] at hv
            split at hv
            · rename_i hz
              have hx := (h.eval (.tmp p)).1
              simp only [evalO] at hx
              rw [hp] at hx
              have hn : 0 < ti.sz := by simpa [Nat.pos_iff_ne_zero] using hz
              obtain ⟨cs, ad, us0, hk, hu, hl, hr, hc, hd⟩ := loadCells_sound (kk := fun cs => Cell.ofElem ti.agg cs) h.mem hv hx hn
              have hu : a.tmps.getD p undef = .pointer (some ad) := hu
              rcases ofElem_spec hk with ⟨hg, rfl⟩ | ⟨hg, c, rfl, rfl⟩
              · refine ⟨.agg us0.toArray, ⟨us0, rfl, hr⟩, ?_⟩
                have := load_run (hE.ti _ _ ht) hl hc (v := .agg us0.toArray) (.inl ⟨hg, rfl⟩)
                show (do loadVar t (← asAddr (a.tmps.getD p undef)) : Sem Value).run P w = _
                rw [hu]
                simp only [asAddr, Sem.run_bind, Sem.run_pure, Result.andThen_ok, this]
              · obtain ⟨u, rfl, hr1⟩ := hr.single
                refine ⟨u, hr1, ?_⟩
                have := load_run (hE.ti _ _ ht) hl hc (v := u) (.inr ⟨hg, rfl⟩)
                show (do loadVar t (← asAddr (a.tmps.getD p undef)) : Sem Value).run P w = _
                rw [hu]
                simp only [asAddr, Sem.run_bind, Sem.run_pure, Result.andThen_ok, this]
            · cases hv
          · cases hv
      obtain ⟨u, h3, h4⟩ := one
      refine ⟨u :: us, .cons h3 h1, ?_⟩
      rw [List.mapM_cons, Sem.run_bind, h4, Result.andThen_ok, Sem.run_bind, h2]
      rfl
    · cases hr
theorem results_run {fn : Func} {tmps : Array Value} {us : List Value} {w : World} (h : (fn.results.toList.mapM (resF tmps)).run P w = .ok us w) :
    (results fn tmps).run P w = .ok (pack us) w := by
  show (do let vs ← fn.results.mapM (resF tmps); pure (if h : vs.size = 1 then vs[0] else .tuple vs) : Sem Value).run P w = _
  rw [Sem.run_bind, Array.mapM_eq_mapM_toList, Sem.run_map, h]
  simp only [Result.andThen_ok, Sem.run_pure]
  congr 1
  match us with
  | [] => rfl
  | [u] => rfl
  | u :: v :: us =>
    rw [dif_neg (by simp)]
    rfl
theorem vbody_sound (hE : Env.Ok P E) (hC : CallOk P call) {draw : Env → CallFn → List Oper → St → Bool} (hD : DrawOk P E call draw) {fuel : Nat} {f : FuncId} {fn : Func} {c : Code} {lt : LT} {args : List AV} {res : AV} {out : Sig} (hf : P.funcs[f]? = some fn) (hb : fn.body = some c) (hlt : LtOk P c lt)
    (hk : vbody E call draw fuel fn c lt args [] = some (res, out)) {ρ0 : CEnv} {vs : List Value} (hokb : ∀ b g, ρ0.ok b g → g < w.heap.size) (hokm : ∀ g, ρ0.ok false g → ρ0.ok true g) (hr : All2 (rav ρ0 w) args vs) (hu : ∀ v ∈ args, ∀ d, v.uses d = false) :
    Calls P f vs.toArray w fun e w' => ∃ v ρ', e = .returned v ∧ rav ρ' w' res v ∧ Mem w.heap.size ⟨fun _ => False, ρ0.ok, ρ0.loc⟩ ρ' out w' ∧ (∀ d, res.uses d = true → (out.get d).isSome = true) ∧ Below w.heap.size w w' := by
  unfold vbody at hk
  refine calls_of_wp hf hb ?_
  have hlen := hr.length
  have h0 : Sim w.heap.size ⟨fun _ => False, ρ0.ok, ρ0.loc⟩ w ρ0 ⟨args ++ List.replicate (fn.ntmps - args.length) (.one .und), []⟩ { tmps := vs.toArray ++ Array.replicate (fn.ntmps - vs.toArray.size) undef, defers := [] } w := by
    refine ⟨⟨(fun j b hj => by cases hj), (fun i j g hi => by cases hi), (fun j g hj => by cases hj), hokb, (fun b g hg j hj => by cases hj), hokm, fun b g hg => .inl hg, fun b g hg => hg, (fun j b d hj => by cases hj)⟩, by simp [hlen], fun i v hi => ?_, fun i v d hi hd => ?_, rfl, Keeps.refl _ _ _, Nat.le_refl _, fun _ _ => rfl⟩
    · rcases Nat.lt_or_ge i args.length with hlt | hge
      · rw [List.getElem?_append_left hlt] at hi
        obtain ⟨u, h1, h2⟩ := hr.get i hi
        exact ⟨u, by rw [Array.getElem?_append_left (by simpa [← hlen] using hlt)]; simpa using h1, h2⟩
      · rw [List.getElem?_append_right hge, List.getElem?_replicate] at hi
        split at hi
        · rename_i hlt
          cases hi
          refine ⟨undef, ?_, trivial⟩
          rw [Array.getElem?_append_right (by simpa [← hlen] using hge), Array.getElem?_replicate, if_pos (by simpa [← hlen] using hlt)]
        · cases hi
    · rcases Nat.lt_or_ge i args.length with hlt | hge
      · rw [List.getElem?_append_left hlt] at hi
        rw [hu v (List.mem_of_getElem? hi) d] at hd
        cases hd
      · rw [List.getElem?_append_right hge, List.getElem?_replicate] at hi
        split at hi
        · cases hi; cases hd
        · cases hi
  refine vcode_sound hE hC hD fuel c lt _ ρ0 _ w _ _ hlt h0 hk fun e ρ' st' a' w' hk' h' => ?_
  have fin : (match resAll E st' fn.results.toList with | some vs => vleave st'.sg vs | none => none) = some (res, out) → a'.defers = [] ∧ ∃ v, (results fn a'.tmps).run P w' = .ok v w' ∧ ∃ v_1 ρ', Ending.returned v = .returned v_1 ∧ rav ρ' w' res v_1 ∧ Mem w.heap.size ⟨fun _ => False, ρ0.ok, ρ0.loc⟩ ρ' out w' ∧ (∀ d, res.uses d = true → (out.get d).isSome = true) ∧ Below w.heap.size w w' := by
    intro hk
    split at hk
    · rename_i avs hres
      obtain ⟨us, h1, h2⟩ := results_sound hE h' hres
      obtain ⟨ρ2, h3, h4, h5⟩ := vleave_sound h'.mem h1 hk
      exact ⟨h'.defers, _, results_run h2, _, ρ2, rfl, h3, h4, h5, ⟨h'.fr.os, h'.fr.tape, h'.fr.output, h'.fr.size, fun k hk => h'.fr.block k hk (fun h => h)⟩⟩
    · cases hk
  cases e with
  | normal => exact fin hk'
  | ret => exact fin hk'
  | exit i => cases hk'
/-- The interpreter's calls are the model's. -/
theorem vcall_sound (hE : Env.Ok P E) {draw : Env → CallFn → List Oper → St → Bool} (hD : ∀ call, CallOk P call → DrawOk P E call draw) : ∀ n, CallOk P (vcall E draw n)
  | 0 => by
    intro f args res out h
    cases h
  | n + 1 => by
    have ih := vcall_sound hE hD n
    intro f args res out h ρ0 w vs h1 h2 h3 h4
    simp only [vcall] at h
    split at h
    · rename_i fn hfn
      split at h
      · rename_i c hb
        obtain ⟨hf, hn⟩ := hE.fn f fn hfn
        exact ⟨⟨fn, hf, by rw [hb]; rfl, hn⟩, vbody_sound hE ih (hD _ ih) hf hb (hE.lt f fn c hfn hb) h h1 h2 h3 h4⟩
      · cases h
    · cases h
theorem flat_Rp {ok ok' : Nat → Prop} : ∀ {t : Ty} {x : t.T} {cs : List Value}, t.flat = true → Rp ok w t x cs → Rp ok' w t x cs
  | .int _, _, _, _, h => by simp only [Rp] at h ⊢; exact h
  | .bool, _, _, _, h => by simp only [Rp] at h ⊢; exact h
  | .str, _, _, _, h => by simp only [Rp] at h ⊢; exact h
  | .sl _ _, _, _, hf, _ => by cases hf
  | .pair a b, _, _, hf, h => by
    simp only [Ty.flat, Bool.and_eq_true] at hf
    simp only [Rp] at h ⊢
    obtain ⟨c0, c1, rfl, h0, h1⟩ := h
    exact ⟨c0, c1, rfl, flat_Rp hf.1 h0, flat_Rp hf.2 h1⟩
theorem kept_spec : ∀ {sg0 : Sig} {upd : Sig}, kept sg sg0 = some upd → ∀ i b', upd.get i = some b' → (∃ e t l q, sg0.get i = some (.arr e t l q)) ∧ ∃ e t l q, b' = .arr e t l q ∧ t.flat = true ∧ PIN ≤ i ∧ sg.get i = some (.arr e t l q)
  | [], upd, h, i, b', hi => by
    simp only [kept, Option.some.injEq] at h
    subst h
    cases hi
  | (j, b) :: r, upd, h, i, b', hi => by
    simp only [kept] at h
    split at h
    · rename_i e0 t0 l0 q0 e t l q hg
      simp only [bifs] at h
      split at h
      · rename_i hc
        simp only [Bool.and_eq_true, Nat.ble_eq] at hc
        split at h
        · rename_i out hout
          cases h
          simp only [Sig.get, bifs, beq_iff_eq] at hi ⊢
          split at hi
          · rename_i hji
            subst hji
            cases hi
            exact ⟨⟨_, _, _, _, if_pos rfl⟩, _, _, _, _, rfl, hc.1, hc.2, hg⟩
          · rename_i hji
            obtain ⟨h1, h2⟩ := kept_spec hout i b' hi
            simp only [if_neg hji]
            exact ⟨h1, h2⟩
        · cases h
      · cases h
    · cases h
theorem vmbody_sound (hE : Env.Ok P E) (hC : CallOk P call) {draw : Env → CallFn → List Oper → St → Bool} (hD : DrawOk P E call draw) {fuel : Nat} {f : FuncId} {fn : Func} {c : Code} {lt : LT} {st0 : St} {res : AV} {upd : Sig} (hf : P.funcs[f]? = some fn) (hb : fn.body = some c) (hlt : LtOk P c lt)
    (hk : vmbody E call draw fuel fn c lt st0 = some (res, upd)) (h : Sim B O w ρ st0 a w) :
    Calls P f a.tmps w fun e w' => ∃ u, e = .returned u ∧ rav ρ w' res u ∧
      (∀ i b', upd.get i = some b' → (∃ e t l q, st0.sg.get i = some (.arr e t l q)) ∧ (∃ e t l q, b' = .arr e t l q) ∧ rblk ρ w' i b') ∧
      w'.os = w.os ∧ w'.tape = w.tape ∧ w'.output = w.output ∧ w.heap.size ≤ w'.heap.size ∧ ∀ g, g < w.heap.size → (∀ j, ¬ Owns ρ st0.sg j g) → w'.heap[g]? = w.heap[g]? := by
  unfold vmbody at hk
  refine calls_of_wp hf hb ?_
  have h0 : Sim w.heap.size ⟨fun g => ∃ j, Owns ρ st0.sg j g, ρ.ok, ρ.loc⟩ w ρ ⟨st0.sl ++ List.replicate (fn.ntmps - st0.sl.length) (.one .und), st0.sg⟩ { tmps := a.tmps ++ Array.replicate (fn.ntmps - a.tmps.size) undef, defers := [] } w := by
    refine ⟨⟨h.mem.blk, h.mem.inj, fun j g hj => .inr ⟨j, hj⟩, h.mem.okb, h.mem.oko, h.mem.okm, fun b g hg => .inl hg, fun b g hg => hg, h.mem.dom⟩, by simp [h.len], fun i v hi => ?_, fun i v d hi hd => ?_, rfl, Keeps.refl _ _ _, Nat.le_refl _, fun _ _ => rfl⟩
    · rcases Nat.lt_or_ge i st0.sl.length with hlt | hge
      · rw [List.getElem?_append_left hlt] at hi
        obtain ⟨u, h1, h2⟩ := h.sl i v hi
        exact ⟨u, by rw [Array.getElem?_append_left (by rw [h.len]; exact hlt)]; exact h1, h2⟩
      · rw [List.getElem?_append_right hge, List.getElem?_replicate] at hi
        split at hi
        · rename_i hlt
          cases hi
          refine ⟨undef, ?_, trivial⟩
          rw [Array.getElem?_append_right (by rw [h.len]; exact hge), Array.getElem?_replicate, if_pos (by rw [h.len]; exact hlt)]
        · cases hi
    · rcases Nat.lt_or_ge i st0.sl.length with hlt | hge
      · rw [List.getElem?_append_left hlt] at hi
        exact h.dom i v d hi hd
      · rw [List.getElem?_append_right hge, List.getElem?_replicate] at hi
        split at hi
        · cases hi; cases hd
        · cases hi
  refine vcode_sound hE hC hD fuel c lt _ ρ _ w _ _ hlt h0 hk fun e ρ' st' a' w' hk' h' => ?_
  have fin : (match resAll E st' fn.results.toList with
      | some vs => (match vs with
        | [v] => bif v.plain then (match kept st'.sg st0.sg with | some out => some (v, out) | none => none) else none
        | _ => none)
      | none => none) = some (res, upd) → a'.defers = [] ∧ ∃ v, (results fn a'.tmps).run P w' = .ok v w' ∧ ∃ u, Ending.returned v = .returned u ∧ rav ρ w' res u ∧
      (∀ i b', upd.get i = some b' → (∃ e t l q, st0.sg.get i = some (.arr e t l q)) ∧ (∃ e t l q, b' = .arr e t l q) ∧ rblk ρ w' i b') ∧
      w'.os = w.os ∧ w'.tape = w.tape ∧ w'.output = w.output ∧ w.heap.size ≤ w'.heap.size ∧ ∀ g, g < w.heap.size → (∀ j, ¬ Owns ρ st0.sg j g) → w'.heap[g]? = w.heap[g]? := by
    intro hk
    split at hk
    · rename_i avs hres
      obtain ⟨us, h1, h2⟩ := results_sound hE h' hres
      split at hk
      · rename_i v
        simp only [bifs] at hk
        split at hk
        · rename_i hpl
          split at hk
          · rename_i out hkept
            simp only [Option.some.injEq, Prod.mk.injEq] at hk
            obtain ⟨rfl, rfl⟩ := hk
            obtain ⟨u, rfl, hr⟩ := h1.single
            refine ⟨h'.defers, _, results_run h2, u, rfl, plain_rav hpl hr, fun i b' hi => ?_, h'.fr.os, h'.fr.tape, h'.fr.output, h'.fr.size, fun g hg hn => h'.fr.block g hg (fun ⟨j, hj⟩ => hn j hj)⟩
            obtain ⟨h3, e, t, l, q, rfl, h4, h5, h6⟩ := kept_spec hkept i b' hi
            refine ⟨h3, ⟨_, _, _, _, rfl⟩, ?_⟩
            obtain ⟨va, gg, xs, d1, d2, d3⟩ := h'.mem.blk i _ h6
            exact ⟨va, gg, xs, (h'.pin i h5).symm.trans d1, ⟨d2.1, fun j p hp => flat_Rp h4 (d2.2 j p hp)⟩, d3⟩
          · cases hk
        · cases hk
      · cases hk
    · cases hk
  cases e with
  | normal => exact fin hk'
  | ret => exact fin hk'
  | exit i => cases hk'
theorem markOk_of (hE : Env.Ok P E) {draw : Env → CallFn → List Oper → St → Bool} (hD : ∀ call, CallOk P call → DrawOk P E call draw) {f : FuncId} {m : Mrk} (hwf : wfSt m.ss m.gs) (hfn : ∃ fn c, E.fn.lookup f = some fn ∧ fn.body = some c)
    (h : ∀ v res upd, (m.F v).run some = some (res, upd) → ∃ n, vmcall E draw n f (bldSt m.ss m.gs v) = some (res, upd)) : MarkOk P f m := by
  obtain ⟨fn, c, hl, hb⟩ := hfn
  obtain ⟨hf, hn⟩ := hE.fn f fn hl
  refine ⟨hwf, ⟨fn, hf, by rw [hb]; rfl, hn⟩, fun v res upd hv B O ρ a w hS => ?_⟩
  obtain ⟨n, hv⟩ := h v res upd hv
  have hC := vcall_sound hE hD n
  unfold vmcall at hv
  rw [show E.find f = some fn from hl] at hv
  simp only [hb] at hv
  exact vmbody_sound hE hC (hD _ hC) hf hb (hE.lt f fn c hl hb) hv hS
/-- A summary of a loop that the interpreter bears out. -/
theorem loopOk_of (hE : Env.Ok P E) {draw : Env → CallFn → List Oper → St → Bool} (hD : ∀ call, CallOk P call → DrawOk P E call draw) {b : Code} {lt : LT} (hlt : LtOk P b lt) {ss : List SP} {gs : List (Nat × GP)} {F : StT ss gs → Ways (Ex × St)} (n fuel : Nat) (m : List Bool) (keep : List Nat)
    (h : ∀ v e st', (F v).run some = some (e, st') → ∃ N : Nat, vloop (vcode E (vcall E draw n) draw fuel b lt) m keep N (bldSt ss gs v) (fun e st => some (e, st)) = some (e, st')) : LoopOk P b ss gs F := by
  intro B O w0 w ρ a v e st' Q hF hS hn
  obtain ⟨N, hv⟩ := h v e st' hF
  have hC := vcall_sound hE hD n
  refine vloop_sound (R := Ex × St) (r := (e, st')) hE hC (hD _ hC) fuel hlt N (bldSt ss gs v) ρ a w (fun e st => some (e, st)) Q hS hv fun e1 ρ1 st1 a1 w1 hk h1 => ?_
  cases hk
  exact hn ρ1 a1 w1 h1
theorem primOk_of (hE : Env.Ok P E) {draw : Env → CallFn → List Oper → St → Bool} (hD : ∀ call, CallOk P call → DrawOk P E call draw) {f : FuncId} {p : Prim}
    (h : ∀ v res out, (p.F v).run some = some (res, out) → ∃ n, vcall E draw n f (SPs.bld (R := Unit) p.ss v).1 [] = some (res, out)) : PrimOk P f p := by
  intro v res out hF
  obtain ⟨n, hn⟩ := h v res out hF
  exact vcall_sound hE hD n f _ res out hn
end
end Go.Proofs.YtjjbafgbbkehjaaGreat.Lib

