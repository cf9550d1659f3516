/- Generic: an argument that reads as data, of any type made of whole numbers, bools, strings, structs and slices, is of the kind (Kd) that the printed contracts take. No condition. -/
import Derived.Test.YtnbmifoebaoemaaWWords
import Derived.WalkKit
import Derived.ProofKit
import Derived.OpenShut
import Derived.ShutString
import Derived.ChangeOld
import Derived.Below
import Derived.SizedLaws
namespace Go.Proofs.Ytnbmifoebaoemaa.Opening
open Go.RowKit Go.WideShapes Go.Proofs.YtnbmifoebaoemaaW.PrintWords

/-- Whatever reads as data of type t holds cells of the kind d, for something that meets ok. -/
def Opens {α : Type} (P : Program) (t : TypeId) (d : Kd α) (ok : α → Prop) : Prop :=
  ∀ (H : Type) (enc : TypeId × Value → H) (w : World) (base : Nat) (spare : Nat → Bool) (held : Bool) (fuel : Nat) (cs : List Value) (x : DataW H × List MemPlace),
    DataW.trod enc P w base spare held fuel t cs = some x → ∃ y : α, d.K w y cs ∧ ok y

theorem opens_int {P : Program} {t : TypeId} {k : IntKind} (ht : P.underlying t = some (.int k)) : Opens P t (Kd.int k) (fun n => (Lit.int k n).wf = true) := by
  intro H enc w base spare held fuel cs x h
  obtain ⟨n, rfl, _, hw⟩ := DataW.trod_int ht h
  exact ⟨n, rfl, hw⟩
theorem opens_bool {P : Program} {t : TypeId} (ht : P.underlying t = some .bool) : Opens P t Kd.bool (fun _ => True) := by
  intro H enc w base spare held fuel cs x h
  obtain ⟨b, rfl, _⟩ := DataW.trod_bool ht h
  exact ⟨b, rfl, trivial⟩
theorem opens_string {P : Program} {t : TypeId} (ht : P.underlying t = some .string) : Opens P t Kd.string (fun s => s.size ≤ 9223372036854775807) := by
  intro H enc w base spare held fuel cs x h
  obtain ⟨s, rfl, _, hs⟩ := DataW.trod_string ht h
  exact ⟨s, rfl, hs⟩
theorem collect {α : Type} {Q : Nat → α → Prop} : ∀ n : Nat, (∀ i, i < n → ∃ y, Q i y) → ∃ ys : List α, ys.length = n ∧ ∀ (i : Nat) (y : α), ys[i]? = some y → Q i y
  | 0, _ => ⟨[], rfl, fun i y h => by simp at h⟩
  | n + 1, h => by
    obtain ⟨ys, hl, hys⟩ := collect n (fun i hi => h i (by omega))
    obtain ⟨y, hy⟩ := h n (by omega)
    refine ⟨ys ++ [y], by simp [hl], fun i z hz => ?_⟩
    by_cases hi : i < ys.length
    · rw [List.getElem?_append_left hi] at hz
      exact hys i z hz
    · rw [List.getElem?_append_right (by omega)] at hz
      have : i - ys.length = 0 := by
        rcases Nat.eq_zero_or_pos (i - ys.length) with e | e
        · exact e
        · rw [List.getElem?_eq_none (by simp; omega)] at hz
          exact absurd hz (by simp)
      rw [this] at hz
      simp at hz
      subst hz
      rw [show i = n by omega]
      exact hy
/-- Each element is as ok says, and there are no more than an int can count. -/
def okL {α : Type} (ok : α → Prop) (l : List α) : Prop := (∀ x, x ∈ l → ok x) ∧ l.length ≤ 9223372036854775807
theorem cells_get {w : World} {base : Nat} {a : Addr} {n : Nat} {c : List Value} (h : w.cells? base a n = some c) : c.length = n ∧ ∀ (i : Nat) (u : Value), c[i]? = some u → w.cell? (a.add i) = some u := by
  unfold World.cells? at h
  split at h
  · have hl := mapM_some_length h
    rw [List.length_range] at hl
    refine ⟨hl, fun i u hi => ?_⟩
    have hlt : i < n := by
      have := (List.getElem?_eq_some_iff.1 hi).1
      omega
    have := mapM_some_get h i i (by rw [List.getElem?_range hlt])
    rw [this, hi]
  · exact absurd h (by simp)
theorem addr_add_add (a : Addr) (i j : Nat) : (a.add i).add j = a.add (i + j) := by
  by_cases hi : i = 0
  · by_cases hj : j = 0 <;> simp [Addr.add, hi, hj]
  · by_cases hj : j = 0 <;> simp [Addr.add, hi, hj, Nat.add_assoc]
theorem opens_slice {α : Type} {P : Program} {t e : TypeId} {d : Kd α} {ok : α → Prop} (ht : P.underlying t = some (.slice e)) (hsz : P.cellsOf e = d.sz) (he : Opens P e d ok) : Opens P t (Kd.slice e d) (okL ok) := by
  intro H enc w base spare held fuel cs x h
  rcases DataW.trod_slice ht h with ⟨rfl, _⟩ | ⟨a, len, cap, elems, rest, n, _, rfl, _, _, hl, hm, hlen, hel, _, _⟩
  · exact ⟨[], ⟨none, 0, rfl, Nat.le_refl _, rfl, by simp, fun h => absurd h (by simp)⟩, fun x hx => by simp at hx, by simp⟩
  · obtain ⟨ys, hyl, hys⟩ := collect (α := α) (Q := fun i y => ok y ∧ ∃ c, c.length = d.sz ∧ d.K w y c ∧ ∀ (q : Nat) (u : Value), c[q]? = some u → w.cell? (a.add (i * d.sz + q)) = some u) len (fun i hi => by
      have h1 := hel i hi
      rw [List.getElem?_eq_getElem (by omega), Option.bind_eq_some_iff] at h1
      obtain ⟨c, hc, hx⟩ := h1
      obtain ⟨y, hy, hok⟩ := he H enc w base spare held n c _ hx
      obtain ⟨_, hcg⟩ := cells_get hc
      refine ⟨y, hok, c, d.K_len hy, hy, fun q u hq => ?_⟩
      have := hcg q u hq
      rwa [addr_add_add, hsz] at this)
    have hmax : len ≤ 9223372036854775807 := Nat.le_trans hl hm
    refine ⟨ys, ⟨some a, cap, by rw [hyl], by omega, rfl, by omega, fun _ => ⟨a, rfl, fun j p hj => ?_⟩⟩, fun y hy => ?_, by omega⟩
    · exact (hys j p hj).2
    · obtain ⟨i, hi⟩ := List.getElem?_of_mem hy
      exact (hys i y hi).1
/-- The types in line, each over its own cells. -/
def Walk (P : Program) (T : TypeId → List Value → Prop) : List TypeId → List Value → Prop
  | [], cs => cs = []
  | t :: ts, cs => T t (cs.take (P.cellsOf t)) ∧ Walk P T ts (cs.drop (P.cellsOf t))
def offsOk (P : Program) (total : Nat) : Nat → List Field → Bool
  | o, [] => o == total
  | o, f :: fs => f.offset == o && offsOk P total (o + P.cellsOf f.type) fs
theorem walk_of {P : Program} {T : TypeId → List Value → Prop} {cs : List Value} : ∀ (fs : List Field) (o : Nat), offsOk P cs.length o fs = true →
    (∀ f, f ∈ fs → T f.type ((cs.drop f.offset).take (P.cellsOf f.type))) → Walk P T (fs.map (·.type)) (cs.drop o)
  | [], o, ho, _ => by
    have : o = cs.length := by simpa [offsOk] using ho
    subst this
    simp [Walk]
  | f :: fs, o, ho, h => by
    simp only [offsOk, Bool.and_eq_true, beq_iff_eq] at ho
    obtain ⟨h1, h2⟩ := ho
    refine ⟨?_, ?_⟩
    · have := h f List.mem_cons_self
      rwa [h1] at this
    · rw [List.drop_drop]
      exact walk_of fs (o + P.cellsOf f.type) h2 (fun g hg => h g (List.mem_cons_of_mem _ hg))
def OpensW {α : Type} (P : Program) (ts : List TypeId) (d : Kd α) (ok : α → Prop) : Prop :=
  ∀ (H : Type) (enc : TypeId × Value → H) (w : World) (base : Nat) (spare : Nat → Bool) (held : Bool) (fuel : Nat) (cs : List Value),
    Walk P (fun t c => ∃ x, DataW.trod enc P w base spare held fuel t c = some x) ts cs → ∃ y : α, d.K w y cs ∧ ok y
theorem opensW_one {α : Type} {P : Program} {t : TypeId} {d : Kd α} {ok : α → Prop} (h : Opens P t d ok) : OpensW P [t] d ok := by
  intro H enc w base spare held fuel cs hw
  obtain ⟨⟨x, hx⟩, hd⟩ := hw
  have hcs : cs.take (P.cellsOf t) = cs := by
    rw [List.take_of_length_le]
    have := congrArg List.length hd
    rw [List.length_drop, List.length_nil] at this
    omega
  rw [hcs] at hx
  exact h H enc w base spare held fuel cs x hx
theorem opensW_cons {α β : Type} {P : Program} {t : TypeId} {ts : List TypeId} {d : Kd α} {d' : Kd β} {ok : α → Prop} {ok' : β → Prop} (h : Opens P t d ok) (h' : OpensW P ts d' ok') :
    OpensW P (t :: ts) (Kd.pair d d') (fun y => ok y.1 ∧ ok' y.2) := by
  intro H enc w base spare held fuel cs hw
  obtain ⟨⟨x, hx⟩, hd⟩ := hw
  obtain ⟨y, hy, hok⟩ := h H enc w base spare held fuel _ x hx
  obtain ⟨z, hz, hok'⟩ := h' H enc w base spare held fuel _ hd
  exact ⟨(y, z), ⟨_, _, (List.take_append_drop _ _).symm, hy, hz⟩, hok, hok'⟩
theorem opens_struct {α : Type} {P : Program} {t : TypeId} {fs : Array Field} {d : Kd α} {ok : α → Prop} (ht : P.underlying t = some (.struct fs)) (ho : offsOk P (P.cellsOf t) 0 fs.toList = true)
    (h : OpensW P (fs.toList.map (·.type)) d ok) : Opens P t d ok := by
  intro H enc w base spare held fuel cs x hx
  obtain ⟨xs, n, _, _, hl, hxl, hf⟩ := DataW.trod_struct ht hx
  have hw := walk_of (P := P) (T := fun t c => ∃ x, DataW.trod enc P w base spare held n t c = some x) (cs := cs) fs.toList 0 (by rw [hl]; exact ho) (fun f hfm => by
    obtain ⟨i, hi⟩ := List.getElem?_of_mem hfm
    have hi' : fs[i]? = some f := by simpa using hi
    have hlt : i < xs.length := by
      have := (Array.getElem?_eq_some_iff.1 hi').1
      omega
    exact ⟨_, (hf i f hi').trans (List.getElem?_eq_getElem hlt)⟩)
  exact h H enc w base spare held n cs hw
theorem opens_iso {α β : Type} {P : Program} {t : TypeId} {d : Kd α} {ok : α → Prop} (g : β → α) (hg : ∀ y, ∃ x, g x = y) (h : Opens P t d ok) : Opens P t (Kd.iso d g) (fun x => ok (g x)) := by
  intro H enc w base spare held fuel cs x hx
  obtain ⟨y, hy, hok⟩ := h H enc w base spare held fuel cs x hx
  obtain ⟨z, rfl⟩ := hg y
  exact ⟨z, hy, hok⟩
theorem opens_ok {α : Type} {P : Program} {t : TypeId} {d : Kd α} {ok ok' : α → Prop} (h : Opens P t d ok) (hi : ∀ y, ok y → ok' y) : Opens P t d ok' := by
  intro H enc w base spare held fuel cs x hx
  obtain ⟨y, hy, hok⟩ := h H enc w base spare held fuel cs x hx
  exact ⟨y, hy, hi y hok⟩
theorem arg_slice {α : Type} {P : Program} {t e : TypeId} {d : Kd α} {ok : List α → Prop} (ho : Opens P t (Kd.slice e d) ok) (ht : P.underlying t = some (.slice e)) {H : Type} {enc : TypeId × Value → H} {w : World} {b base : Nat} {r : Reach} {spare : Nat → Bool} {held : Bool} {v : Value} {x : DataW H} {ps : List MemPlace}
    (hv : Value.okWide P w r b t v) (h : DataW.Trod enc P w base spare held t v x ps) : ∃ (A : Option Addr) (c : Nat) (l : List α), v = .slice A l.length c ∧ l.length ≤ c ∧ d.C w A l.length l ∧ ok l := by
  obtain ⟨a, len, cap, rfl⟩ := okWide_slice ht hv
  obtain ⟨fuel, hf⟩ := h
  obtain ⟨l, ⟨A, c, hcs, hle, hc⟩, hok⟩ := ho H enc w base spare held fuel _ _ hf
  simp [Value.cells] at hcs
  obtain ⟨rfl, rfl, rfl⟩ := hcs
  exact ⟨a, cap, l, rfl, hle, hc, hok⟩
theorem arg_struct {α : Type} {P : Program} {t : TypeId} {fs : Array Field} {d : Kd α} {ok : α → Prop} (ho : Opens P t d ok) (ht : P.underlying t = some (.struct fs)) {H : Type} {enc : TypeId × Value → H} {w : World} {b base : Nat} {r : Reach} {spare : Nat → Bool} {held : Bool} {v : Value} {x : DataW H} {ps : List MemPlace}
    (hv : Value.okWide P w r b t v) (h : DataW.Trod enc P w base spare held t v x ps) : ∃ (cs : List Value) (y : α), v = .agg cs.toArray ∧ d.K w y cs ∧ ok y := by
  obtain ⟨cs, rfl, _⟩ := okWide_struct ht hv
  obtain ⟨fuel, hf⟩ := h
  obtain ⟨y, hy, hok⟩ := ho H enc w base spare held fuel _ _ hf
  exact ⟨cs.toList, y, by simp, by simpa [Value.cells] using hy, hok⟩
theorem placed {H : Type} {enc : TypeId × Value → H} {P : Program} {W : World} {base : Nat} {spare : Nat → Bool} {held : Bool} {t : TypeId} {v : Value} {d : DataW H} {ps : List MemPlace} (h : DataW.Trod enc P W base spare held t v d ps) : ∀ x ∈ ps, x.block < W.heap.size := by
  obtain ⟨m, hm⟩ := h
  exact DataW.trod_lt m _ _ _ hm
end Go.Proofs.Ytnbmifoebaoemaa.Opening
