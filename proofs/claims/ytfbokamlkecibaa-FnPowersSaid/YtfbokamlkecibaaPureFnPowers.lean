/- FnPowers: the law holds of the plain functions that the contracts name. No condition. -/
import Derived.Test.YtfbokamlkecibaaVmRowFnPowers
import Derived.Test.YtfbokamlkecibaaVmLibThree
namespace Go.Proofs.Ytfbokamlkecibaa.Vm
open Go Go.Proofs.Ytfbokamlkecibaa.Lib
set_option maxRecDepth 100000
set_option linter.unusedVariables false
set_option linter.unusedSimpArgs false
def cur (c : Ty.T y106) : Prop := (0 : Int) ≤ id (α := Int) c.2.1 ∧ id (α := Int) c.2.1 ≤ (c.1.length : Int) ∧ (c.1.length : Int) ≤ 1099511627776
theorem and255 (x : Int) : 0 ≤ IntKind.wrap .i64 ((BitVec.ofInt (IntKind.bits .i64) x &&& BitVec.ofInt (IntKind.bits .i64) (255 : Int)).toNat : Int) ∧ IntKind.wrap .i64 ((BitVec.ofInt (IntKind.bits .i64) x &&& BitVec.ofInt (IntKind.bits .i64) (255 : Int)).toNat : Int) ≤ 255 := by
  have h : (BitVec.ofInt (IntKind.bits .i64) x &&& BitVec.ofInt (IntKind.bits .i64) (255 : Int)).toNat ≤ 255 := by
    rw [BitVec.toNat_and]
    exact Nat.le_trans Nat.and_le_right (by decide)
  rw [wrap_in (by omega) (by omega)]
  omega
theorem byteC (b : List Int) (i k : Int) (h1 : 0 ≤ i) (h2 : i ≤ (b.length : Int)) (h3 : (b.length : Int) ≤ 1099511627776) : d90g1 (b, i, k) = true ∧ (0 ≤ (v90g1 (b, i, k)).1 ∧ (v90g1 (b, i, k)).1 ≤ 255) ∧ cur (v90g1 (b, i, k)).2 := by
  unfold d90g1 v90g1
  dsimp only [Ty.T]
  by_cases hl : i < (b.length : Int)
  · have hi : i.toNat < b.length := by omega
    simp only [hl, decide_true, cond_true, h1, Bool.true_and, optD, optV, List.getElem?_eq_getElem hi]
    refine ⟨trivial, and255 _, ?_⟩
    show (0 : Int) ≤ IntKind.wrap .i64 (i + 1) ∧ IntKind.wrap .i64 (i + 1) ≤ (b.length : Int) ∧ (b.length : Int) ≤ 1099511627776
    rw [wrap_in (by omega) (by omega)]
    omega
  · simp only [hl, decide_false, cond_false]
    exact ⟨trivial, and255 _, h1, h2, h3⟩
theorem byte (c : Ty.T y106) (h : cur c) : d90g1 c = true ∧ (0 ≤ (v90g1 c).1 ∧ (v90g1 c).1 ≤ 255) ∧ cur (v90g1 c).2 := byteC c.1 c.2.1 c.2.2 h.1 h.2.1 h.2.2
theorem below (n : Int) (c : Ty.T y106) (h : cur c) : d74g1 n c = true ∧ (0 < n → 0 ≤ (v74g1 n c).1 ∧ (v74g1 n c).1 < n) ∧ cur (v74g1 n c).2 := by
  have b1 := byte c h
  have b2 := byte _ b1.2.2
  have b3 := byte _ b2.2.2
  unfold d74g1 v74g1
  by_cases h0 : n ≤ 0
  · simp only [h0, decide_true, cond_true]
    exact ⟨trivial, fun h => by omega, h⟩
  · have hn : ¬ n = 0 := by omega
    simp only [h0, decide_false, cond_false, b1.1, b2.1, b3.1, cond_true, hn, Bool.not_false, Bool.and_true]
    by_cases h1 : n ≤ 256
    · simp only [h1, decide_true, cond_true]
      exact ⟨trivial, fun _ => ⟨Int.tmod_nonneg _ b1.2.1.1, Int.tmod_lt_of_pos _ (by omega)⟩, b1.2.2⟩
    · simp only [h1, decide_false, cond_false]
      refine ⟨trivial, fun _ => ⟨Int.tmod_nonneg _ ?_, Int.tmod_lt_of_pos _ (by omega)⟩, b3.2.2⟩
      obtain ⟨_, ⟨p1, p2⟩, _⟩ := b1
      obtain ⟨_, ⟨q1, q2⟩, _⟩ := b2
      obtain ⟨_, ⟨r1, r2⟩, _⟩ := b3
      rw [wrap_in (n := (v90g1 c).1 * 65536) (by omega) (by omega), wrap_in (n := (v90g1 (v90g1 c).2).1 * 256) (by omega) (by omega), wrap_in (n := (v90g1 c).1 * 65536 + _) (by omega) (by omega), wrap_in (by omega) (by omega)]
      omega
theorem oneOf (l : List Int) (c : Ty.T y106) (hl : l ≠ []) (h : cur c) : d44g1 l c = true ∧ (v44g1 l c).1 ∈ l ∧ cur (v44g1 l c).2 := by
  have hp : 0 < l.length := List.length_pos_iff.2 hl
  obtain ⟨b1, b2, b3⟩ := below (l.length : Int) c h
  have b2 := b2 (by omega)
  unfold d44g1 v44g1
  have hi : ((v74g1 (l.length : Int) c).1).toNat < l.length := by omega
  have h0 := b2.1
  simp only [b1, cond_true, h0, decide_true, Bool.true_and, optD, optV]
  simp only [List.getElem?_eq_getElem hi]
  exact ⟨trivial, List.getElem_mem hi, b3⟩
theorem once (n : Int) (c : Ty.T y106) (h : cur c) : d94g1 n c = true ∧ cur (v94g1 n c).2 := by
  have b := below n c h
  unfold d94g1 v94g1
  simp only [b.1, cond_true]
  exact ⟨trivial, b.2.2⟩
theorem newStep (b : List Int) (hh i : Int) (h0 : 0 ≤ i) (hb : i ≤ 1099511627776) : (i < (b.length : Int) ∧ ∃ h' : Int, s43_0 (b, hh, i, ()) = some (0, (b, h', i + 1, ()))) ∨ s43_0 (b, hh, i, ()) = some (1, (b, hh, i, ())) := by
  unfold s43_0 t43_0
  dsimp only [Ty.T]
  by_cases hl : i < (b.length : Int)
  · by_cases h4 : i < 4000
    · have hi : i.toNat < b.length := by omega
      have e : IntKind.wrap .i64 (i + 1) = i + 1 := wrap_in (by omega) (by omega)
      refine .inl ⟨hl, ?w, ?h⟩
      case h =>
        simp only [hl, h4, decide_true, cond_true, h0, if_true, optC, List.getElem?_eq_getElem hi, e]
        rfl
    · right
      simp only [hl, h4, decide_true, decide_false, cond_true, cond_false]
  · right
    simp only [hl, decide_false, cond_false]
theorem newC (b : List Int) (hb : (b.length : Int) ≤ 1099511627776) : d43 b = true ∧ cur (v43 b) := by
  have h : ∀ x : Int, _ := fun x => run_iter (s := s43_0) (Q := fun v => v.1 = b) (fun k v => ∃ hh i : Int, v = (b, hh, i, ()) ∧ 0 ≤ i ∧ i + k = b.length) (fun k v hv => by
    obtain ⟨hh, i, rfl, h0, hk⟩ := hv
    rcases newStep b hh i h0 (by omega) with ⟨hl, h', h1⟩ | h1
    · exact .inr ⟨k - 1, _, by omega, h1, h', i + 1, rfl, by omega, by omega⟩
    · exact .inl ⟨_, h1, rfl⟩) b.length (b, x, (0 : Int), ()) (n43_0 (b, x, (0 : Int), ())) ⟨x, 0, rfl, by omega, by omega⟩ (by simp only [n43_0]; omega)
  unfold d43 v43
  obtain ⟨v', h1, h2⟩ := h (IntKind.wrap .i64 ((139871 : Int) + (b.length : Int)))
  have e1 : k43_0 b (IntKind.wrap .i64 ((139871 : Int) + (b.length : Int))) 0 0 = true := at_of h1 0
  have e2 : w43_0 b (IntKind.wrap .i64 ((139871 : Int) + (b.length : Int))) 0 = v' := val_of h1
  simp only [e1, e2, cond_true]
  refine ⟨trivial, ?_⟩
  rw [h2]
  exact ⟨Int.le_refl _, Int.natCast_nonneg _, hb⟩
theorem z74g1 {n : Int} {c : Ty.T y106} (h : cur c) : d74g1 n c = true := (below n c h).1
theorem uq74g1 {n : Int} {c : Ty.T y106} (h : cur c) : cur (v74g1 n c).2 := (below n c h).2.2
theorem z94g1 {n : Int} {c : Ty.T y106} (h : cur c) : d94g1 n c = true := (once n c h).1
theorem uq94g1 {n : Int} {c : Ty.T y106} (h : cur c) : cur (v94g1 n c).2 := (once n c h).2
theorem z44g1 {l : List (Ty.T (.int .i64))} {c : Ty.T y106} (hl : l ≠ []) (h : cur c) : d44g1 l c = true := (oneOf l c hl h).1
theorem uq44g1 {l : List (Ty.T (.int .i64))} {c : Ty.T y106} (hl : l ≠ []) (h : cur c) : cur (v44g1 l c).2 := (oneOf l c hl h).2.2
theorem lp79g1 {n : Int} {c : Ty.T y106} {p q : Ty.T y83} {l : List Int} (h : cur c) (hn : n = l.length) (hb : l.length ≤ 1000) : k79g1_0 n 0 c p q l 0 = true ∧ cur (w79g1_0 n 0 c p q l).2.2.1 := by
  have := run_sat (s := s79g1_0) (Q := fun v => cur v.2.2.1) (fun k v => ∃ (i : Int) (c : Ty.T y106) (q : Ty.T y83), v = (n, i, c, p, q, l, ()) ∧ cur c ∧ 0 ≤ i ∧ i + k = n) (fun k v hv => by
    obtain ⟨i, c, q, rfl, h1, h3, h4⟩ := hv
    unfold s79g1_0 t79g1_0
    dsimp only
    simp (maxDischargeDepth := 99) only [false_and, and_false, Sat_cond, Sat_some, false_and, and_false, Sat_ite, Sat_ifz, Sat_opt, Sat_none, cond_true, cond_false, and_true, true_and, implies_true, and_self, ne_eq, reduceCtorEq, not_false_eq_true, true_or, or_true, false_or, or_false, Nat.zero_ne_one, Nat.one_ne_zero, List.length_cons, List.length_nil, Nat.reduceAdd, Nat.reduceLeDiff, Int.cast_ofNat_Int, few_nil, few_pair, few_int, few_bool, few_str, few_nul, z94g1, uq94g1, h1]
    intro hl
    have hl : i < n := of_decide_eq_true hl
    obtain ⟨b, hb1, _⟩ := getE (l := l) h3 (by omega)
    have e : IntKind.wrap .i64 (i + 1) = i + 1 := wrap_in (by omega) (by omega)
    have hl2 : i < (l.length : Int) := by omega
    refine ⟨h3, hl2, b, hb1, k - 1, by omega, i + 1, _, _, by rw [e], uq94g1 h1, by omega, by omega⟩) l.length (n, 0, c, p, q, l, ()) (n79g1_0 (n, 0, c, p, q, l, ())) ⟨0, c, q, rfl, h, by omega, by omega⟩ (by simp only [n79g1_0]; omega)
  exact ⟨this.1.1, this.2⟩
theorem zl79g1 {c : Ty.T y106} {p q : Ty.T y83} {l : List (Ty.T (.int .i64))} (hl : (6 : Int) = l.length) (h : cur c) : k79g1_0 6 0 c p q l 0 = true := (lp79g1 (l := l) h hl (by omega)).1
theorem ul79g1 {c : Ty.T y106} {p q : Ty.T y83} {l : List (Ty.T (.int .i64))} (hl : (6 : Int) = l.length) (h : cur c) : cur (w79g1_0 6 0 c p q l).2.2.1 := (lp79g1 (l := l) h hl (by omega)).2
theorem ue79g1_0_0 {a1 : Ty.T y106} (h0 : cur a1) : cur (e79g1_0 a1).2 := by
  unfold e79g1_0
  simp (maxDischargeDepth := 99) only [false_and, and_false, Sat_cond, Sat_some, false_and, and_false, Sat_ite, Sat_ifz, Sat_opt, Sat_none, cond_true, cond_false, and_true, true_and, implies_true, and_self, ne_eq, reduceCtorEq, not_false_eq_true, true_or, or_true, false_or, or_false, Nat.zero_ne_one, Nat.one_ne_zero, List.length_cons, List.length_nil, Nat.reduceAdd, Nat.reduceLeDiff, Int.cast_ofNat_Int, z74g1, uq74g1, z44g1, uq44g1, h0]
theorem ue79g1_1_0 {a0 : Int} {a1 : Ty.T y106} (h0 : cur a1) : cur (e79g1_1 a0 a1).2.2.1 := by
  unfold e79g1_1
  simp (maxDischargeDepth := 99) only [false_and, and_false, Sat_cond, Sat_some, false_and, and_false, Sat_ite, Sat_ifz, Sat_opt, Sat_none, cond_true, cond_false, and_true, true_and, implies_true, and_self, ne_eq, reduceCtorEq, not_false_eq_true, true_or, or_true, false_or, or_false, Nat.zero_ne_one, Nat.one_ne_zero, List.length_cons, List.length_nil, Nat.reduceAdd, Nat.reduceLeDiff, Int.cast_ofNat_Int, zl79g1, ul79g1, z74g1, uq74g1, ue79g1_0_0, z44g1, uq44g1, h0]
theorem ue79g1_2_0 {a0 : Int} {a1 : Ty.T y106} (h0 : cur a1) : cur (e79g1_2 a0 a1).2 := by
  unfold e79g1_2
  simp (maxDischargeDepth := 99) only [false_and, and_false, Sat_cond, Sat_some, false_and, and_false, Sat_ite, Sat_ifz, Sat_opt, Sat_none, cond_true, cond_false, and_true, true_and, implies_true, and_self, ne_eq, reduceCtorEq, not_false_eq_true, true_or, or_true, false_or, or_false, Nat.zero_ne_one, Nat.one_ne_zero, List.length_cons, List.length_nil, Nat.reduceAdd, Nat.reduceLeDiff, Int.cast_ofNat_Int, z44g1, uq44g1, z94g1, uq94g1, ue79g1_1_0, h0]
theorem st79g1 {a0 : Int} {a1 : Ty.T y106} (h0 : cur a1) : Sat (t79g1 a0 a1 some) (fun r => cur r.2) := by
  unfold t79g1
  simp (maxDischargeDepth := 99) only [false_and, and_false, Sat_cond, Sat_some, false_and, and_false, Sat_ite, Sat_ifz, Sat_opt, Sat_none, cond_true, cond_false, and_true, true_and, implies_true, and_self, ne_eq, reduceCtorEq, not_false_eq_true, true_or, or_true, false_or, or_false, Nat.zero_ne_one, Nat.one_ne_zero, List.length_cons, List.length_nil, Nat.reduceAdd, Nat.reduceLeDiff, Int.cast_ofNat_Int, few_nil, few_pair, few_int, few_bool, few_str, few_nul, z74g1, uq74g1, z44g1, uq44g1, ue79g1_0_0, zl79g1, ul79g1, ue79g1_1_0, z94g1, uq94g1, ue79g1_2_0, h0]
theorem z79g1 {a0 : Int} {a1 : Ty.T y106} (h0 : cur a1) : d79g1 a0 a1 = true := (st79g1 h0).d
theorem uq79g1_0 {a0 : Int} {a1 : Ty.T y106} (h0 : cur a1) : cur (v79g1 a0 a1).2 := (st79g1 h0).v
theorem st47g1_1 {i j : Int} {b : Bool} {c : Ty.T y106} {s : Ty.T y52} {q : Ty.T (.pair (.int .i64) (.int .i64))} {ps : List (Ty.T y83)} {ss : List (Ty.T y120)} (h : cur c) (h0 : 0 ≤ i) (h1 : i < (ss.length : Int)) : Sat (t47g1_1 (i, j, b, c, s, q, ps, ss, ()) some) fun r => r.length = ss.length := by
  unfold t47g1_1
  dsimp only
  obtain ⟨x, hx, _⟩ := getE (l := ss) h0 h1
  simp (maxDischargeDepth := 99) only [false_and, and_false, Sat_cond, Sat_some, false_and, and_false, Sat_ite, Sat_ifz, Sat_opt, Sat_none, cond_true, cond_false, and_true, true_and, implies_true, and_self, ne_eq, reduceCtorEq, not_false_eq_true, true_or, or_true, false_or, or_false, Nat.zero_ne_one, Nat.one_ne_zero, List.length_cons, List.length_nil, Nat.reduceAdd, Nat.reduceLeDiff, Int.cast_ofNat_Int, few_nil, few_pair, few_int, few_bool, few_str, few_nul, z44g1, uq44g1, h]
  exact ⟨h0, h1, x, hx, List.length_set⟩
theorem st47g1_2 {i j i2 k : Int} {b : Bool} {li : List Int} {c : Ty.T y106} {s : Ty.T y52} {q : Ty.T (.pair (.int .i64) (.int .i64))} {ps : List (Ty.T y83)} {ss : List (Ty.T y120)} (h : cur c) (h0 : 0 ≤ i) (h1 : i < (ss.length : Int)) : Sat (t47g1_2 (i, j, b, i2, li, k, c, s, q, ps, ss, ()) some) fun r => r.length = ss.length := by
  unfold t47g1_2
  dsimp only
  obtain ⟨x, hx, _⟩ := getE (l := ss) h0 h1
  simp (maxDischargeDepth := 99) only [false_and, and_false, Sat_cond, Sat_some, false_and, and_false, Sat_ite, Sat_ifz, Sat_opt, Sat_none, cond_true, cond_false, and_true, true_and, implies_true, and_self, ne_eq, reduceCtorEq, not_false_eq_true, true_or, or_true, false_or, or_false, Nat.zero_ne_one, Nat.one_ne_zero, List.length_cons, List.length_nil, Nat.reduceAdd, Nat.reduceLeDiff, Int.cast_ofNat_Int, few_nil, few_pair, few_int, few_bool, few_str, few_nul, z44g1, uq44g1, h]
  exact ⟨h0, h1, x, hx, List.length_set⟩
theorem lp47g1 {c : Ty.T y106} {s : Ty.T y52} {q : Ty.T (.pair (.int .i64) (.int .i64))} {ps : List (Ty.T y83)} {ss : List (Ty.T y120)} (hs : ss.length = 2) (h : cur c) : k47g1_0 0 c s q ps ss 0 = true ∧ ∃ c' ss', cur c' ∧ List.length ss' = 2 ∧ w47g1_0 0 c s q ps ss = ((2 : Int), c', s, q, ps, ss', ()) := by
  have := run_sat (s := s47g1_0) (Q := fun v => ∃ c' ss', cur c' ∧ List.length ss' = 2 ∧ v = ((2 : Int), c', s, q, ps, ss', ())) (fun k v => ∃ (i : Int) (c : Ty.T y106) (ss : List (Ty.T y120)), v = (i, c, s, q, ps, ss, ()) ∧ cur c ∧ ss.length = 2 ∧ 0 ≤ i ∧ i + k = 2) (fun k v hv => by
    obtain ⟨i, c, ss, rfl, h1, h2, h3, h4⟩ := hv
    unfold s47g1_0 t47g1_0
    dsimp only
    rw [Sat_cond]
    refine ⟨fun hl => ?_, fun hl => ?_⟩
    · have hl : i < 2 := of_decide_eq_true hl
      have e : IntKind.wrap .i64 (i + 1) = i + 1 := wrap_in (by omega) (by omega)
      have s1 := st47g1_1 (i := i) (j := i) (b := decide (i < 2)) (c := c) (s := s) (q := q) (ps := ps) (ss := ss) h1 h3 (by omega)
      have l1 : (c47g1_1 (i, i, decide (i < 2), c, s, q, ps, ss, ())).length = 2 := (s1.v (z := [])).trans h2
      have s2 := st47g1_2 (i := i) (j := i) (i2 := i) (k := (v44g1 [20, 20, 3, 1, 10] c).1) (b := decide (i < 2)) (li := [20, 20, 3, 1, 10]) (c := (v44g1 [20, 20, 3, 1, 10] c).2) (s := s) (q := q) (ps := ps) (ss := c47g1_1 (i, i, decide (i < 2), c, s, q, ps, ss, ())) (uq44g1 (by simp) h1) h3 (by omega)
      have g1 : g47g1_1 (i, i, decide (i < 2), c, s, q, ps, ss, ()) = true := s1.d
      have g2 : g47g1_2 (i, i, decide (i < 2), i, [20, 20, 3, 1, 10], (v44g1 [20, 20, 3, 1, 10] c).1, (v44g1 [20, 20, 3, 1, 10] c).2, s, q, ps, c47g1_1 (i, i, decide (i < 2), c, s, q, ps, ss, ()), ()) = true := s2.d
      rw [g1, g2, cond_true, cond_true, Sat_some]
      refine .inr ⟨rfl, k - 1, by omega, i + 1, _, _, by rw [e] <;> rfl, uq44g1 (l := [0, 0, 8, 1]) (by simp) (uq44g1 (l := [20, 20, 3, 1, 10]) (by simp) h1), (s2.v (z := [])).trans l1, by omega, by omega⟩
    · have hl : ¬ i < 2 := of_decide_eq_false hl
      have : i = 2 := by omega
      subst this
      rw [Sat_some]
      exact .inl ⟨rfl, c, ss, h1, h2, rfl⟩) 2 ((0 : Int), c, s, q, ps, ss, ()) (n47g1_0 ((0 : Int), c, s, q, ps, ss, ())) ⟨0, c, ss, rfl, h, hs, by omega, by omega⟩ (by simp only [n47g1_0]; omega)
  exact ⟨this.1.1, this.2⟩
theorem lq47g1 {id n : Int} {c : Ty.T y106} {s : Ty.T y52} {q : Ty.T (.pair (.int .i64) (.int .i64))} {ps : List (Ty.T y83)} {ss : List (Ty.T y120)} (h0 : 0 ≤ n) (hp : (ps.length : Int) + n ≤ 1000) (h : cur c) :
    k47g1_3 id n c s q ps ss 0 = true ∧ ∃ (id' : Int) (c' : Ty.T y106) (ps' : List (Ty.T y83)), cur c' ∧ (ps'.length : Int) = ps.length + n ∧ w47g1_3 id n c s q ps ss = (id', (0 : Int), c', s, q, ps', ss, ()) := by
  have := run_sat (s := s47g1_3) (Q := fun v => ∃ (id' : Int) (c' : Ty.T y106) (ps' : List (Ty.T y83)), cur c' ∧ (ps'.length : Int) = ps.length + n ∧ v = (id', (0 : Int), c', s, q, ps', ss, ()))
    (fun k v => ∃ (id m : Int) (c : Ty.T y106) (qs : List (Ty.T y83)), v = (id, m, c, s, q, qs, ss, ()) ∧ cur c ∧ m = k ∧ (qs.length : Int) + m = ps.length + n) (fun k v hv => by
    obtain ⟨id, m, c, qs, rfl, hc, hk, hq⟩ := hv
    unfold s47g1_3 t47g1_3
    dsimp only
    rw [Sat_cond]
    refine ⟨fun hl => ?_, fun hl => ?_⟩
    · have hl : m > 0 := of_decide_eq_true hl
      have e : IntKind.wrap .i64 (m - 1) = m - 1 := wrap_in (by omega) (by omega)
      have hz : ∀ p : Ty.T y83, (qs ++ [p]).length * 96 ≤ 140737488351232 := fun p => by simp only [List.length_append, List.length_cons, List.length_nil]; omega
      rw [z74g1 hc, z79g1 (uq74g1 hc), cond_true, cond_true, if_pos (hz _), Sat_some]
      exact .inr ⟨rfl, k - 1, by omega, _, m - 1, _, _, by rw [e], uq79g1_0 (uq74g1 hc), by omega, by simp only [List.length_append, List.length_cons, List.length_nil]; omega⟩
    · have hl : ¬ m > 0 := of_decide_eq_false hl
      have : m = 0 := by omega
      subst this
      rw [Sat_some]
      exact .inl ⟨rfl, id, c, qs, hc, by omega, rfl⟩) n.toNat (id, n, c, s, q, ps, ss, ()) (n47g1_3 (id, n, c, s, q, ps, ss, ())) ⟨id, n, c, ps, rfl, h, by omega, rfl⟩ (by simp only [n47g1_3]; omega)
  exact ⟨this.1.1, this.2⟩
theorem st47g1 {a0 : Ty.T y106} (h : cur a0) : Sat (t47g1 a0 some) fun r => cur r.2.1 ∧ 1 ≤ r.2.2.1.length ∧ r.2.2.1.length ≤ 6 ∧ r.2.2.2.length = 2 := by
  have d0 : d78 2 = true := rfl
  obtain ⟨k1, c1, ss1, hc1, hs1, w1⟩ := lp47g1 (c := (v74g1 2 (v74g1 3 a0).2).2) (s := ([], [], 0, 0)) (q := ((v74g1 2 (v74g1 3 a0).2).1, IntKind.wrap .i64 ((2 : Int) + (v74g1 3 a0).1))) (ps := (v78 2).2.1) (ss := (v78 2).2.2) rfl (uq74g1 (uq74g1 h))
  have hb := (below 5 c1 hc1).2.1 (by omega)
  have e : IntKind.wrap .i64 ((1 : Int) + (v74g1 5 c1).1) = 1 + (v74g1 5 c1).1 := wrap_in (by omega) (by omega)
  obtain ⟨k2, i2, c2, ps2, hc2, hl2, w2⟩ := lq47g1 (id := 0) (n := 1 + (v74g1 5 c1).1) (c := (v74g1 5 c1).2) (s := ([], [], 0, 0)) (q := ((v74g1 2 (v74g1 3 a0).2).1, IntKind.wrap .i64 ((2 : Int) + (v74g1 3 a0).1))) (ps := (v78 2).2.1) (ss := ss1) (by omega) (by show ((([] : List (Ty.T y83)).length : Int)) + _ ≤ 1000; simp; omega) (uq74g1 hc1)
  have hl2 : (ps2.length : Int) = 1 + (v74g1 5 c1).1 := by rw [hl2]; show (0 : Int) + _ = _; omega
  unfold t47g1
  have e0 : e47g1_0 a0 = _ := w1
  have e1 : e47g1_1 a0 = (i2, (0 : Int), c2, ([], [], 0, 0), ((v74g1 2 (v74g1 3 a0).2).1, IntKind.wrap .i64 ((2 : Int) + (v74g1 3 a0).1)), ps2, ss1, ()) := by unfold e47g1_1; rw [e0]; dsimp only; rw [e]; exact w2
  rw [d0, z74g1 h, z74g1 (uq74g1 h), k1, e1, e0]
  dsimp only
  rw [e, z74g1 hc1, k2]
  simp only [cond_true, Sat_some]
  exact ⟨hc2, by omega, by omega, hs1⟩
theorem z47g1 {a0 : Ty.T y106} (h : cur a0) : d47g1 a0 = true := (st47g1 h).d
theorem uq47g1_0 {a0 : Ty.T y106} (h : cur a0) : cur (v47g1 a0).2.1 := (st47g1 h).v.1
theorem st95g1_0 {k : Int} {c : Ty.T y106} {s : Ty.T y52} (h : cur c) (hl : 0 < s.1.length) : Sat (t95g1_0 (k, c, s, ()) some) fun _ => True := by
  have b := (below (s.1.length : Int) c h).2.1 (by omega)
  obtain ⟨x, hx, _⟩ := getE (l := s.1) b.1 b.2
  unfold t95g1_0
  simp (maxDischargeDepth := 99) only [false_and, and_false, Sat_cond, Sat_some, false_and, and_false, Sat_ite, Sat_ifz, Sat_opt, Sat_none, cond_true, cond_false, and_true, true_and, implies_true, and_self, ne_eq, reduceCtorEq, not_false_eq_true, true_or, or_true, false_or, or_false, Nat.zero_ne_one, Nat.one_ne_zero, List.length_cons, List.length_nil, Nat.reduceAdd, Nat.reduceLeDiff, Int.cast_ofNat_Int, few_nil, few_pair, few_int, few_bool, few_str, few_nul, z74g1, uq74g1, z94g1, uq94g1, h]
  exact ⟨b.1, x, hx⟩
theorem st95g1 {a0 : Ty.T y52} {a1 : Ty.T y106} (h : cur a1) : Sat (t95g1 a0 a1 some) fun r => cur r.2 := by
  unfold t95g1
  rw [Sat_cond]
  refine ⟨fun _ => ?_, fun h0 => ?_⟩
  · simp (maxDischargeDepth := 99) only [false_and, and_false, Sat_cond, Sat_some, false_and, and_false, Sat_ite, Sat_ifz, Sat_opt, Sat_none, cond_true, cond_false, and_true, true_and, implies_true, and_self, ne_eq, reduceCtorEq, not_false_eq_true, true_or, or_true, false_or, or_false, Nat.zero_ne_one, Nat.one_ne_zero, List.length_cons, List.length_nil, Nat.reduceAdd, Nat.reduceLeDiff, Int.cast_ofNat_Int, few_nil, few_pair, few_int, few_bool, few_str, few_nul, z74g1, uq74g1, z94g1, uq94g1, h]
  · have hp : 0 < a0.1.length := by simp at h0; exact List.length_pos_iff.2 h0
    have g : g95g1_0 (0, (v94g1 8 a1).2, a0, ()) = true := (st95g1_0 (uq94g1 h) hp).d
    simp (maxDischargeDepth := 99) only [false_and, and_false, Sat_cond, Sat_some, false_and, and_false, Sat_ite, Sat_ifz, Sat_opt, Sat_none, cond_true, cond_false, and_true, true_and, implies_true, and_self, ne_eq, reduceCtorEq, not_false_eq_true, true_or, or_true, false_or, or_false, Nat.zero_ne_one, Nat.one_ne_zero, List.length_cons, List.length_nil, Nat.reduceAdd, Nat.reduceLeDiff, Int.cast_ofNat_Int, few_nil, few_pair, few_int, few_bool, few_str, few_nul, z74g1, uq74g1, z94g1, uq94g1, h, g]
theorem z95g1 {a0 : Ty.T y52} {a1 : Ty.T y106} (h : cur a1) : d95g1 a0 a1 = true := (st95g1 h).d
theorem uq95g1_0 {a0 : Ty.T y52} {a1 : Ty.T y106} (h : cur a1) : cur (v95g1 a0 a1).2 := (st95g1 h).v
theorem ue105g1_0_0 {a1 : Ty.T y106} (h0 : cur a1) : cur (e105g1_0 a1).2 := by
  unfold e105g1_0
  simp (maxDischargeDepth := 99) only [false_and, and_false, Sat_cond, Sat_some, false_and, and_false, Sat_ite, Sat_ifz, Sat_opt, Sat_none, cond_true, cond_false, and_true, true_and, implies_true, and_self, ne_eq, reduceCtorEq, not_false_eq_true, true_or, or_true, false_or, or_false, Nat.zero_ne_one, Nat.one_ne_zero, List.length_cons, List.length_nil, Nat.reduceAdd, Nat.reduceLeDiff, Int.cast_ofNat_Int, z44g1, uq44g1, h0]
theorem ue105g1_1_0 {a0 : Ty.T y52} {a1 : Ty.T y106} (h0 : cur a1) : cur (e105g1_1 a0 a1).2 := by
  unfold e105g1_1
  simp (maxDischargeDepth := 99) only [false_and, and_false, Sat_cond, Sat_some, false_and, and_false, Sat_ite, Sat_ifz, Sat_opt, Sat_none, cond_true, cond_false, and_true, true_and, implies_true, and_self, ne_eq, reduceCtorEq, not_false_eq_true, true_or, or_true, false_or, or_false, Nat.zero_ne_one, Nat.one_ne_zero, List.length_cons, List.length_nil, Nat.reduceAdd, Nat.reduceLeDiff, Int.cast_ofNat_Int, z44g1, uq44g1, z95g1, uq95g1_0, ue105g1_0_0, h0]
theorem st105g1 {a0 : Ty.T y52} {a1 : Ty.T y106} (h0 : cur a1) : Sat (t105g1 a0 a1 some) (fun r => cur r.2) := by
  unfold t105g1
  simp (maxDischargeDepth := 99) only [false_and, and_false, Sat_cond, Sat_some, false_and, and_false, Sat_ite, Sat_ifz, Sat_opt, Sat_none, cond_true, cond_false, and_true, true_and, implies_true, and_self, ne_eq, reduceCtorEq, not_false_eq_true, true_or, or_true, false_or, or_false, Nat.zero_ne_one, Nat.one_ne_zero, List.length_cons, List.length_nil, Nat.reduceAdd, Nat.reduceLeDiff, Int.cast_ofNat_Int, few_nil, few_pair, few_int, few_bool, few_str, few_nul, z44g1, uq44g1, z95g1, uq95g1_0, ue105g1_0_0, z94g1, uq94g1, z74g1, uq74g1, ue105g1_1_0, h0]
theorem z105g1 {a0 : Ty.T y52} {a1 : Ty.T y106} (h0 : cur a1) : d105g1 a0 a1 = true := (st105g1 h0).d
theorem uq105g1_0 {a0 : Ty.T y52} {a1 : Ty.T y106} (h0 : cur a1) : cur (v105g1 a0 a1).2 := (st105g1 h0).v
theorem st96g1_0 {v : V96g1_0} (h0 : cur v.2.1) : Sat (t96g1_0 v some) (fun r => cur r.1) := by
  unfold t96g1_0
  simp (maxDischargeDepth := 99) only [false_and, and_false, Sat_cond, Sat_some, false_and, and_false, Sat_ite, Sat_ifz, Sat_opt, Sat_none, cond_true, cond_false, and_true, true_and, implies_true, and_self, ne_eq, reduceCtorEq, not_false_eq_true, true_or, or_true, false_or, or_false, Nat.zero_ne_one, Nat.one_ne_zero, List.length_cons, List.length_nil, Nat.reduceAdd, Nat.reduceLeDiff, Int.cast_ofNat_Int, few_nil, few_pair, few_int, few_bool, few_str, few_nul, z44g1, uq44g1, h0]
theorem z96g1_0 {v : V96g1_0} (h0 : cur v.2.1) : g96g1_0 v = true := (st96g1_0 h0).d
theorem uq96g1_0_0 {v : V96g1_0} (h0 : cur v.2.1) : cur (c96g1_0 v).1 := (st96g1_0 h0).v
theorem st96g1_1 {v : V96g1_1} (h0 : cur v.2.2.1) : Sat (t96g1_1 v some) (fun r => cur r.1) := by
  unfold t96g1_1
  simp (maxDischargeDepth := 99) only [false_and, and_false, Sat_cond, Sat_some, false_and, and_false, Sat_ite, Sat_ifz, Sat_opt, Sat_none, cond_true, cond_false, and_true, true_and, implies_true, and_self, ne_eq, reduceCtorEq, not_false_eq_true, true_or, or_true, false_or, or_false, Nat.zero_ne_one, Nat.one_ne_zero, List.length_cons, List.length_nil, Nat.reduceAdd, Nat.reduceLeDiff, Int.cast_ofNat_Int, few_nil, few_pair, few_int, few_bool, few_str, few_nul, z94g1, uq94g1, z95g1, uq95g1_0, z44g1, uq44g1, h0]
theorem z96g1_1 {v : V96g1_1} (h0 : cur v.2.2.1) : g96g1_1 v = true := (st96g1_1 h0).d
theorem uq96g1_1_0 {v : V96g1_1} (h0 : cur v.2.2.1) : cur (c96g1_1 v).1 := (st96g1_1 h0).v
theorem st96g1_2 {v : V96g1_2} (h0 : cur v.1) : Sat (t96g1_2 v some) (fun r => cur r.2) := by
  unfold t96g1_2
  simp (maxDischargeDepth := 99) only [false_and, and_false, Sat_cond, Sat_some, false_and, and_false, Sat_ite, Sat_ifz, Sat_opt, Sat_none, cond_true, cond_false, and_true, true_and, implies_true, and_self, ne_eq, reduceCtorEq, not_false_eq_true, true_or, or_true, false_or, or_false, Nat.zero_ne_one, Nat.one_ne_zero, List.length_cons, List.length_nil, Nat.reduceAdd, Nat.reduceLeDiff, Int.cast_ofNat_Int, few_nil, few_pair, few_int, few_bool, few_str, few_nul, z94g1, uq94g1, h0]
theorem z96g1_2 {v : V96g1_2} (h0 : cur v.1) : g96g1_2 v = true := (st96g1_2 h0).d
theorem uq96g1_2_0 {v : V96g1_2} (h0 : cur v.1) : cur (c96g1_2 v).2 := (st96g1_2 h0).v
theorem st96g1_3 {v : V96g1_0} (h0 : cur v.2.1) : Sat (t96g1_3 v some) (fun r => cur r.2) := by
  unfold t96g1_3
  simp (maxDischargeDepth := 99) only [false_and, and_false, Sat_cond, Sat_some, false_and, and_false, Sat_ite, Sat_ifz, Sat_opt, Sat_none, cond_true, cond_false, and_true, true_and, implies_true, and_self, ne_eq, reduceCtorEq, not_false_eq_true, true_or, or_true, false_or, or_false, Nat.zero_ne_one, Nat.one_ne_zero, List.length_cons, List.length_nil, Nat.reduceAdd, Nat.reduceLeDiff, Int.cast_ofNat_Int, few_nil, few_pair, few_int, few_bool, few_str, few_nul, z95g1, uq95g1_0, h0]
theorem z96g1_3 {v : V96g1_0} (h0 : cur v.2.1) : g96g1_3 v = true := (st96g1_3 h0).d
theorem uq96g1_3_0 {v : V96g1_0} (h0 : cur v.2.1) : cur (c96g1_3 v).2 := (st96g1_3 h0).v
theorem ue96g1_0_0 {a1 : Ty.T y106} (h0 : cur a1) : cur (e96g1_0 a1).2 := by
  unfold e96g1_0
  simp (maxDischargeDepth := 99) only [false_and, and_false, Sat_cond, Sat_some, false_and, and_false, Sat_ite, Sat_ifz, Sat_opt, Sat_none, cond_true, cond_false, and_true, true_and, implies_true, and_self, ne_eq, reduceCtorEq, not_false_eq_true, true_or, or_true, false_or, or_false, Nat.zero_ne_one, Nat.one_ne_zero, List.length_cons, List.length_nil, Nat.reduceAdd, Nat.reduceLeDiff, Int.cast_ofNat_Int, z44g1, uq44g1, h0]
theorem ue96g1_1_0 {a0 : Ty.T y52} {a1 : Ty.T y106} (h0 : cur a1) : cur (e96g1_1 a0 a1).1 := by
  unfold e96g1_1
  simp (maxDischargeDepth := 99) only [false_and, and_false, Sat_cond, Sat_some, false_and, and_false, Sat_ite, Sat_ifz, Sat_opt, Sat_none, cond_true, cond_false, and_true, true_and, implies_true, and_self, ne_eq, reduceCtorEq, not_false_eq_true, true_or, or_true, false_or, or_false, Nat.zero_ne_one, Nat.one_ne_zero, List.length_cons, List.length_nil, Nat.reduceAdd, Nat.reduceLeDiff, Int.cast_ofNat_Int, z96g1_0, uq96g1_0_0, z94g1, uq94g1, ue96g1_0_0, z44g1, uq44g1, h0]
theorem ue96g1_2_0 {a0 : Ty.T y52} {a1 : Ty.T y106} (h0 : cur a1) : cur (e96g1_2 a0 a1).1 := by
  unfold e96g1_2
  simp (maxDischargeDepth := 99) only [false_and, and_false, Sat_cond, Sat_some, false_and, and_false, Sat_ite, Sat_ifz, Sat_opt, Sat_none, cond_true, cond_false, and_true, true_and, implies_true, and_self, ne_eq, reduceCtorEq, not_false_eq_true, true_or, or_true, false_or, or_false, Nat.zero_ne_one, Nat.one_ne_zero, List.length_cons, List.length_nil, Nat.reduceAdd, Nat.reduceLeDiff, Int.cast_ofNat_Int, z96g1_1, uq96g1_1_0, ue96g1_1_0, h0]
theorem ue96g1_3_0 {a0 : Ty.T y52} {a1 : Ty.T y106} (h0 : cur a1) : cur (e96g1_3 a0 a1).2 := by
  unfold e96g1_3
  simp (maxDischargeDepth := 99) only [false_and, and_false, Sat_cond, Sat_some, false_and, and_false, Sat_ite, Sat_ifz, Sat_opt, Sat_none, cond_true, cond_false, and_true, true_and, implies_true, and_self, ne_eq, reduceCtorEq, not_false_eq_true, true_or, or_true, false_or, or_false, Nat.zero_ne_one, Nat.one_ne_zero, List.length_cons, List.length_nil, Nat.reduceAdd, Nat.reduceLeDiff, Int.cast_ofNat_Int, z96g1_2, uq96g1_2_0, ue96g1_2_0, h0]
theorem ue96g1_4_0 {a0 : Ty.T y52} {a1 : Ty.T y106} (h0 : cur a1) : cur (e96g1_4 a0 a1).2 := by
  unfold e96g1_4
  simp (maxDischargeDepth := 99) only [false_and, and_false, Sat_cond, Sat_some, false_and, and_false, Sat_ite, Sat_ifz, Sat_opt, Sat_none, cond_true, cond_false, and_true, true_and, implies_true, and_self, ne_eq, reduceCtorEq, not_false_eq_true, true_or, or_true, false_or, or_false, Nat.zero_ne_one, Nat.one_ne_zero, List.length_cons, List.length_nil, Nat.reduceAdd, Nat.reduceLeDiff, Int.cast_ofNat_Int, z96g1_3, uq96g1_3_0, ue96g1_3_0, ue96g1_2_0, h0]
theorem st96g1 {a0 : Ty.T y52} {a1 : Ty.T y106} (h0 : cur a1) : Sat (t96g1 a0 a1 some) (fun r => cur r.2) := by
  unfold t96g1
  simp (maxDischargeDepth := 99) only [false_and, and_false, Sat_cond, Sat_some, false_and, and_false, Sat_ite, Sat_ifz, Sat_opt, Sat_none, cond_true, cond_false, and_true, true_and, implies_true, and_self, ne_eq, reduceCtorEq, not_false_eq_true, true_or, or_true, false_or, or_false, Nat.zero_ne_one, Nat.one_ne_zero, List.length_cons, List.length_nil, Nat.reduceAdd, Nat.reduceLeDiff, Int.cast_ofNat_Int, few_nil, few_pair, few_int, few_bool, few_str, few_nul, z44g1, uq44g1, z94g1, uq94g1, ue96g1_0_0, z96g1_0, uq96g1_0_0, z96g1_1, uq96g1_1_0, ue96g1_1_0, z96g1_2, uq96g1_2_0, ue96g1_2_0, z96g1_3, uq96g1_3_0, ue96g1_3_0, ue96g1_4_0, h0]
theorem z96g1 {a0 : Ty.T y52} {a1 : Ty.T y106} (h0 : cur a1) : d96g1 a0 a1 = true := (st96g1 h0).d
theorem uq96g1_0 {a0 : Ty.T y52} {a1 : Ty.T y106} (h0 : cur a1) : cur (v96g1 a0 a1).2 := (st96g1 h0).v
theorem st97g1 {a0 : Ty.T y106} (h0 : cur a0) : Sat (t97g1 a0 some) (fun r => cur r.2) := by
  unfold t97g1
  simp (maxDischargeDepth := 99) only [false_and, and_false, Sat_cond, Sat_some, false_and, and_false, Sat_ite, Sat_ifz, Sat_opt, Sat_none, cond_true, cond_false, and_true, true_and, implies_true, and_self, ne_eq, reduceCtorEq, not_false_eq_true, true_or, or_true, false_or, or_false, Nat.zero_ne_one, Nat.one_ne_zero, List.length_cons, List.length_nil, Nat.reduceAdd, Nat.reduceLeDiff, Int.cast_ofNat_Int, few_nil, few_pair, few_int, few_bool, few_str, few_nul, z94g1, uq94g1, z74g1, uq74g1, z44g1, uq44g1, h0]
theorem z97g1 {a0 : Ty.T y106} (h0 : cur a0) : d97g1 a0 = true := (st97g1 h0).d
theorem uq97g1_0 {a0 : Ty.T y106} (h0 : cur a0) : cur (v97g1 a0).2 := (st97g1 h0).v
theorem st118g1 {a0 : Ty.T y106} (h0 : cur a0) : Sat (t118g1 a0 some) (fun r => cur r.2) := by
  unfold t118g1
  simp (maxDischargeDepth := 99) only [false_and, and_false, Sat_cond, Sat_some, false_and, and_false, Sat_ite, Sat_ifz, Sat_opt, Sat_none, cond_true, cond_false, and_true, true_and, implies_true, and_self, ne_eq, reduceCtorEq, not_false_eq_true, true_or, or_true, false_or, or_false, Nat.zero_ne_one, Nat.one_ne_zero, List.length_cons, List.length_nil, Nat.reduceAdd, Nat.reduceLeDiff, Int.cast_ofNat_Int, few_nil, few_pair, few_int, few_bool, few_str, few_nul, z44g1, uq44g1, h0]
theorem z118g1 {a0 : Ty.T y106} (h0 : cur a0) : d118g1 a0 = true := (st118g1 h0).d
theorem uq118g1_0 {a0 : Ty.T y106} (h0 : cur a0) : cur (v118g1 a0).2 := (st118g1 h0).v
theorem st103g1 {a0 : Ty.T y106} (h0 : cur a0) : Sat (t103g1 a0 some) (fun r => cur r.2) := by
  unfold t103g1
  simp (maxDischargeDepth := 99) only [false_and, and_false, Sat_cond, Sat_some, false_and, and_false, Sat_ite, Sat_ifz, Sat_opt, Sat_none, cond_true, cond_false, and_true, true_and, implies_true, and_self, ne_eq, reduceCtorEq, not_false_eq_true, true_or, or_true, false_or, or_false, Nat.zero_ne_one, Nat.one_ne_zero, List.length_cons, List.length_nil, Nat.reduceAdd, Nat.reduceLeDiff, Int.cast_ofNat_Int, few_nil, few_pair, few_int, few_bool, few_str, few_nul, z94g1, uq94g1, z118g1, uq118g1_0, z44g1, uq44g1, h0]
theorem z103g1 {a0 : Ty.T y106} (h0 : cur a0) : d103g1 a0 = true := (st103g1 h0).d
theorem uq103g1_0 {a0 : Ty.T y106} (h0 : cur a0) : cur (v103g1 a0).2 := (st103g1 h0).v
theorem st91g1 {a0 : Ty.T y52} {a1 : Ty.T y106} (h0 : cur a1) : Sat (t91g1 a0 a1 some) (fun r => cur r.2) := by
  unfold t91g1
  simp (maxDischargeDepth := 99) only [false_and, and_false, Sat_cond, Sat_some, false_and, and_false, Sat_ite, Sat_ifz, Sat_opt, Sat_none, cond_true, cond_false, and_true, true_and, implies_true, and_self, ne_eq, reduceCtorEq, not_false_eq_true, true_or, or_true, false_or, or_false, Nat.zero_ne_one, Nat.one_ne_zero, List.length_cons, List.length_nil, Nat.reduceAdd, Nat.reduceLeDiff, Int.cast_ofNat_Int, few_nil, few_pair, few_int, few_bool, few_str, few_nul, z96g1, uq96g1_0, z74g1, uq74g1, z44g1, uq44g1, z103g1, uq103g1_0, h0]
theorem z91g1 {a0 : Ty.T y52} {a1 : Ty.T y106} (h0 : cur a1) : d91g1 a0 a1 = true := (st91g1 h0).d
theorem uq91g1_0 {a0 : Ty.T y52} {a1 : Ty.T y106} (h0 : cur a1) : cur (v91g1 a0 a1).2 := (st91g1 h0).v
theorem st92g1 {a0 : Ty.T y106} (h0 : cur a0) : Sat (t92g1 a0 some) (fun r => cur r.2) := by
  unfold t92g1
  simp (maxDischargeDepth := 99) only [false_and, and_false, Sat_cond, Sat_some, false_and, and_false, Sat_ite, Sat_ifz, Sat_opt, Sat_none, cond_true, cond_false, and_true, true_and, implies_true, and_self, ne_eq, reduceCtorEq, not_false_eq_true, true_or, or_true, false_or, or_false, Nat.zero_ne_one, Nat.one_ne_zero, List.length_cons, List.length_nil, Nat.reduceAdd, Nat.reduceLeDiff, Int.cast_ofNat_Int, few_nil, few_pair, few_int, few_bool, few_str, few_nul, z97g1, uq97g1_0, z74g1, uq74g1, z44g1, uq44g1, z103g1, uq103g1_0, h0]
theorem z92g1 {a0 : Ty.T y106} (h0 : cur a0) : d92g1 a0 = true := (st92g1 h0).d
theorem uq92g1_0 {a0 : Ty.T y106} (h0 : cur a0) : cur (v92g1 a0).2 := (st92g1 h0).v
theorem st104g1 {a0 : Ty.T y52} {a1 : Ty.T y106} (h0 : cur a1) : Sat (t104g1 a0 a1 some) (fun r => cur r.2) := by
  unfold t104g1
  simp (maxDischargeDepth := 99) only [false_and, and_false, Sat_cond, Sat_some, false_and, and_false, Sat_ite, Sat_ifz, Sat_opt, Sat_none, cond_true, cond_false, and_true, true_and, implies_true, and_self, ne_eq, reduceCtorEq, not_false_eq_true, true_or, or_true, false_or, or_false, Nat.zero_ne_one, Nat.one_ne_zero, List.length_cons, List.length_nil, Nat.reduceAdd, Nat.reduceLeDiff, Int.cast_ofNat_Int, few_nil, few_pair, few_int, few_bool, few_str, few_nul, z105g1, uq105g1_0, z74g1, uq74g1, z44g1, uq44g1, z103g1, uq103g1_0, h0]
theorem z104g1 {a0 : Ty.T y52} {a1 : Ty.T y106} (h0 : cur a1) : d104g1 a0 a1 = true := (st104g1 h0).d
theorem uq104g1_0 {a0 : Ty.T y52} {a1 : Ty.T y106} (h0 : cur a1) : cur (v104g1 a0 a1).2 := (st104g1 h0).v
theorem lp98g1 {n : Int} {c : Ty.T y106} {s : Ty.T y52} {y : Ty.T y113} {q : Ty.T q0} {l : List (Ty.T y63)} (h : cur c) : k98g1_0 n 0 c s y q l 0 = true ∧ cur (w98g1_0 n 0 c s y q l).2.2.1 ∧ (w98g1_0 n 0 c s y q l).2.2.2.2.2.2.1 = l := by
  have := run_sat (s := s98g1_0) (Q := fun v => cur v.2.2.1 ∧ v.2.2.2.2.2.2.1 = l) (fun k v => ∃ (i : Int) (c : Ty.T y106) (q : Ty.T q0), v = (n, i, c, s, y, q, l, ()) ∧ cur c ∧ 0 ≤ i ∧ i + k = 6) (fun k v hv => by
    obtain ⟨i, c, q, rfl, h1, h3, h4⟩ := hv
    unfold s98g1_0 t98g1_0
    dsimp only
    have e : IntKind.wrap .i64 (i + 1) = i + 1 := wrap_in (by omega) (by omega)
    rw [Sat_cond, z74g1 h1, cond_true, Sat_some, Sat_some]
    refine ⟨fun hl => ?_, fun _ => .inl ⟨rfl, h1, rfl⟩⟩
    have hi : i < 6 := by
      by_cases hi : i < 6
      · exact hi
      · unfold c98g1_1 t98g1_1 at hl
        dsimp only at hl
        rw [show decide (i < (6 : Int)) = false from decide_eq_false hi] at hl
        cases hl
    exact .inr ⟨rfl, k - 1, by omega, i + 1, _, _, by rw [e] <;> rfl, uq74g1 h1, by omega, by omega⟩) 6 (n, 0, c, s, y, q, l, ()) (n98g1_0 (n, 0, c, s, y, q, l, ())) ⟨0, c, q, rfl, h, by omega, by omega⟩ (by simp only [n98g1_0]; omega)
  exact ⟨this.1.1, this.2⟩
theorem zl98g1 {n : Int} {c : Ty.T y106} {s : Ty.T y52} {y : Ty.T y113} {q : Ty.T q0} {l : List (Ty.T y63)} (h : cur c) : k98g1_0 n 0 c s y q l 0 = true := (lp98g1 h).1
theorem ul98g1 {n : Int} {c : Ty.T y106} {s : Ty.T y52} {y : Ty.T y113} {q : Ty.T q0} {l : List (Ty.T y63)} (h : cur c) : cur (w98g1_0 n 0 c s y q l).2.2.1 := (lp98g1 h).2.1
theorem ur98g1 {n : Int} {c : Ty.T y106} {s : Ty.T y52} {y : Ty.T y113} {q : Ty.T q0} {l : List (Ty.T y63)} (h : cur c) : (w98g1_0 n 0 c s y q l).2.2.2.2.2.2.1 = l := (lp98g1 h).2.2
theorem st98g1_3 {v : V98g1_2} (h0 : cur v.2.1) : Sat (t98g1_3 v some) (fun r => cur r.2) := by
  unfold t98g1_3
  simp (maxDischargeDepth := 99) only [false_and, and_false, Sat_cond, Sat_some, false_and, and_false, Sat_ite, Sat_ifz, Sat_opt, Sat_none, cond_true, cond_false, and_true, true_and, implies_true, and_self, ne_eq, reduceCtorEq, not_false_eq_true, true_or, or_true, false_or, or_false, Nat.zero_ne_one, Nat.one_ne_zero, List.length_cons, List.length_nil, Nat.reduceAdd, Nat.reduceLeDiff, Int.cast_ofNat_Int, few_nil, few_pair, few_int, few_bool, few_str, few_nul, z74g1, uq74g1, z95g1, uq95g1_0, h0]
theorem z98g1_3 {v : V98g1_2} (h0 : cur v.2.1) : g98g1_3 v = true := (st98g1_3 h0).d
theorem uq98g1_3_0 {v : V98g1_2} (h0 : cur v.2.1) : cur (c98g1_3 v).2 := (st98g1_3 h0).v
theorem st98g1_5 {v : V98g1_5} (h0 : cur v.2.2.2.2.2.1) : Sat (t98g1_5 v some) (fun r => cur r.2.2) := by
  unfold t98g1_5
  simp (maxDischargeDepth := 99) only [false_and, and_false, Sat_cond, Sat_some, false_and, and_false, Sat_ite, Sat_ifz, Sat_opt, Sat_none, cond_true, cond_false, and_true, true_and, implies_true, and_self, ne_eq, reduceCtorEq, not_false_eq_true, true_or, or_true, false_or, or_false, Nat.zero_ne_one, Nat.one_ne_zero, List.length_cons, List.length_nil, Nat.reduceAdd, Nat.reduceLeDiff, Int.cast_ofNat_Int, few_nil, few_pair, few_int, few_bool, few_str, few_nul, z94g1, uq94g1, h0]
theorem z98g1_5 {v : V98g1_5} (h0 : cur v.2.2.2.2.2.1) : g98g1_5 v = true := (st98g1_5 h0).d
theorem uq98g1_5_0 {v : V98g1_5} (h0 : cur v.2.2.2.2.2.1) : cur (c98g1_5 v).2.2 := (st98g1_5 h0).v
theorem lq98g1 {n : Int} {c : Ty.T y106} {s : Ty.T y52} {y : Ty.T y113} {q : Ty.T q0} {l : List (Ty.T y63)} (h0 : 0 ≤ n) (hn : n ≤ 2) (hl : l = []) (h : cur c) : k98g1_4 n c s y q l 0 = true ∧ cur (w98g1_4 n c s y q l).2.1 ∧ List.length (w98g1_4 n c s y q l).2.2.2.2.2.1 ≤ 2 := by
  have := run_sat (s := s98g1_4) (Q := fun v => cur v.2.1 ∧ List.length v.2.2.2.2.2.1 ≤ 2) (fun k v => ∃ (i : Int) (c : Ty.T y106) (l : List (Ty.T y63)), v = (i, c, s, y, q, l, ()) ∧ cur c ∧ i = k ∧ (l.length : Int) + i ≤ 2) (fun k v hv => by
    obtain ⟨i, c, l, rfl, h1, h3, h4⟩ := hv
    have e : 0 ≤ i → IntKind.wrap .i64 (i - 1) = i - 1 := fun _ => wrap_in (by omega) (by omega)
    have hz : ∀ x, (l ++ [x]).length * 56 ≤ 140737488351232 := fun x => by simp only [List.length_append, List.length_cons, List.length_nil]; omega
    unfold s98g1_4 t98g1_4
    dsimp only
    simp (maxDischargeDepth := 99) only [false_and, and_false, Sat_cond, Sat_some, false_and, and_false, Sat_ite, Sat_ifz, Sat_opt, Sat_none, cond_true, cond_false, and_true, true_and, implies_true, and_self, ne_eq, reduceCtorEq, not_false_eq_true, true_or, or_true, false_or, or_false, Nat.zero_ne_one, Nat.one_ne_zero, List.length_cons, List.length_nil, Nat.reduceAdd, Nat.reduceLeDiff, Int.cast_ofNat_Int, few_nil, few_pair, few_int, few_bool, few_str, few_nul, z105g1, uq105g1_0, z98g1_5, uq98g1_5_0, h1, hz, if_true]
    refine ⟨fun hl => ?_, fun _ => by omega⟩
    have hl : i > 0 := of_decide_eq_true hl
    refine ⟨k - 1, by omega, i - 1, _, _, by rw [e (by omega)] <;> rfl, ?_, by omega, by simp only [List.length_append, List.length_cons, List.length_nil]; omega⟩
    simp (maxDischargeDepth := 99) only [false_and, and_false, Sat_cond, Sat_some, false_and, and_false, Sat_ite, Sat_ifz, Sat_opt, Sat_none, cond_true, cond_false, and_true, true_and, implies_true, and_self, ne_eq, reduceCtorEq, not_false_eq_true, true_or, or_true, false_or, or_false, Nat.zero_ne_one, Nat.one_ne_zero, List.length_cons, List.length_nil, Nat.reduceAdd, Nat.reduceLeDiff, Int.cast_ofNat_Int, few_nil, few_pair, few_int, few_bool, few_str, few_nul, z105g1, uq105g1_0, z98g1_5, uq98g1_5_0, h1]) n.toNat (n, c, s, y, q, l, ()) (n98g1_4 (n, c, s, y, q, l, ())) ⟨n, c, l, rfl, h, by omega, by subst hl; show (0 : Int) + n ≤ 2; omega⟩ (by simp only [n98g1_4]; omega)
  exact ⟨this.1.1, this.2⟩
theorem wbA {c : Ty.T y106} (h : cur c) : 0 ≤ IntKind.wrap .i64 ((1 : Int) + (v74g1 2 c).1) := by
  have := (below 2 c h).2.1 (by omega)
  rw [wrap_in (by omega) (by omega)]
  omega
theorem wbB {c : Ty.T y106} (h : cur c) : IntKind.wrap .i64 ((1 : Int) + (v74g1 2 c).1) ≤ 2 := by
  have := (below 2 c h).2.1 (by omega)
  rw [wrap_in (by omega) (by omega)]
  omega
theorem zm98g1 {n : Int} {c : Ty.T y106} {s : Ty.T y52} {y : Ty.T y113} {q : Ty.T q0} {l : List (Ty.T y63)} (h0 : 0 ≤ n) (hn : n ≤ 2) (hl : l = []) (h : cur c) : k98g1_4 n c s y q l 0 = true := (lq98g1 h0 hn hl h).1
theorem um98g1 {n : Int} {c : Ty.T y106} {s : Ty.T y52} {y : Ty.T y113} {q : Ty.T q0} {l : List (Ty.T y63)} (h0 : 0 ≤ n) (hn : n ≤ 2) (hl : l = []) (h : cur c) : cur (w98g1_4 n c s y q l).2.1 := (lq98g1 h0 hn hl h).2.1
theorem un98g1 {n : Int} {c : Ty.T y106} {s : Ty.T y52} {y : Ty.T y113} {q : Ty.T q0} {l : List (Ty.T y63)} (h0 : 0 ≤ n) (hn : n ≤ 2) (hl : l = []) (h : cur c) : Ty.few 2 (.sl 68 y63) (w98g1_4 n c s y q l).2.2.2.2.2.1 := few_row rfl (Nat.le_trans (lq98g1 h0 hn hl h).2.2 (by decide))
theorem ue98g1_0_0 {a0 : Ty.T y52} {a1 : Int} {a2 : Ty.T y106} (h0 : cur a2) : cur (e98g1_0 a0 a1 a2).2.2.1 := by
  unfold e98g1_0
  simp (maxDischargeDepth := 99) only [false_and, and_false, Sat_cond, Sat_some, false_and, and_false, Sat_ite, Sat_ifz, Sat_opt, Sat_none, cond_true, cond_false, and_true, true_and, implies_true, and_self, ne_eq, reduceCtorEq, not_false_eq_true, true_or, or_true, false_or, or_false, Nat.zero_ne_one, Nat.one_ne_zero, List.length_cons, List.length_nil, Nat.reduceAdd, Nat.reduceLeDiff, Int.cast_ofNat_Int, zl98g1, ul98g1, ur98g1, z44g1, uq44g1, h0]
theorem ue98g1_0_e {a0 : Ty.T y52} {a1 : Int} {a2 : Ty.T y106} (h0 : cur a2) : (e98g1_0 a0 a1 a2).2.2.2.2.2.2.1 = [] := by
  unfold e98g1_0
  exact ur98g1 (by simp (maxDischargeDepth := 99) only [false_and, and_false, Sat_cond, Sat_some, false_and, and_false, Sat_ite, Sat_ifz, Sat_opt, Sat_none, cond_true, cond_false, and_true, true_and, implies_true, and_self, ne_eq, reduceCtorEq, not_false_eq_true, true_or, or_true, false_or, or_false, Nat.zero_ne_one, Nat.one_ne_zero, List.length_cons, List.length_nil, Nat.reduceAdd, Nat.reduceLeDiff, Int.cast_ofNat_Int, zl98g1, ul98g1, ur98g1, z44g1, uq44g1, h0])
theorem ue98g1_3_0 {a0 : Ty.T y52} {a1 : Int} {a2 : Ty.T y106} (h0 : cur a2) : cur (e98g1_3 a0 a1 a2).2 := by
  unfold e98g1_3
  simp (maxDischargeDepth := 99) only [false_and, and_false, Sat_cond, Sat_some, false_and, and_false, Sat_ite, Sat_ifz, Sat_opt, Sat_none, cond_true, cond_false, and_true, true_and, implies_true, and_self, ne_eq, reduceCtorEq, not_false_eq_true, true_or, or_true, false_or, or_false, Nat.zero_ne_one, Nat.one_ne_zero, List.length_cons, List.length_nil, Nat.reduceAdd, Nat.reduceLeDiff, Int.cast_ofNat_Int, z98g1_3, uq98g1_3_0, z94g1, uq94g1, ue98g1_0_0, ue98g1_0_e, h0]
theorem ue98g1_4_0 {a0 : Ty.T y52} {a1 : Int} {a2 : Ty.T y106} (h0 : cur a2) : cur (e98g1_4 a0 a1 a2).2.1 := by
  unfold e98g1_4
  simp (maxDischargeDepth := 99) only [false_and, and_false, Sat_cond, Sat_some, false_and, and_false, Sat_ite, Sat_ifz, Sat_opt, Sat_none, cond_true, cond_false, and_true, true_and, implies_true, and_self, ne_eq, reduceCtorEq, not_false_eq_true, true_or, or_true, false_or, or_false, Nat.zero_ne_one, Nat.one_ne_zero, List.length_cons, List.length_nil, Nat.reduceAdd, Nat.reduceLeDiff, Int.cast_ofNat_Int, zm98g1, um98g1, un98g1, wbA, wbB, z74g1, uq74g1, ue98g1_0_0, ue98g1_0_e, h0]
theorem ue98g1_4_1 {a0 : Ty.T y52} {a1 : Int} {a2 : Ty.T y106} (h0 : cur a2) : Ty.few 2 (.sl 68 y63) (e98g1_4 a0 a1 a2).2.2.2.2.2.1 := by
  unfold e98g1_4
  simp (maxDischargeDepth := 99) only [false_and, and_false, Sat_cond, Sat_some, false_and, and_false, Sat_ite, Sat_ifz, Sat_opt, Sat_none, cond_true, cond_false, and_true, true_and, implies_true, and_self, ne_eq, reduceCtorEq, not_false_eq_true, true_or, or_true, false_or, or_false, Nat.zero_ne_one, Nat.one_ne_zero, List.length_cons, List.length_nil, Nat.reduceAdd, Nat.reduceLeDiff, Int.cast_ofNat_Int, zm98g1, um98g1, un98g1, wbA, wbB, z74g1, uq74g1, ue98g1_0_0, ue98g1_0_e, h0]
theorem st98g1 {a0 : Ty.T y52} {a1 : Int} {a2 : Ty.T y106} (h0 : cur a2) : Sat (t98g1 a0 a1 a2 some) (fun r => cur r.2.1 ∧ Ty.few 2 (.sl 68 y63) r.2.2) := by
  unfold t98g1
  simp (maxDischargeDepth := 99) only [false_and, and_false, Sat_cond, Sat_some, false_and, and_false, Sat_ite, Sat_ifz, Sat_opt, Sat_none, cond_true, cond_false, and_true, true_and, implies_true, and_self, ne_eq, reduceCtorEq, not_false_eq_true, true_or, or_true, false_or, or_false, Nat.zero_ne_one, Nat.one_ne_zero, List.length_cons, List.length_nil, Nat.reduceAdd, Nat.reduceLeDiff, Int.cast_ofNat_Int, few_nil, few_pair, few_int, few_bool, few_str, few_nul, z44g1, uq44g1, zl98g1, ul98g1, ur98g1, ue98g1_0_0, ue98g1_0_e, z94g1, uq94g1, z98g1_3, uq98g1_3_0, ue98g1_3_0, z74g1, uq74g1, zm98g1, um98g1, un98g1, wbA, wbB, ue98g1_4_0, ue98g1_4_1, h0]
theorem z98g1 {a0 : Ty.T y52} {a1 : Int} {a2 : Ty.T y106} (h0 : cur a2) : d98g1 a0 a1 a2 = true := (st98g1 h0).d
theorem uq98g1_0 {a0 : Ty.T y52} {a1 : Int} {a2 : Ty.T y106} (h0 : cur a2) : cur (v98g1 a0 a1 a2).2.1 := (st98g1 h0).v.1
theorem uq98g1_1 {a0 : Ty.T y52} {a1 : Int} {a2 : Ty.T y106} (h0 : cur a2) : Ty.few 2 (.sl 68 y63) (v98g1 a0 a1 a2).2.2 := (st98g1 h0).v.2
theorem uq98g1_1m8 {a0 : Ty.T y52} {a1 : Int} {a2 : Ty.T y106} (h0 : cur a2) : Ty.few 8 (.sl 68 y63) (v98g1 a0 a1 a2).2.2 := few_mono (by decide) _ _ (uq98g1_1 h0)
theorem st77g1_0 {v : V77g1_0} (h0 : cur v.1) : Sat (t77g1_0 v some) (fun r => cur r.2) := by
  unfold t77g1_0
  simp (maxDischargeDepth := 99) only [false_and, and_false, Sat_cond, Sat_some, false_and, and_false, Sat_ite, Sat_ifz, Sat_opt, Sat_none, cond_true, cond_false, and_true, true_and, implies_true, and_self, ne_eq, reduceCtorEq, not_false_eq_true, true_or, or_true, false_or, or_false, Nat.zero_ne_one, Nat.one_ne_zero, List.length_cons, List.length_nil, Nat.reduceAdd, Nat.reduceLeDiff, Int.cast_ofNat_Int, few_nil, few_pair, few_int, few_bool, few_str, few_nul, z94g1, uq94g1, h0]
theorem z77g1_0 {v : V77g1_0} (h0 : cur v.1) : g77g1_0 v = true := (st77g1_0 h0).d
theorem uq77g1_0_0 {v : V77g1_0} (h0 : cur v.1) : cur (c77g1_0 v).2 := (st77g1_0 h0).v
theorem st77g1_1 {v : V77g1_1} (h0 : cur v.2.1) : Sat (t77g1_1 v some) (fun r => cur r.1) := by
  unfold t77g1_1
  simp (maxDischargeDepth := 99) only [false_and, and_false, Sat_cond, Sat_some, false_and, and_false, Sat_ite, Sat_ifz, Sat_opt, Sat_none, cond_true, cond_false, and_true, true_and, implies_true, and_self, ne_eq, reduceCtorEq, not_false_eq_true, true_or, or_true, false_or, or_false, Nat.zero_ne_one, Nat.one_ne_zero, List.length_cons, List.length_nil, Nat.reduceAdd, Nat.reduceLeDiff, Int.cast_ofNat_Int, few_nil, few_pair, few_int, few_bool, few_str, few_nul, z95g1, uq95g1_0, h0]
theorem z77g1_1 {v : V77g1_1} (h0 : cur v.2.1) : g77g1_1 v = true := (st77g1_1 h0).d
theorem uq77g1_1_0 {v : V77g1_1} (h0 : cur v.2.1) : cur (c77g1_1 v).1 := (st77g1_1 h0).v
theorem st77g1_2 {v : V77g1_2} (h0 : cur v.1) : Sat (t77g1_2 v some) (fun _ => True) := by
  unfold t77g1_2
  simp (maxDischargeDepth := 99) only [false_and, and_false, Sat_cond, Sat_some, false_and, and_false, Sat_ite, Sat_ifz, Sat_opt, Sat_none, cond_true, cond_false, and_true, true_and, implies_true, and_self, ne_eq, reduceCtorEq, not_false_eq_true, true_or, or_true, false_or, or_false, Nat.zero_ne_one, Nat.one_ne_zero, List.length_cons, List.length_nil, Nat.reduceAdd, Nat.reduceLeDiff, Int.cast_ofNat_Int, few_nil, few_pair, few_int, few_bool, few_str, few_nul, z74g1, uq74g1, h0]
theorem z77g1_2 {v : V77g1_2} (h0 : cur v.1) : g77g1_2 v = true := (st77g1_2 h0).d
theorem st77g1_3 {v : V77g1_1} (h0 : cur v.2.1) : Sat (t77g1_3 v some) (fun r => cur r.1) := by
  unfold t77g1_3
  simp (maxDischargeDepth := 99) only [false_and, and_false, Sat_cond, Sat_some, false_and, and_false, Sat_ite, Sat_ifz, Sat_opt, Sat_none, cond_true, cond_false, and_true, true_and, implies_true, and_self, ne_eq, reduceCtorEq, not_false_eq_true, true_or, or_true, false_or, or_false, Nat.zero_ne_one, Nat.one_ne_zero, List.length_cons, List.length_nil, Nat.reduceAdd, Nat.reduceLeDiff, Int.cast_ofNat_Int, few_nil, few_pair, few_int, few_bool, few_str, few_nul, z77g1_2, z74g1, uq74g1, h0]
theorem z77g1_3 {v : V77g1_1} (h0 : cur v.2.1) : g77g1_3 v = true := (st77g1_3 h0).d
theorem uq77g1_3_0 {v : V77g1_1} (h0 : cur v.2.1) : cur (c77g1_3 v).1 := (st77g1_3 h0).v
theorem st77g1_4 {v : V77g1_4} (h0 : cur v.2.1) : Sat (t77g1_4 v some) (fun r => cur r.2) := by
  unfold t77g1_4
  simp (maxDischargeDepth := 99) only [false_and, and_false, Sat_cond, Sat_some, false_and, and_false, Sat_ite, Sat_ifz, Sat_opt, Sat_none, cond_true, cond_false, and_true, true_and, implies_true, and_self, ne_eq, reduceCtorEq, not_false_eq_true, true_or, or_true, false_or, or_false, Nat.zero_ne_one, Nat.one_ne_zero, List.length_cons, List.length_nil, Nat.reduceAdd, Nat.reduceLeDiff, Int.cast_ofNat_Int, few_nil, few_pair, few_int, few_bool, few_str, few_nul, z44g1, uq44g1, z94g1, uq94g1, z74g1, uq74g1, h0]
theorem z77g1_4 {v : V77g1_4} (h0 : cur v.2.1) : g77g1_4 v = true := (st77g1_4 h0).d
theorem uq77g1_4_0 {v : V77g1_4} (h0 : cur v.2.1) : cur (c77g1_4 v).2 := (st77g1_4 h0).v
theorem ue77g1_0_0 {a0 : Ty.T y52} {a1 : Int} {a2 : Ty.T y106} (h0 : cur a2) : cur (e77g1_0 a0 a1 a2).2 := by
  unfold e77g1_0
  simp (maxDischargeDepth := 99) only [false_and, and_false, Sat_cond, Sat_some, false_and, and_false, Sat_ite, Sat_ifz, Sat_opt, Sat_none, cond_true, cond_false, and_true, true_and, implies_true, and_self, ne_eq, reduceCtorEq, not_false_eq_true, true_or, or_true, false_or, or_false, Nat.zero_ne_one, Nat.one_ne_zero, List.length_cons, List.length_nil, Nat.reduceAdd, Nat.reduceLeDiff, Int.cast_ofNat_Int, z77g1_0, uq77g1_0_0, z44g1, uq44g1, z74g1, uq74g1, h0]
theorem ue77g1_1_0 {a0 : Ty.T y52} {a1 : Int} {a2 : Ty.T y106} (h0 : cur a2) : cur (e77g1_1 a0 a1 a2).1 := by
  unfold e77g1_1
  simp (maxDischargeDepth := 99) only [false_and, and_false, Sat_cond, Sat_some, false_and, and_false, Sat_ite, Sat_ifz, Sat_opt, Sat_none, cond_true, cond_false, and_true, true_and, implies_true, and_self, ne_eq, reduceCtorEq, not_false_eq_true, true_or, or_true, false_or, or_false, Nat.zero_ne_one, Nat.one_ne_zero, List.length_cons, List.length_nil, Nat.reduceAdd, Nat.reduceLeDiff, Int.cast_ofNat_Int, z77g1_1, uq77g1_1_0, ue77g1_0_0, z74g1, uq74g1, z44g1, uq44g1, h0]
theorem ue77g1_2_0 {a0 : Ty.T y52} {a1 : Int} {a2 : Ty.T y106} (h0 : cur a2) : cur (e77g1_2 a0 a1 a2).2.1 := by
  unfold e77g1_2
  simp (maxDischargeDepth := 99) only [false_and, and_false, Sat_cond, Sat_some, false_and, and_false, Sat_ite, Sat_ifz, Sat_opt, Sat_none, cond_true, cond_false, and_true, true_and, implies_true, and_self, ne_eq, reduceCtorEq, not_false_eq_true, true_or, or_true, false_or, or_false, Nat.zero_ne_one, Nat.one_ne_zero, List.length_cons, List.length_nil, Nat.reduceAdd, Nat.reduceLeDiff, Int.cast_ofNat_Int, z98g1, uq98g1_0, uq98g1_1, uq98g1_1m8, z96g1, uq96g1_0, ue77g1_1_0, z97g1, uq97g1_0, h0]
theorem ue77g1_2_1 {a0 : Ty.T y52} {a1 : Int} {a2 : Ty.T y106} (h0 : cur a2) : Ty.few 2 (.sl 68 y63) (e77g1_2 a0 a1 a2).2.2 := by
  unfold e77g1_2
  simp (maxDischargeDepth := 99) only [false_and, and_false, Sat_cond, Sat_some, false_and, and_false, Sat_ite, Sat_ifz, Sat_opt, Sat_none, cond_true, cond_false, and_true, true_and, implies_true, and_self, ne_eq, reduceCtorEq, not_false_eq_true, true_or, or_true, false_or, or_false, Nat.zero_ne_one, Nat.one_ne_zero, List.length_cons, List.length_nil, Nat.reduceAdd, Nat.reduceLeDiff, Int.cast_ofNat_Int, z98g1, uq98g1_0, uq98g1_1, uq98g1_1m8, z96g1, uq96g1_0, ue77g1_1_0, z97g1, uq97g1_0, h0]
theorem ue77g1_2_2 {a0 : Ty.T y52} {a1 : Int} {a2 : Ty.T y106} (h0 : cur a2) : Ty.few 8 (.sl 68 y63) (e77g1_2 a0 a1 a2).2.2 := by
  unfold e77g1_2
  simp (maxDischargeDepth := 99) only [false_and, and_false, Sat_cond, Sat_some, false_and, and_false, Sat_ite, Sat_ifz, Sat_opt, Sat_none, cond_true, cond_false, and_true, true_and, implies_true, and_self, ne_eq, reduceCtorEq, not_false_eq_true, true_or, or_true, false_or, or_false, Nat.zero_ne_one, Nat.one_ne_zero, List.length_cons, List.length_nil, Nat.reduceAdd, Nat.reduceLeDiff, Int.cast_ofNat_Int, z98g1, uq98g1_0, uq98g1_1, uq98g1_1m8, z96g1, uq96g1_0, ue77g1_1_0, z97g1, uq97g1_0, h0]
theorem ue77g1_3_0 {a0 : Ty.T y52} {a1 : Int} {a2 : Ty.T y106} (h0 : cur a2) : cur (e77g1_3 a0 a1 a2).1 := by
  unfold e77g1_3
  simp (maxDischargeDepth := 99) only [false_and, and_false, Sat_cond, Sat_some, false_and, and_false, Sat_ite, Sat_ifz, Sat_opt, Sat_none, cond_true, cond_false, and_true, true_and, implies_true, and_self, ne_eq, reduceCtorEq, not_false_eq_true, true_or, or_true, false_or, or_false, Nat.zero_ne_one, Nat.one_ne_zero, List.length_cons, List.length_nil, Nat.reduceAdd, Nat.reduceLeDiff, Int.cast_ofNat_Int, z77g1_3, uq77g1_3_0, z94g1, uq94g1, ue77g1_2_0, ue77g1_2_1, ue77g1_2_2, ue77g1_1_0, z96g1, uq96g1_0, z97g1, uq97g1_0, h0]
theorem ue77g1_4_0 {a0 : Ty.T y52} {a1 : Int} {a2 : Ty.T y106} (h0 : cur a2) : cur (e77g1_4 a0 a1 a2).2 := by
  unfold e77g1_4
  simp (maxDischargeDepth := 99) only [false_and, and_false, Sat_cond, Sat_some, false_and, and_false, Sat_ite, Sat_ifz, Sat_opt, Sat_none, cond_true, cond_false, and_true, true_and, implies_true, and_self, ne_eq, reduceCtorEq, not_false_eq_true, true_or, or_true, false_or, or_false, Nat.zero_ne_one, Nat.one_ne_zero, List.length_cons, List.length_nil, Nat.reduceAdd, Nat.reduceLeDiff, Int.cast_ofNat_Int, z77g1_4, uq77g1_4_0, ue77g1_1_0, z96g1, uq96g1_0, z97g1, uq97g1_0, ue77g1_2_0, ue77g1_2_1, ue77g1_2_2, ue77g1_3_0, h0]
theorem st77g1 {a0 : Ty.T y52} {a1 : Int} {a2 : Ty.T y106} (h0 : cur a2) : Sat (t77g1 a0 a1 a2 some) (fun r => cur r.2.2.1 ∧ Ty.few 8 (.sl 68 y63) r.2.2.2) := by
  unfold t77g1
  simp (maxDischargeDepth := 99) only [false_and, and_false, Sat_cond, Sat_some, false_and, and_false, Sat_ite, Sat_ifz, Sat_opt, Sat_none, cond_true, cond_false, and_true, true_and, implies_true, and_self, ne_eq, reduceCtorEq, not_false_eq_true, true_or, or_true, false_or, or_false, Nat.zero_ne_one, Nat.one_ne_zero, List.length_cons, List.length_nil, Nat.reduceAdd, Nat.reduceLeDiff, Int.cast_ofNat_Int, few_nil, few_pair, few_int, few_bool, few_str, few_nul, z74g1, uq74g1, z44g1, uq44g1, z77g1_0, uq77g1_0_0, z77g1_1, uq77g1_1_0, ue77g1_0_0, z96g1, uq96g1_0, ue77g1_1_0, z97g1, uq97g1_0, z98g1, uq98g1_0, uq98g1_1, uq98g1_1m8, z94g1, uq94g1, ue77g1_2_0, ue77g1_2_1, ue77g1_2_2, z77g1_3, uq77g1_3_0, z77g1_4, uq77g1_4_0, ue77g1_3_0, ue77g1_4_0, h0]
theorem z77g1 {a0 : Ty.T y52} {a1 : Int} {a2 : Ty.T y106} (h0 : cur a2) : d77g1 a0 a1 a2 = true := (st77g1 h0).d
theorem uq77g1_0 {a0 : Ty.T y52} {a1 : Int} {a2 : Ty.T y106} (h0 : cur a2) : cur (v77g1 a0 a1 a2).2.2.1 := (st77g1 h0).v.1
theorem uq77g1_1 {a0 : Ty.T y52} {a1 : Int} {a2 : Ty.T y106} (h0 : cur a2) : Ty.few 8 (.sl 68 y63) (v77g1 a0 a1 a2).2.2.2 := (st77g1 h0).v.2
theorem fitE {l m : List (Int × Int × Int × Int × Int × Int × Bool)} (h : Ty.few 2 (.sl 68 y63) l) (hm : m.length ≤ 6) : (@List.length (Int × Int × Int × Int × Int × Int × Bool) (@HAppend.hAppend (List (Int × Int × Int × Int × Int × Int × Bool)) (List (Int × Int × Int × Int × Int × Int × Bool)) (List (Int × Int × Int × Int × Int × Int × Bool)) _ l m) * 56 ≤ 140737488351232) = True := eq_true (fit_app (t := y63) h hm (by decide))
theorem fapE {l m : List (Int × Int × Int × Int × Int × Int × Bool)} (h : Ty.few 2 (.sl 68 y63) l) (hm : m.length ≤ 6) : Ty.few 8 (.sl 68 y63) (@HAppend.hAppend (List (Int × Int × Int × Int × Int × Int × Bool)) (List (Int × Int × Int × Int × Int × Int × Bool)) (List (Int × Int × Int × Int × Int × Int × Bool)) _ l m) = True := eq_true (few_app (t := y63) h (by decide) (fun x _ => few_nosl _ rfl x) hm (by decide))
theorem fmoE {l : Ty.T (.sl 68 y63)} (h : Ty.few 2 (.sl 68 y63) l) : Ty.few 8 (.sl 68 y63) l = True := eq_true (few_mono (by decide) _ _ h)
theorem st93g1_0 {v : V93g1_0} (h0 : cur v.1) : Sat (t93g1_0 v some) (fun _ => True) := by
  unfold t93g1_0
  simp (maxDischargeDepth := 99) only [false_and, and_false, Sat_cond, Sat_some, false_and, and_false, Sat_ite, Sat_ifz, Sat_opt, Sat_none, cond_true, cond_false, and_true, true_and, implies_true, and_self, ne_eq, reduceCtorEq, not_false_eq_true, true_or, or_true, false_or, or_false, Nat.zero_ne_one, Nat.one_ne_zero, List.length_cons, List.length_nil, Nat.reduceAdd, Nat.reduceLeDiff, Int.cast_ofNat_Int, few_nil, few_pair, few_int, few_bool, few_str, few_nul, z74g1, uq74g1, z98g1, uq98g1_0, uq98g1_1, uq98g1_1m8, h0]
theorem z93g1_0 {v : V93g1_0} (h0 : cur v.1) : g93g1_0 v = true := (st93g1_0 h0).d
theorem st93g1_1 {v : V93g1_1} (h0 : cur v.1) (h1 : Ty.few 2 (.sl 68 y63) v.2.2.2.2.1) : Sat (t93g1_1 v some) (fun _ => True) := by
  unfold t93g1_1
  simp (maxDischargeDepth := 99) only [false_and, and_false, Sat_cond, Sat_some, false_and, and_false, Sat_ite, Sat_ifz, Sat_opt, Sat_none, cond_true, cond_false, and_true, true_and, implies_true, and_self, ne_eq, reduceCtorEq, not_false_eq_true, true_or, or_true, false_or, or_false, Nat.zero_ne_one, Nat.one_ne_zero, List.length_cons, List.length_nil, Nat.reduceAdd, Nat.reduceLeDiff, Int.cast_ofNat_Int, few_nil, few_pair, few_int, few_bool, few_str, few_nul, z104g1, uq104g1_0, fitE, fapE, fmoE, h0, h1]
theorem z93g1_1 {v : V93g1_1} (h0 : cur v.1) (h1 : Ty.few 2 (.sl 68 y63) v.2.2.2.2.1) : g93g1_1 v = true := (st93g1_1 h0 h1).d
theorem st93g1_2 {v : V93g1_1} (h0 : cur v.1) (h1 : Ty.few 2 (.sl 68 y63) v.2.2.2.2.1) : Sat (t93g1_2 v some) (fun _ => True) := by
  unfold t93g1_2
  simp (maxDischargeDepth := 99) only [false_and, and_false, Sat_cond, Sat_some, false_and, and_false, Sat_ite, Sat_ifz, Sat_opt, Sat_none, cond_true, cond_false, and_true, true_and, implies_true, and_self, ne_eq, reduceCtorEq, not_false_eq_true, true_or, or_true, false_or, or_false, Nat.zero_ne_one, Nat.one_ne_zero, List.length_cons, List.length_nil, Nat.reduceAdd, Nat.reduceLeDiff, Int.cast_ofNat_Int, few_nil, few_pair, few_int, few_bool, few_str, few_nul, z105g1, uq105g1_0, fitE, fapE, fmoE, h0, h1]
theorem z93g1_2 {v : V93g1_1} (h0 : cur v.1) (h1 : Ty.few 2 (.sl 68 y63) v.2.2.2.2.1) : g93g1_2 v = true := (st93g1_2 h0 h1).d
theorem st93g1_3 {v : V93g1_3} (h0 : cur v.2.2.1) (h1 : Ty.few 2 (.sl 68 y63) v.2.2.2.2.2.2.1) : Sat (t93g1_3 v some) (fun r => cur r.2.1 ∧ Ty.few 8 (.sl 68 y63) r.2.2) := by
  unfold t93g1_3
  simp (maxDischargeDepth := 99) only [false_and, and_false, Sat_cond, Sat_some, false_and, and_false, Sat_ite, Sat_ifz, Sat_opt, Sat_none, cond_true, cond_false, and_true, true_and, implies_true, and_self, ne_eq, reduceCtorEq, not_false_eq_true, true_or, or_true, false_or, or_false, Nat.zero_ne_one, Nat.one_ne_zero, List.length_cons, List.length_nil, Nat.reduceAdd, Nat.reduceLeDiff, Int.cast_ofNat_Int, few_nil, few_pair, few_int, few_bool, few_str, few_nul, z44g1, uq44g1, z103g1, uq103g1_0, z93g1_1, z104g1, uq104g1_0, fitE, fapE, fmoE, z93g1_2, z105g1, uq105g1_0, h0, h1]
theorem z93g1_3 {v : V93g1_3} (h0 : cur v.2.2.1) (h1 : Ty.few 2 (.sl 68 y63) v.2.2.2.2.2.2.1) : g93g1_3 v = true := (st93g1_3 h0 h1).d
theorem uq93g1_3_0 {v : V93g1_3} (h0 : cur v.2.2.1) (h1 : Ty.few 2 (.sl 68 y63) v.2.2.2.2.2.2.1) : cur (c93g1_3 v).2.1 := (st93g1_3 h0 h1).v.1
theorem uq93g1_3_1 {v : V93g1_3} (h0 : cur v.2.2.1) (h1 : Ty.few 2 (.sl 68 y63) v.2.2.2.2.2.2.1) : Ty.few 8 (.sl 68 y63) (c93g1_3 v).2.2 := (st93g1_3 h0 h1).v.2
theorem st93g1 {a0 : Ty.T y52} {a1 : Ty.T y106} (h0 : cur a1) : Sat (t93g1 a0 a1 some) (fun r => cur r.2.1 ∧ Ty.few 8 (.sl 68 y63) r.2.2) := by
  unfold t93g1
  simp (maxDischargeDepth := 99) only [false_and, and_false, Sat_cond, Sat_some, false_and, and_false, Sat_ite, Sat_ifz, Sat_opt, Sat_none, cond_true, cond_false, and_true, true_and, implies_true, and_self, ne_eq, reduceCtorEq, not_false_eq_true, true_or, or_true, false_or, or_false, Nat.zero_ne_one, Nat.one_ne_zero, List.length_cons, List.length_nil, Nat.reduceAdd, Nat.reduceLeDiff, Int.cast_ofNat_Int, few_nil, few_pair, few_int, few_bool, few_str, few_nul, z93g1_0, z74g1, uq74g1, z98g1, uq98g1_0, uq98g1_1, uq98g1_1m8, z93g1_3, uq93g1_3_0, uq93g1_3_1, h0]
theorem z93g1 {a0 : Ty.T y52} {a1 : Ty.T y106} (h0 : cur a1) : d93g1 a0 a1 = true := (st93g1 h0).d
theorem uq93g1_0 {a0 : Ty.T y52} {a1 : Ty.T y106} (h0 : cur a1) : cur (v93g1 a0 a1).2.1 := (st93g1 h0).v.1
theorem uq93g1_1 {a0 : Ty.T y52} {a1 : Ty.T y106} (h0 : cur a1) : Ty.few 8 (.sl 68 y63) (v93g1 a0 a1).2.2 := (st93g1 h0).v.2
theorem st76g1_0 {v : V76g1_0} (h0 : cur v.1) : Sat (t76g1_0 v some) (fun _ => True) := by
  unfold t76g1_0
  simp (maxDischargeDepth := 99) only [false_and, and_false, Sat_cond, Sat_some, false_and, and_false, Sat_ite, Sat_ifz, Sat_opt, Sat_none, cond_true, cond_false, and_true, true_and, implies_true, and_self, ne_eq, reduceCtorEq, not_false_eq_true, true_or, or_true, false_or, or_false, Nat.zero_ne_one, Nat.one_ne_zero, List.length_cons, List.length_nil, Nat.reduceAdd, Nat.reduceLeDiff, Int.cast_ofNat_Int, few_nil, few_pair, few_int, few_bool, few_str, few_nul, z74g1, uq74g1, z77g1, uq77g1_0, uq77g1_1, h0]
theorem z76g1_0 {v : V76g1_0} (h0 : cur v.1) : g76g1_0 v = true := (st76g1_0 h0).d
theorem st76g1_1 {v : V76g1_1} (h0 : cur v.2.2.1) (h1 : Ty.few 8 (.sl 68 y63) v.2.2.2.2.2.2.2.1) : Sat (t76g1_1 v some) (fun r => cur r.2.2.1 ∧ Ty.few 8 (.sl 68 y63) r.2.2.2) := by
  unfold t76g1_1
  simp (maxDischargeDepth := 99) only [false_and, and_false, Sat_cond, Sat_some, false_and, and_false, Sat_ite, Sat_ifz, Sat_opt, Sat_none, cond_true, cond_false, and_true, true_and, implies_true, and_self, ne_eq, reduceCtorEq, not_false_eq_true, true_or, or_true, false_or, or_false, Nat.zero_ne_one, Nat.one_ne_zero, List.length_cons, List.length_nil, Nat.reduceAdd, Nat.reduceLeDiff, Int.cast_ofNat_Int, few_nil, few_pair, few_int, few_bool, few_str, few_nul, z44g1, uq44g1, z91g1, uq91g1_0, z92g1, uq92g1_0, z93g1, uq93g1_0, uq93g1_1, h0, h1]
theorem z76g1_1 {v : V76g1_1} (h0 : cur v.2.2.1) (h1 : Ty.few 8 (.sl 68 y63) v.2.2.2.2.2.2.2.1) : g76g1_1 v = true := (st76g1_1 h0 h1).d
theorem uq76g1_1_0 {v : V76g1_1} (h0 : cur v.2.2.1) (h1 : Ty.few 8 (.sl 68 y63) v.2.2.2.2.2.2.2.1) : cur (c76g1_1 v).2.2.1 := (st76g1_1 h0 h1).v.1
theorem uq76g1_1_1 {v : V76g1_1} (h0 : cur v.2.2.1) (h1 : Ty.few 8 (.sl 68 y63) v.2.2.2.2.2.2.2.1) : Ty.few 8 (.sl 68 y63) (c76g1_1 v).2.2.2 := (st76g1_1 h0 h1).v.2
theorem ue76g1_0_0 {a0 : Ty.T y52} {a1 : Ty.T y106} (h0 : cur a1) : cur (e76g1_0 a0 a1).2.2.1 := by
  unfold e76g1_0
  simp (maxDischargeDepth := 99) only [false_and, and_false, Sat_cond, Sat_some, false_and, and_false, Sat_ite, Sat_ifz, Sat_opt, Sat_none, cond_true, cond_false, and_true, true_and, implies_true, and_self, ne_eq, reduceCtorEq, not_false_eq_true, true_or, or_true, false_or, or_false, Nat.zero_ne_one, Nat.one_ne_zero, List.length_cons, List.length_nil, Nat.reduceAdd, Nat.reduceLeDiff, Int.cast_ofNat_Int, z77g1, uq77g1_0, uq77g1_1, z74g1, uq74g1, h0]
theorem ue76g1_0_1 {a0 : Ty.T y52} {a1 : Ty.T y106} (h0 : cur a1) : Ty.few 8 (.sl 68 y63) (e76g1_0 a0 a1).2.2.2 := by
  unfold e76g1_0
  simp (maxDischargeDepth := 99) only [false_and, and_false, Sat_cond, Sat_some, false_and, and_false, Sat_ite, Sat_ifz, Sat_opt, Sat_none, cond_true, cond_false, and_true, true_and, implies_true, and_self, ne_eq, reduceCtorEq, not_false_eq_true, true_or, or_true, false_or, or_false, Nat.zero_ne_one, Nat.one_ne_zero, List.length_cons, List.length_nil, Nat.reduceAdd, Nat.reduceLeDiff, Int.cast_ofNat_Int, z77g1, uq77g1_0, uq77g1_1, z74g1, uq74g1, h0]
theorem ue76g1_1_0 {a0 : Ty.T y52} {a1 : Ty.T y106} (h0 : cur a1) : cur (e76g1_1 a0 a1).2.2.1 := by
  unfold e76g1_1
  simp (maxDischargeDepth := 99) only [false_and, and_false, Sat_cond, Sat_some, false_and, and_false, Sat_ite, Sat_ifz, Sat_opt, Sat_none, cond_true, cond_false, and_true, true_and, implies_true, and_self, ne_eq, reduceCtorEq, not_false_eq_true, true_or, or_true, false_or, or_false, Nat.zero_ne_one, Nat.one_ne_zero, List.length_cons, List.length_nil, Nat.reduceAdd, Nat.reduceLeDiff, Int.cast_ofNat_Int, z76g1_1, uq76g1_1_0, uq76g1_1_1, z74g1, uq74g1, ue76g1_0_0, ue76g1_0_1, h0]
theorem ue76g1_1_1 {a0 : Ty.T y52} {a1 : Ty.T y106} (h0 : cur a1) : Ty.few 8 (.sl 68 y63) (e76g1_1 a0 a1).2.2.2 := by
  unfold e76g1_1
  simp (maxDischargeDepth := 99) only [false_and, and_false, Sat_cond, Sat_some, false_and, and_false, Sat_ite, Sat_ifz, Sat_opt, Sat_none, cond_true, cond_false, and_true, true_and, implies_true, and_self, ne_eq, reduceCtorEq, not_false_eq_true, true_or, or_true, false_or, or_false, Nat.zero_ne_one, Nat.one_ne_zero, List.length_cons, List.length_nil, Nat.reduceAdd, Nat.reduceLeDiff, Int.cast_ofNat_Int, z76g1_1, uq76g1_1_0, uq76g1_1_1, z74g1, uq74g1, ue76g1_0_0, ue76g1_0_1, h0]
theorem st76g1 {a0 : Ty.T y52} {a1 : Ty.T y106} (h0 : cur a1) : Sat (t76g1 a0 a1 some) (fun r => cur r.2.2.1 ∧ Ty.few 8 (.sl 68 y63) r.2.2.2) := by
  unfold t76g1
  simp (maxDischargeDepth := 99) only [false_and, and_false, Sat_cond, Sat_some, false_and, and_false, Sat_ite, Sat_ifz, Sat_opt, Sat_none, cond_true, cond_false, and_true, true_and, implies_true, and_self, ne_eq, reduceCtorEq, not_false_eq_true, true_or, or_true, false_or, or_false, Nat.zero_ne_one, Nat.one_ne_zero, List.length_cons, List.length_nil, Nat.reduceAdd, Nat.reduceLeDiff, Int.cast_ofNat_Int, few_nil, few_pair, few_int, few_bool, few_str, few_nul, z76g1_0, z74g1, uq74g1, ue76g1_0_0, ue76g1_0_1, z76g1_1, uq76g1_1_0, uq76g1_1_1, ue76g1_1_0, ue76g1_1_1, h0]
theorem z76g1 {a0 : Ty.T y52} {a1 : Ty.T y106} (h0 : cur a1) : d76g1 a0 a1 = true := (st76g1 h0).d
theorem uq76g1_0 {a0 : Ty.T y52} {a1 : Ty.T y106} (h0 : cur a1) : cur (v76g1 a0 a1).2.2.1 := (st76g1 h0).v.1
theorem uq76g1_1 {a0 : Ty.T y52} {a1 : Ty.T y106} (h0 : cur a1) : Ty.few 8 (.sl 68 y63) (v76g1 a0 a1).2.2.2 := (st76g1 h0).v.2
theorem ue75g1_0_0 {v : V75g1_0} (h0 : cur v.2.2.2.1) : cur (e75g1_0 v).2.2.1 := by
  unfold e75g1_0
  simp (maxDischargeDepth := 99) only [false_and, and_false, Sat_cond, Sat_some, false_and, and_false, Sat_ite, Sat_ifz, Sat_opt, Sat_none, cond_true, cond_false, and_true, true_and, implies_true, and_self, ne_eq, reduceCtorEq, not_false_eq_true, true_or, or_true, false_or, or_false, Nat.zero_ne_one, Nat.one_ne_zero, List.length_cons, List.length_nil, Nat.reduceAdd, Nat.reduceLeDiff, Int.cast_ofNat_Int, z77g1, uq77g1_0, uq77g1_1, z74g1, uq74g1, h0]
theorem ue75g1_0_1 {v : V75g1_0} (h0 : cur v.2.2.2.1) : Ty.few 8 (.sl 68 y63) (e75g1_0 v).2.2.2 := by
  unfold e75g1_0
  simp (maxDischargeDepth := 99) only [false_and, and_false, Sat_cond, Sat_some, false_and, and_false, Sat_ite, Sat_ifz, Sat_opt, Sat_none, cond_true, cond_false, and_true, true_and, implies_true, and_self, ne_eq, reduceCtorEq, not_false_eq_true, true_or, or_true, false_or, or_false, Nat.zero_ne_one, Nat.one_ne_zero, List.length_cons, List.length_nil, Nat.reduceAdd, Nat.reduceLeDiff, Int.cast_ofNat_Int, z77g1, uq77g1_0, uq77g1_1, z74g1, uq74g1, h0]
theorem lp75g1 {r : List (Ty.T y115)} {n : Int} {c : Ty.T y106} {s : Ty.T y52} {l : List (Ty.T y115)} (h0 : 0 ≤ n) (hn : n ≤ 4) (hl : l = []) (h : cur c) : k75g1_0 r 0 n c s l 0 = true ∧ cur (w75g1_0 r 0 n c s l).2.2.2.1 ∧ Ty.few 8 (.sl 116 y115) (w75g1_0 r 0 n c s l).2.2.2.2.2.1 := by
  have := run_sat (s := s75g1_0) (Q := fun v => cur v.2.2.2.1 ∧ Ty.few 8 (.sl 116 y115) v.2.2.2.2.2.1) (fun k v => ∃ (i id : Int) (c : Ty.T y106) (l : List (Ty.T y115)), v = (r, id, i, c, s, l, ()) ∧ cur c ∧ i = k ∧ (l.length : Int) + i ≤ 4 ∧ ∀ x, x ∈ l → Ty.few 8 y115 x) (fun k v hv => by
    obtain ⟨i, id, c, l, rfl, h1, h3, h4, h5⟩ := hv
    have e : 0 ≤ i → IntKind.wrap .i64 (i - 1) = i - 1 := fun _ => wrap_in (by omega) (by omega)
    have hz : ∀ x : Int × Int × Int × Int × (Int × Int × Int × Int × Int × Int × Int) × (Int × Int) × (Int × Int × Int × Int × Int × Bool × List (Int × Int × Int × Int × Int × Int × Bool)) × Int × Int, (@List.length (Int × Int × Int × Int × (Int × Int × Int × Int × Int × Int × Int) × (Int × Int) × (Int × Int × Int × Int × Int × Bool × List (Int × Int × Int × Int × Int × Int × Bool)) × Int × Int) (l ++ [x]) * 192 ≤ 140737488351232) = True := fun x => eq_true (by simp only [List.length_append, List.length_cons, List.length_nil]; omega)
    unfold s75g1_0 t75g1_0
    dsimp only
    simp (maxDischargeDepth := 99) only [false_and, and_false, Sat_cond, Sat_some, false_and, and_false, Sat_ite, Sat_ifz, Sat_opt, Sat_none, cond_true, cond_false, and_true, true_and, implies_true, and_self, ne_eq, reduceCtorEq, not_false_eq_true, true_or, or_true, false_or, or_false, Nat.zero_ne_one, Nat.one_ne_zero, List.length_cons, List.length_nil, Nat.reduceAdd, Nat.reduceLeDiff, Int.cast_ofNat_Int, few_nil, few_pair, few_int, few_bool, few_str, few_nul, z74g1, uq74g1, z77g1, uq77g1_0, uq77g1_1, ue75g1_0_0, ue75g1_0_1, h1, hz]
    refine ⟨fun hl => ?_, fun _ => ⟨by omega, h5⟩⟩
    have hl : i > 0 := of_decide_eq_true hl
    refine ⟨k - 1, by omega, i - 1, _, _, _, by rw [e (by omega)] <;> rfl, ?_, by omega, by simp only [List.length_append, List.length_cons, List.length_nil]; omega, fun x hx => ?_⟩
    · simp (maxDischargeDepth := 99) only [false_and, and_false, Sat_cond, Sat_some, false_and, and_false, Sat_ite, Sat_ifz, Sat_opt, Sat_none, cond_true, cond_false, and_true, true_and, implies_true, and_self, ne_eq, reduceCtorEq, not_false_eq_true, true_or, or_true, false_or, or_false, Nat.zero_ne_one, Nat.one_ne_zero, List.length_cons, List.length_nil, Nat.reduceAdd, Nat.reduceLeDiff, Int.cast_ofNat_Int, few_nil, few_pair, few_int, few_bool, few_str, few_nul, z74g1, uq74g1, z77g1, uq77g1_0, uq77g1_1, ue75g1_0_0, ue75g1_0_1, h1]
    · rcases List.mem_append.1 hx with hx | hx
      · have h6 := h5 x hx
        simp (maxDischargeDepth := 99) only [false_and, and_false, Sat_cond, Sat_some, false_and, and_false, Sat_ite, Sat_ifz, Sat_opt, Sat_none, cond_true, cond_false, and_true, true_and, implies_true, and_self, ne_eq, reduceCtorEq, not_false_eq_true, true_or, or_true, false_or, or_false, Nat.zero_ne_one, Nat.one_ne_zero, List.length_cons, List.length_nil, Nat.reduceAdd, Nat.reduceLeDiff, Int.cast_ofNat_Int, few_nil, few_pair, few_int, few_bool, few_str, few_nul, z74g1, uq74g1, z77g1, uq77g1_0, uq77g1_1, ue75g1_0_0, ue75g1_0_1] at h6 ⊢
        exact h6
      · cases List.mem_singleton.1 hx
        simp (maxDischargeDepth := 99) only [false_and, and_false, Sat_cond, Sat_some, false_and, and_false, Sat_ite, Sat_ifz, Sat_opt, Sat_none, cond_true, cond_false, and_true, true_and, implies_true, and_self, ne_eq, reduceCtorEq, not_false_eq_true, true_or, or_true, false_or, or_false, Nat.zero_ne_one, Nat.one_ne_zero, List.length_cons, List.length_nil, Nat.reduceAdd, Nat.reduceLeDiff, Int.cast_ofNat_Int, few_nil, few_pair, few_int, few_bool, few_str, few_nul, z74g1, uq74g1, z77g1, uq77g1_0, uq77g1_1, ue75g1_0_0, ue75g1_0_1, h1]) n.toNat (r, 0, n, c, s, l, ()) (n75g1_0 (r, 0, n, c, s, l, ())) ⟨n, 0, c, l, rfl, h, by omega, by subst hl; show (0 : Int) + n ≤ 4; omega, by subst hl; exact fun x hx => absurd hx List.not_mem_nil⟩ (by simp only [n75g1_0]; omega)
  exact ⟨this.1.1, this.2⟩
theorem vbA {c : Ty.T y106} (h : cur c) : 0 ≤ (v74g1 5 c).1 := ((below 5 c h).2.1 (by omega)).1
theorem vbB {c : Ty.T y106} (h : cur c) : (v74g1 5 c).1 ≤ 4 := by
  have := (below 5 c h).2.1 (by omega)
  omega
theorem zl75g1 {r : List (Ty.T y115)} {n : Int} {c : Ty.T y106} {s : Ty.T y52} {l : List (Ty.T y115)} (h0 : 0 ≤ n) (hn : n ≤ 4) (hl : l = []) (h : cur c) : k75g1_0 r 0 n c s l 0 = true := (lp75g1 h0 hn hl h).1
theorem ul75g1 {r : List (Ty.T y115)} {n : Int} {c : Ty.T y106} {s : Ty.T y52} {l : List (Ty.T y115)} (h0 : 0 ≤ n) (hn : n ≤ 4) (hl : l = []) (h : cur c) : cur (w75g1_0 r 0 n c s l).2.2.2.1 := (lp75g1 h0 hn hl h).2.1
theorem um75g1 {r : List (Ty.T y115)} {n : Int} {c : Ty.T y106} {s : Ty.T y52} {l : List (Ty.T y115)} (h0 : 0 ≤ n) (hn : n ≤ 4) (hl : l = []) (h : cur c) : Ty.few 8 (.sl 116 y115) (w75g1_0 r 0 n c s l).2.2.2.2.2.1 := (lp75g1 h0 hn hl h).2.2
theorem st75g1 {a0 : Ty.T y52} {a1 : Ty.T y106} (h0 : cur a1) : Sat (t75g1 a0 a1 some) (fun r => cur r.1 ∧ Ty.few 8 (.sl 116 y115) r.2) := by
  unfold t75g1
  simp (maxDischargeDepth := 99) only [false_and, and_false, Sat_cond, Sat_some, false_and, and_false, Sat_ite, Sat_ifz, Sat_opt, Sat_none, cond_true, cond_false, and_true, true_and, implies_true, and_self, ne_eq, reduceCtorEq, not_false_eq_true, true_or, or_true, false_or, or_false, Nat.zero_ne_one, Nat.one_ne_zero, List.length_cons, List.length_nil, Nat.reduceAdd, Nat.reduceLeDiff, Int.cast_ofNat_Int, few_nil, few_pair, few_int, few_bool, few_str, few_nul, z74g1, uq74g1, zl75g1, ul75g1, um75g1, vbA, vbB, h0]
theorem z75g1 {a0 : Ty.T y52} {a1 : Ty.T y106} (h0 : cur a1) : d75g1 a0 a1 = true := (st75g1 h0).d
theorem uq75g1_0 {a0 : Ty.T y52} {a1 : Ty.T y106} (h0 : cur a1) : cur (v75g1 a0 a1).1 := (st75g1 h0).v.1
theorem uq75g1_1 {a0 : Ty.T y52} {a1 : Ty.T y106} (h0 : cur a1) : Ty.few 8 (.sl 116 y115) (v75g1 a0 a1).2 := (st75g1 h0).v.2
theorem fitT {l m : List (Int × Int × Int × Int × (Int × Int × Int × Int × Int × Int × Int) × (Int × Int) × (Int × Int × Int × Int × Int × Bool × List (Int × Int × Int × Int × Int × Int × Bool)) × Int × Int)} (h : Ty.few 8 (.sl 116 y115) l) (hm : m.length ≤ 4) : (@List.length (Int × Int × Int × Int × (Int × Int × Int × Int × Int × Int × Int) × (Int × Int) × (Int × Int × Int × Int × Int × Bool × List (Int × Int × Int × Int × Int × Int × Bool)) × Int × Int) (@HAppend.hAppend (List (Int × Int × Int × Int × (Int × Int × Int × Int × Int × Int × Int) × (Int × Int) × (Int × Int × Int × Int × Int × Bool × List (Int × Int × Int × Int × Int × Int × Bool)) × Int × Int)) (List (Int × Int × Int × Int × (Int × Int × Int × Int × Int × Int × Int) × (Int × Int) × (Int × Int × Int × Int × Int × Bool × List (Int × Int × Int × Int × Int × Int × Bool)) × Int × Int)) (List (Int × Int × Int × Int × (Int × Int × Int × Int × Int × Int × Int) × (Int × Int) × (Int × Int × Int × Int × Int × Bool × List (Int × Int × Int × Int × Int × Int × Bool)) × Int × Int)) _ l m) * 192 ≤ 140737488351232) = True := eq_true (fit_app (t := y115) h hm (by decide))
theorem fapT1 {l : List (Int × Int × Int × Int × (Int × Int × Int × Int × Int × Int × Int) × (Int × Int) × (Int × Int × Int × Int × Int × Bool × List (Int × Int × Int × Int × Int × Int × Bool)) × Int × Int)} {x0 : Int × Int × Int × Int × (Int × Int × Int × Int × Int × Int × Int) × (Int × Int) × (Int × Int × Int × Int × Int × Bool × List (Int × Int × Int × Int × Int × Int × Bool)) × Int × Int} (h : Ty.few 8 (.sl 116 y115) l) (hx0 : Ty.few 12 y115 x0) : Ty.few 12 (.sl 116 y115) (@HAppend.hAppend (List (Int × Int × Int × Int × (Int × Int × Int × Int × Int × Int × Int) × (Int × Int) × (Int × Int × Int × Int × Int × Bool × List (Int × Int × Int × Int × Int × Int × Bool)) × Int × Int)) (List (Int × Int × Int × Int × (Int × Int × Int × Int × Int × Int × Int) × (Int × Int) × (Int × Int × Int × Int × Int × Bool × List (Int × Int × Int × Int × Int × Int × Bool)) × Int × Int)) (List (Int × Int × Int × Int × (Int × Int × Int × Int × Int × Int × Int) × (Int × Int) × (Int × Int × Int × Int × Int × Bool × List (Int × Int × Int × Int × Int × Int × Bool)) × Int × Int)) _ l (@List.cons (Int × Int × Int × Int × (Int × Int × Int × Int × Int × Int × Int) × (Int × Int) × (Int × Int × Int × Int × Int × Bool × List (Int × Int × Int × Int × Int × Int × Bool)) × Int × Int) x0 (@List.nil (Int × Int × Int × Int × (Int × Int × Int × Int × Int × Int × Int) × (Int × Int) × (Int × Int × Int × Int × Int × Bool × List (Int × Int × Int × Int × Int × Int × Bool)) × Int × Int)))) = True := eq_true (few_app (C := 1) (t := y115) h (by decide) (fun y hy => by simp only [List.mem_cons, List.not_mem_nil, or_false] at hy; rcases hy with rfl <;> assumption) (Nat.le_refl _) (by decide))
theorem fapT3 {l : List (Int × Int × Int × Int × (Int × Int × Int × Int × Int × Int × Int) × (Int × Int) × (Int × Int × Int × Int × Int × Bool × List (Int × Int × Int × Int × Int × Int × Bool)) × Int × Int)} {x0 : Int × Int × Int × Int × (Int × Int × Int × Int × Int × Int × Int) × (Int × Int) × (Int × Int × Int × Int × Int × Bool × List (Int × Int × Int × Int × Int × Int × Bool)) × Int × Int} {x1 : Int × Int × Int × Int × (Int × Int × Int × Int × Int × Int × Int) × (Int × Int) × (Int × Int × Int × Int × Int × Bool × List (Int × Int × Int × Int × Int × Int × Bool)) × Int × Int} {x2 : Int × Int × Int × Int × (Int × Int × Int × Int × Int × Int × Int) × (Int × Int) × (Int × Int × Int × Int × Int × Bool × List (Int × Int × Int × Int × Int × Int × Bool)) × Int × Int} (h : Ty.few 8 (.sl 116 y115) l) (hx0 : Ty.few 12 y115 x0) (hx1 : Ty.few 12 y115 x1) (hx2 : Ty.few 12 y115 x2) : Ty.few 12 (.sl 116 y115) (@HAppend.hAppend (List (Int × Int × Int × Int × (Int × Int × Int × Int × Int × Int × Int) × (Int × Int) × (Int × Int × Int × Int × Int × Bool × List (Int × Int × Int × Int × Int × Int × Bool)) × Int × Int)) (List (Int × Int × Int × Int × (Int × Int × Int × Int × Int × Int × Int) × (Int × Int) × (Int × Int × Int × Int × Int × Bool × List (Int × Int × Int × Int × Int × Int × Bool)) × Int × Int)) (List (Int × Int × Int × Int × (Int × Int × Int × Int × Int × Int × Int) × (Int × Int) × (Int × Int × Int × Int × Int × Bool × List (Int × Int × Int × Int × Int × Int × Bool)) × Int × Int)) _ l (@List.cons (Int × Int × Int × Int × (Int × Int × Int × Int × Int × Int × Int) × (Int × Int) × (Int × Int × Int × Int × Int × Bool × List (Int × Int × Int × Int × Int × Int × Bool)) × Int × Int) x0 (@List.cons (Int × Int × Int × Int × (Int × Int × Int × Int × Int × Int × Int) × (Int × Int) × (Int × Int × Int × Int × Int × Bool × List (Int × Int × Int × Int × Int × Int × Bool)) × Int × Int) x1 (@List.cons (Int × Int × Int × Int × (Int × Int × Int × Int × Int × Int × Int) × (Int × Int) × (Int × Int × Int × Int × Int × Bool × List (Int × Int × Int × Int × Int × Int × Bool)) × Int × Int) x2 (@List.nil (Int × Int × Int × Int × (Int × Int × Int × Int × Int × Int × Int) × (Int × Int) × (Int × Int × Int × Int × Int × Bool × List (Int × Int × Int × Int × Int × Int × Bool)) × Int × Int)))))) = True := eq_true (few_app (C := 3) (t := y115) h (by decide) (fun y hy => by simp only [List.mem_cons, List.not_mem_nil, or_false] at hy; rcases hy with rfl | rfl | rfl <;> assumption) (Nat.le_refl _) (by decide))
theorem fmoT {l : Ty.T (.sl 116 y115)} (h : Ty.few 8 (.sl 116 y115) l) : Ty.few 12 (.sl 116 y115) l = True := eq_true (few_mono (by decide) _ _ h)
theorem fseT {l : List (Int × Int × Int × Int × (Int × Int × Int × Int × Int × Int × Int) × (Int × Int) × (Int × Int × Int × Int × Int × Bool × List (Int × Int × Int × Int × Int × Int × Bool)) × Int × Int)} {x : Int × Int × Int × Int × (Int × Int × Int × Int × Int × Int × Int) × (Int × Int) × (Int × Int × Int × Int × Int × Bool × List (Int × Int × Int × Int × Int × Int × Bool)) × Int × Int} (h : Ty.few 8 (.sl 116 y115) l) (hx : Ty.few 12 y115 x) : Ty.few 12 (.sl 116 y115) (@List.set (Int × Int × Int × Int × (Int × Int × Int × Int × Int × Int × Int) × (Int × Int) × (Int × Int × Int × Int × Int × Bool × List (Int × Int × Int × Int × Int × Int × Bool)) × Int × Int) l 0 x) = True := eq_true (few_set (t := y115) h (by decide) hx)
theorem fmoF {l : Ty.T (.sl 68 y63)} (h : Ty.few 8 (.sl 68 y63) l) : Ty.few 12 (.sl 68 y63) l = True := eq_true (few_mono (by decide) _ _ h)
theorem ue46g1_1_0 {v : V46g1_0} (h0 : cur v.2.1) : cur (e46g1_1 v).2.2.1 := by
  unfold e46g1_1
  simp (maxDischargeDepth := 99) only [false_and, and_false, Sat_cond, Sat_some, false_and, and_false, Sat_ite, Sat_ifz, Sat_opt, Sat_none, cond_true, cond_false, and_true, true_and, implies_true, and_self, ne_eq, reduceCtorEq, not_false_eq_true, true_or, or_true, false_or, or_false, Nat.zero_ne_one, Nat.one_ne_zero, List.length_cons, List.length_nil, Nat.reduceAdd, Nat.reduceLeDiff, Int.cast_ofNat_Int, z77g1, uq77g1_0, uq77g1_1, fitT, fapT1, fapT3, fmoT, fseT, fmoF, h0]
theorem ue46g1_1_1 {v : V46g1_0} (h0 : cur v.2.1) : Ty.few 8 (.sl 68 y63) (e46g1_1 v).2.2.2 := by
  unfold e46g1_1
  simp (maxDischargeDepth := 99) only [false_and, and_false, Sat_cond, Sat_some, false_and, and_false, Sat_ite, Sat_ifz, Sat_opt, Sat_none, cond_true, cond_false, and_true, true_and, implies_true, and_self, ne_eq, reduceCtorEq, not_false_eq_true, true_or, or_true, false_or, or_false, Nat.zero_ne_one, Nat.one_ne_zero, List.length_cons, List.length_nil, Nat.reduceAdd, Nat.reduceLeDiff, Int.cast_ofNat_Int, z77g1, uq77g1_0, uq77g1_1, fitT, fapT1, fapT3, fmoT, fseT, fmoF, h0]
theorem st46g1_0 {v : V46g1_0} (h0 : Ty.few 8 (.sl 116 y115) v.1) (h1 : cur v.2.1) (h2 : Ty.few 8 (.sl 116 y115) v.2.2.2.1) : Sat (t46g1_0 v some) (fun _ => True) := by
  unfold t46g1_0
  simp (maxDischargeDepth := 99) only [false_and, and_false, Sat_cond, Sat_some, false_and, and_false, Sat_ite, Sat_ifz, Sat_opt, Sat_none, cond_true, cond_false, and_true, true_and, implies_true, and_self, ne_eq, reduceCtorEq, not_false_eq_true, true_or, or_true, false_or, or_false, Nat.zero_ne_one, Nat.one_ne_zero, List.length_cons, List.length_nil, Nat.reduceAdd, Nat.reduceLeDiff, Int.cast_ofNat_Int, few_nil, few_pair, few_int, few_bool, few_str, few_nul, z77g1, uq77g1_0, uq77g1_1, fitT, fapT1, fapT3, fmoT, fseT, fmoF, ue46g1_1_0, ue46g1_1_1, h0, h1, h2]
theorem z46g1_0 {v : V46g1_0} (h0 : Ty.few 8 (.sl 116 y115) v.1) (h1 : cur v.2.1) (h2 : Ty.few 8 (.sl 116 y115) v.2.2.2.1) : g46g1_0 v = true := (st46g1_0 h0 h1 h2).d
theorem ue46g1_2_0 {v : V46g1_1} (h0 : cur v.2.2.2.1) : cur (e46g1_2 v).2.2.1 := by
  unfold e46g1_2
  simp (maxDischargeDepth := 99) only [false_and, and_false, Sat_cond, Sat_some, false_and, and_false, Sat_ite, Sat_ifz, Sat_opt, Sat_none, cond_true, cond_false, and_true, true_and, implies_true, and_self, ne_eq, reduceCtorEq, not_false_eq_true, true_or, or_true, false_or, or_false, Nat.zero_ne_one, Nat.one_ne_zero, List.length_cons, List.length_nil, Nat.reduceAdd, Nat.reduceLeDiff, Int.cast_ofNat_Int, z77g1, uq77g1_0, uq77g1_1, fitT, fapT1, fapT3, fmoT, fseT, fmoF, h0]
theorem ue46g1_2_1 {v : V46g1_1} (h0 : cur v.2.2.2.1) : Ty.few 8 (.sl 68 y63) (e46g1_2 v).2.2.2 := by
  unfold e46g1_2
  simp (maxDischargeDepth := 99) only [false_and, and_false, Sat_cond, Sat_some, false_and, and_false, Sat_ite, Sat_ifz, Sat_opt, Sat_none, cond_true, cond_false, and_true, true_and, implies_true, and_self, ne_eq, reduceCtorEq, not_false_eq_true, true_or, or_true, false_or, or_false, Nat.zero_ne_one, Nat.one_ne_zero, List.length_cons, List.length_nil, Nat.reduceAdd, Nat.reduceLeDiff, Int.cast_ofNat_Int, z77g1, uq77g1_0, uq77g1_1, fitT, fapT1, fapT3, fmoT, fseT, fmoF, h0]
theorem st46g1_1 {v : V46g1_1} (h0 : Ty.few 8 (.sl 116 y115) v.1) (h1 : cur v.2.2.2.1) (h2 : Ty.few 8 (.sl 116 y115) v.2.2.2.2.2.1) : Sat (t46g1_1 v some) (fun r => cur r.1 ∧ Ty.few 12 (.sl 116 y115) r.2) := by
  unfold t46g1_1
  simp (maxDischargeDepth := 99) only [false_and, and_false, Sat_cond, Sat_some, false_and, and_false, Sat_ite, Sat_ifz, Sat_opt, Sat_none, cond_true, cond_false, and_true, true_and, implies_true, and_self, ne_eq, reduceCtorEq, not_false_eq_true, true_or, or_true, false_or, or_false, Nat.zero_ne_one, Nat.one_ne_zero, List.length_cons, List.length_nil, Nat.reduceAdd, Nat.reduceLeDiff, Int.cast_ofNat_Int, few_nil, few_pair, few_int, few_bool, few_str, few_nul, z76g1, uq76g1_0, uq76g1_1, fitT, fapT1, fapT3, fmoT, fseT, fmoF, z46g1_0, z77g1, uq77g1_0, uq77g1_1, ue46g1_2_0, ue46g1_2_1, h0, h1, h2]
  intro _ _ _ h
  have h := of_decide_eq_true h
  exact ⟨h, _, List.getElem?_eq_getElem (by omega)⟩
theorem z46g1_1 {v : V46g1_1} (h0 : Ty.few 8 (.sl 116 y115) v.1) (h1 : cur v.2.2.2.1) (h2 : Ty.few 8 (.sl 116 y115) v.2.2.2.2.2.1) : g46g1_1 v = true := (st46g1_1 h0 h1 h2).d
theorem uq46g1_1_0 {v : V46g1_1} (h0 : Ty.few 8 (.sl 116 y115) v.1) (h1 : cur v.2.2.2.1) (h2 : Ty.few 8 (.sl 116 y115) v.2.2.2.2.2.1) : cur (c46g1_1 v).1 := (st46g1_1 h0 h1 h2).v.1
theorem uq46g1_1_1 {v : V46g1_1} (h0 : Ty.few 8 (.sl 116 y115) v.1) (h1 : cur v.2.2.2.1) (h2 : Ty.few 8 (.sl 116 y115) v.2.2.2.2.2.1) : Ty.few 12 (.sl 116 y115) (c46g1_1 v).2 := (st46g1_1 h0 h1 h2).v.2
theorem st46g1 {a0 : Ty.T y52} {a1 : Ty.T y106} (h0 : cur a1) : Sat (t46g1 a0 a1 some) (fun r => cur r.1 ∧ Ty.few 12 (.sl 116 y115) r.2) := by
  unfold t46g1
  simp (maxDischargeDepth := 99) only [false_and, and_false, Sat_cond, Sat_some, false_and, and_false, Sat_ite, Sat_ifz, Sat_opt, Sat_none, cond_true, cond_false, and_true, true_and, implies_true, and_self, ne_eq, reduceCtorEq, not_false_eq_true, true_or, or_true, false_or, or_false, Nat.zero_ne_one, Nat.one_ne_zero, List.length_cons, List.length_nil, Nat.reduceAdd, Nat.reduceLeDiff, Int.cast_ofNat_Int, few_nil, few_pair, few_int, few_bool, few_str, few_nul, z75g1, uq75g1_0, uq75g1_1, z74g1, uq74g1, z46g1_1, uq46g1_1_0, uq46g1_1_1, h0]
theorem z46g1 {a0 : Ty.T y52} {a1 : Ty.T y106} (h0 : cur a1) : d46g1 a0 a1 = true := (st46g1 h0).d
theorem uq46g1_0 {a0 : Ty.T y52} {a1 : Ty.T y106} (h0 : cur a1) : cur (v46g1 a0 a1).1 := (st46g1 h0).v.1
theorem uq46g1_1 {a0 : Ty.T y52} {a1 : Ty.T y106} (h0 : cur a1) : Ty.few 12 (.sl 116 y115) (v46g1 a0 a1).2 := (st46g1 h0).v.2

def upto (a b : Int) : Int := max 0 (min a b)
theorem sUpto (a b : Int) : v48 a b = upto a b := by
  unfold v48 upto
  by_cases h : b < a
  · rw [decide_eq_true h]
    by_cases h2 : b < 0
    · rw [decide_eq_true h2]; show (0 : Int) = _; omega
    · rw [decide_eq_false h2]; show b = _; omega
  · rw [decide_eq_false h]
    by_cases h2 : a < 0
    · rw [decide_eq_true h2]; show (0 : Int) = _; omega
    · rw [decide_eq_false h2]; show a = _; omega
theorem iUpto (a b : Int) : v45 a b = upto a b := by
  unfold v45 upto
  split <;> split <;> omega
def bnd (a : Int) : Int := max (-2147483647) (min a 2147483647)
theorem sBound (a : Int) : v49 a = bnd a := by
  unfold v49 bnd
  by_cases h : a > 2147483647
  · rw [decide_eq_true h]; show (2147483647 : Int) = _; omega
  · rw [decide_eq_false h]
    by_cases h2 : a < -2147483647
    · rw [decide_eq_true h2]; show (-2147483647 : Int) = _; omega
    · rw [decide_eq_false h2]; show a = _; omega
def pw (x : Int) : Nat → Int
  | 0 => 1
  | n + 1 => min (pw x n * x) 2147483647
theorem pw_succ (x : Int) (n : Nat) : pw x (n + 1) = min (pw x n * x) 2147483647 := rfl
theorem pw_range (x : Int) (h0 : 0 ≤ x) (n : Nat) : 0 ≤ pw x n ∧ pw x n ≤ 2147483647 := by
  induction n with
  | zero => simp [pw]
  | succ n ih =>
    have : 0 ≤ pw x n * x := Int.mul_nonneg ih.1 h0
    rw [pw_succ]
    omega
theorem mul_small {a x : Int} (h0 : 0 ≤ a) (h1 : a ≤ 2147483647) (h2 : 0 ≤ x) (h3 : x ≤ 2147483647) : 0 ≤ a * x ∧ a * x ≤ 4611686014132420609 := by
  constructor
  · exact Int.mul_nonneg h0 h2
  · calc a * x ≤ 2147483647 * 2147483647 := Int.mul_le_mul h1 h3 h2 (by omega)
      _ = 4611686014132420609 := by decide
theorem pw_one (n : Nat) : pw 1 n = 1 := by
  induction n with
  | zero => rfl
  | succ n ih => rw [pw_succ, ih]; decide
theorem pw_zero (n : Nat) : pw 0 (n + 1) = 0 := by
  rw [pw_succ, Int.mul_zero]
  decide
theorem pw_top (x : Int) (h : 1 ≤ x) (n j : Nat) (e : pw x n = 2147483647) : pw x (n + j) = 2147483647 := by
  induction j with
  | zero => exact e
  | succ j ih =>
    show min (pw x (n + j) * x) 2147483647 = _
    rw [ih]
    omega
theorem pw_lower (x : Int) (h : 2 ≤ x) (n : Nat) : min (2 ^ n) 2147483647 ≤ pw x n := by
  induction n with
  | zero => simp [pw]; omega
  | succ n ih =>
    have h1 := pw_range x (by omega) n
    have h2 : pw x n * 2 ≤ pw x n * x := Int.mul_le_mul_of_nonneg_left h h1.1
    rw [pw_succ, Int.pow_succ]
    omega
theorem pw_31 (x : Int) (h : 2 ≤ x) (n : Nat) (hn : 31 ≤ n) : pw x n = 2147483647 := by
  have h1 := pw_lower x h 31
  have h2 := (pw_range x (by omega) 31).2
  have h3 : pw x 31 = 2147483647 := by
    have : (2 : Int) ^ 31 = 2147483648 := by decide
    omega
  have := pw_top x (by omega) 31 (n - 31) h3
  rwa [show 31 + (n - 31) = n by omega] at this
theorem upto_max (k : Int) : 0 ≤ upto k 2147483647 ∧ upto k 2147483647 ≤ 2147483647 := by unfold upto; omega
def powr (k n : Int) : Int := pw (upto k 2147483647) (min n 64).toNat
theorem sPow_iter (n x : Int) (hx0 : 0 ≤ x) (hx : x ≤ 2147483647) (hn : n ≤ 9223372036854775807) (d : Nat) : ∀ (j m : Nat), j + d = (min n 64).toNat → d < m →
    iter s22_0 m (n, 0, x, pw x j, (j : Int), ()) = some (0, (n, 0, x, pw x (min n 64).toNat, (((min n 64).toNat : Nat) : Int), ())) := by
  induction d with
  | zero =>
    intro j m hj hm
    obtain ⟨q, rfl⟩ : ∃ q, m = q + 1 := ⟨m - 1, by omega⟩
    have h : s22_0 (n, 0, x, pw x j, (j : Int), ()) = some (1, (n, 0, x, pw x j, (j : Int), ())) := by
      by_cases h : (j : Int) < n
      · have h2 : ¬ (j : Int) < 64 := by omega
        simp [s22_0, t22_0, h, h2]
      · simp [s22_0, t22_0, h]
    rw [iter, h, show (min n 64).toNat = j by omega]
    rfl
  | succ d ih =>
    intro j m hj hm
    obtain ⟨q, rfl⟩ : ∃ q, m = q + 1 := ⟨m - 1, by omega⟩
    have hp := pw_range x hx0 j
    have hm := mul_small hp.1 hp.2 hx0 hx
    have h : s22_0 (n, 0, x, pw x j, (j : Int), ()) = some (0, (n, 0, x, pw x (j + 1), ((j + 1 : Nat) : Int), ())) := by
      have h1 : (j : Int) < n := by omega
      have h2 : (j : Int) < 64 := by omega
      have e : bnd (pw x j * x) = pw x (j + 1) := by rw [pw_succ]; unfold bnd; omega
      simp only [s22_0, t22_0, h1, h2, decide_true, cond_true, sBound]
      rw [wrap_in (n := pw x j * x) (by omega) (by omega), e, wrap_in (n := (j : Int) + 1) (by omega) (by omega)]
      rfl
    rw [iter, h]
    exact ih (j + 1) q (by omega) (by omega)
theorem sPow (a n : Int) (hn : n ≤ 9223372036854775807) : d22 a n = true ∧ v22 a n = powr a n := by
  have hu := upto_max a
  have h := sPow_iter n (upto a 2147483647) hu.1 hu.2 hn (min n 64).toNat 0 (n22_0 (n, 0, upto a 2147483647, 1, 0, ())) (by omega) (by simp only [n22_0]; omega)
  unfold d22 v22
  rw [sUpto]
  have e0 : k22_0 n 0 (upto a 2147483647) 1 0 0 = true := at_of h 0
  have ew : w22_0 n 0 (upto a 2147483647) 1 0 = _ := val_of h
  rw [e0, ew]
  exact ⟨rfl, rfl⟩
theorem iPow_iter (x : Int) (hx0 : 2 ≤ x) (hx : x ≤ 2147483647) (m : Nat) : ∀ (j q : Nat), (m : Int) ≤ 9223372036854775807 → m < q →
    ∃ z, iter s17_0 q (x, (m : Int), 0, pw x j, ()) = some (0, (x, z, 0, pw x (j + m), ())) := by
  induction m with
  | zero =>
    intro j q _ hq
    obtain ⟨q, rfl⟩ : ∃ p, q = p + 1 := ⟨q - 1, by omega⟩
    have h : s17_0 (x, ((0 : Nat) : Int), 0, pw x j, ()) = some (1, (x, ((0 : Nat) : Int), 0, pw x j, ())) := by simp [s17_0, t17_0]
    exact ⟨_, by rw [iter, h]; rfl⟩
  | succ m ih =>
    intro j q hm hq
    obtain ⟨q, rfl⟩ : ∃ p, q = p + 1 := ⟨q - 1, by omega⟩
    have hp := pw_range x (by omega) j
    by_cases h : pw x j < 2147483647
    · have hml := mul_small hp.1 hp.2 (by omega : 0 ≤ x) hx
      have hs : s17_0 (x, ((m + 1 : Nat) : Int), 0, pw x j, ()) = some (0, (x, (m : Int), 0, pw x (j + 1), ())) := by
        have h1 : ((m + 1 : Nat) : Int) > 0 := by omega
        have e : (if (2147483647 : Int) < pw x j * x then 2147483647 else pw x j * x) = pw x (j + 1) := by rw [pw_succ]; split <;> omega
        simp only [s17_0, t17_0, h1, h, decide_true, cond_true]
        rw [wrap_in (n := pw x j * x) (by omega) (by omega), e, wrap_in (n := ((m + 1 : Nat) : Int) - 1) (by omega) (by omega), show ((m + 1 : Nat) : Int) - 1 = m by omega]
      obtain ⟨z, hz⟩ := ih (j + 1) q (by omega) (by omega)
      exact ⟨z, by rw [iter, hs, show j + (m + 1) = (j + 1) + m by omega]; exact hz⟩
    · have e : pw x j = 2147483647 := by omega
      have hs : s17_0 (x, ((m + 1 : Nat) : Int), 0, pw x j, ()) = some (1, (x, ((m + 1 : Nat) : Int), 0, pw x j, ())) := by
        simp [s17_0, t17_0, h]
      exact ⟨_, by rw [iter, hs, pw_top x (by omega) j (m + 1) e, e]; rfl⟩
theorem iPow (a n : Int) (hn : n ≤ 9223372036854775807) : d17 a n = true ∧ v17 a n = powr a n := by
  have hu := upto_max a
  unfold d17 v17 powr
  rw [iUpto]
  generalize upto a 2147483647 = x at *
  by_cases h2 : x < 2
  · rw [decide_eq_true h2]
    by_cases hn0 : n > 0
    · rw [decide_eq_true hn0]
      refine ⟨rfl, ?_⟩
      obtain ⟨q, hq⟩ : ∃ q, (min n 64).toNat = q + 1 := ⟨(min n 64).toNat - 1, by omega⟩
      rw [hq]
      by_cases h0 : x = 0
      · subst h0; rw [pw_zero]; rfl
      · obtain rfl : x = 1 := by omega
        rw [pw_one]; rfl
    · rw [decide_eq_false hn0, show (min n 64).toNat = 0 by omega]
      exact ⟨rfl, rfl⟩
  · rw [decide_eq_false h2]
    have key : ∃ z, iter s17_0 (n17_0 (x, n, 0, 1, ())) (x, n, 0, 1, ()) = some (0, (x, z, 0, pw x (min n 64).toNat, ())) := by
      by_cases hn0 : 0 ≤ n
      · obtain ⟨z, hz⟩ := iPow_iter x (by omega) hu.2 n.toNat 0 (n17_0 (x, n, 0, 1, ())) (by omega) (by simp only [n17_0]; omega)
        rw [show ((n.toNat : Nat) : Int) = n by omega, Nat.zero_add] at hz
        have e : pw x n.toNat = pw x (min n 64).toNat := by
          by_cases h64 : n ≤ 64
          · rw [show (min n 64).toNat = n.toNat by omega]
          · rw [pw_31 x (by omega) n.toNat (by omega), pw_31 x (by omega) (min n 64).toNat (by omega)]
        exact ⟨z, by rw [← e]; exact hz⟩
      · obtain ⟨q, hq⟩ : ∃ q, n17_0 (x, n, 0, 1, ()) = q + 1 := ⟨n17_0 (x, n, 0, 1, ()) - 1, by simp only [n17_0]; omega⟩
        have hs : s17_0 (x, n, 0, 1, ()) = some (1, (x, n, 0, 1, ())) := by
          have : ¬ n > 0 := by omega
          simp [s17_0, t17_0, this]
        exact ⟨_, by rw [hq, iter, hs, show (min n 64).toNat = 0 by omega]; rfl⟩
    obtain ⟨z, hz⟩ := key
    have e0 : k17_0 x n 0 1 0 = true := at_of hz 0
    have ew : w17_0 x n 0 1 = _ := val_of hz
    rw [e0, ew]
    exact ⟨rfl, rfl⟩
def sm (x : Int) : Nat → Int
  | 0 => 0
  | n + 1 => min (sm x n + pw x n) 2147483647
theorem sm_succ (x : Int) (n : Nat) : sm x (n + 1) = min (sm x n + pw x n) 2147483647 := rfl
theorem sm_range (x : Int) (h0 : 0 ≤ x) (n : Nat) : 0 ≤ sm x n ∧ sm x n ≤ 2147483647 := by
  induction n with
  | zero => simp [sm]
  | succ n ih =>
    have := pw_range x h0 n
    rw [sm_succ]
    omega
theorem sm_top (x : Int) (h0 : 0 ≤ x) (n j : Nat) (e : sm x n = 2147483647) : sm x (n + j) = 2147483647 := by
  induction j with
  | zero => exact e
  | succ j ih =>
    have := pw_range x h0 (n + j)
    show min (sm x (n + j) + pw x (n + j)) 2147483647 = _
    omega
theorem sm_31 (x : Int) (h : 2 ≤ x) (n : Nat) (hn : 32 ≤ n) : sm x n = 2147483647 := by
  have h1 := pw_31 x h 31 (by omega)
  have h2 := sm_range x (by omega) 31
  have h3 : sm x 32 = 2147483647 := by
    rw [sm_succ, h1]
    omega
  have := sm_top x (by omega) 32 (n - 32) h3
  rwa [show 32 + (n - 32) = n by omega] at this
theorem sm_zero (n : Nat) : sm 0 (n + 1) = 1 := by
  induction n with
  | zero => decide
  | succ n ih => rw [sm_succ, ih, pw_zero]; decide
theorem sm_one (n : Nat) : sm 1 n = min (n : Int) 2147483647 := by
  induction n with
  | zero => decide
  | succ n ih => rw [sm_succ, ih, pw_one]; omega
theorem powr_nat (a : Int) (j : Nat) (h : j ≤ 64) : powr a j = pw (upto a 2147483647) j := by
  unfold powr
  rw [show (min (j : Int) 64).toNat = j by omega]
theorem powr_nat2 (x : Int) (h : 2 ≤ x) (hx : x ≤ 2147483647) (j : Nat) : powr x j = pw x j := by
  unfold powr
  rw [show upto x 2147483647 = x by unfold upto; omega]
  by_cases h64 : j ≤ 64
  · rw [show (min (j : Int) 64).toNat = j by omega]
  · rw [pw_31 x h _ (by omega), pw_31 x h _ (by omega)]
theorem sPlus (a b : Int) : v50 a b = bnd (bnd a + bnd b) := by
  unfold v50
  rw [sBound, sBound, sBound, wrap_in (by unfold bnd; omega) (by unfold bnd; omega)]
def smEnd (a n : Int) (out : Int) : Int := if n > 64 then (if upto a 2 = 1 then upto n 2147483647 else out) else out
theorem sSum_iter (a n : Int) (hn : n ≤ 9223372036854775807) (d : Nat) : ∀ (j m : Nat), j + d = (min n 64).toNat → d < m →
    ∃ z, iter s23_0 m (a, n, 0, sm (upto a 2147483647) j, (j : Int), ()) = some (0, (a, n, 0, sm (upto a 2147483647) (min n 64).toNat, z, ())) := by
  have hu := upto_max a
  induction d with
  | zero =>
    intro j m hj hm
    obtain ⟨q, rfl⟩ : ∃ q, m = q + 1 := ⟨m - 1, by omega⟩
    have h : s23_0 (a, n, 0, sm (upto a 2147483647) j, (j : Int), ()) = some (1, (a, n, 0, sm (upto a 2147483647) j, (j : Int), ())) := by
      by_cases h : (j : Int) < n
      · have h2 : ¬ (j : Int) < 64 := by omega
        simp [s23_0, t23_0, h, h2]
      · simp [s23_0, t23_0, h]
    exact ⟨_, by rw [iter, h, show (min n 64).toNat = j by omega]; rfl⟩
  | succ d ih =>
    intro j m hj hm
    obtain ⟨q, rfl⟩ : ∃ q, m = q + 1 := ⟨m - 1, by omega⟩
    have hs := sm_range (upto a 2147483647) hu.1 j
    have hp := pw_range (upto a 2147483647) hu.1 j
    by_cases h : sm (upto a 2147483647) j < 2147483647
    · have hst : s23_0 (a, n, 0, sm (upto a 2147483647) j, (j : Int), ()) = some (0, (a, n, 0, sm (upto a 2147483647) (j + 1), ((j + 1 : Nat) : Int), ())) := by
        have h1 : (j : Int) < n := by omega
        have h2 : (j : Int) < 64 := by omega
        have hq := sPow a j (by omega)
        have e : bnd (bnd (sm (upto a 2147483647) j) + bnd (pw (upto a 2147483647) j)) = sm (upto a 2147483647) (j + 1) := by
          rw [sm_succ]; unfold bnd; omega
        simp only [s23_0, t23_0, h1, h2, h, decide_true, cond_true, hq.1, hq.2, sPlus]
        rw [powr_nat a j (by omega), e, wrap_in (n := (j : Int) + 1) (by omega) (by omega)]
        rfl
      obtain ⟨z, hz⟩ := ih (j + 1) q (by omega) (by omega)
      exact ⟨z, by rw [iter, hst]; exact hz⟩
    · have e : sm (upto a 2147483647) j = 2147483647 := by omega
      have e2 : sm (upto a 2147483647) (min n 64).toNat = 2147483647 := by
        have := sm_top _ hu.1 j (d + 1) e
        rwa [hj] at this
      have hst : s23_0 (a, n, 0, sm (upto a 2147483647) j, (j : Int), ()) = some (1, (a, n, 0, sm (upto a 2147483647) j, (j : Int), ())) := by
        by_cases h1 : (j : Int) < n <;> simp [s23_0, t23_0, h1, h]
      exact ⟨_, by rw [iter, hst, e2, e]; rfl⟩
def sumr (a n : Int) : Int := smEnd a n (sm (upto a 2147483647) (min n 64).toNat)
theorem sSum (a n : Int) (hn : n ≤ 9223372036854775807) : d23 a n = true ∧ v23 a n = sumr a n := by
  obtain ⟨z, hz⟩ := sSum_iter a n hn (min n 64).toNat 0 (n23_0 (a, n, 0, 0, 0, ())) (by omega) (by simp only [n23_0]; omega)
  have e0 : k23_0 a n 0 0 0 0 = true := at_of hz 0
  have ew : w23_0 a n 0 0 0 = _ := val_of hz
  unfold d23 v23 sumr smEnd
  rw [e0, ew]
  simp only [cond_true, sUpto]
  by_cases h : n > 64
  · rw [decide_eq_true h, if_pos h]
    by_cases h1 : upto a 2 = 1
    · rw [if_pos h1, h1]; exact ⟨rfl, rfl⟩
    · rw [if_neg h1, show (upto a 2 == (1 : Int)) = false by simpa using h1]; exact ⟨rfl, rfl⟩
  · rw [decide_eq_false h, if_neg h]; exact ⟨rfl, rfl⟩
theorem iSum_iter (x n : Int) (h2 : 2 ≤ x) (hx : x ≤ 2147483647) (hn : n ≤ 9223372036854775807) (d : Nat) : ∀ (j m : Nat), j + d = n.toNat → d < m →
    ∃ z, iter s19_0 m (x, n, 0, sm x j, (j : Int), ()) = some (0, (x, n, 0, sm x n.toNat, z, ())) := by
  induction d with
  | zero =>
    intro j m hj hm
    obtain ⟨q, rfl⟩ : ∃ q, m = q + 1 := ⟨m - 1, by omega⟩
    have h : s19_0 (x, n, 0, sm x j, (j : Int), ()) = some (1, (x, n, 0, sm x j, (j : Int), ())) := by
      have h1 : ¬ (j : Int) < n := by omega
      simp [s19_0, t19_0, h1]
    exact ⟨_, by rw [iter, h, show n.toNat = j by omega]; rfl⟩
  | succ d ih =>
    intro j m hj hm
    obtain ⟨q, rfl⟩ : ∃ q, m = q + 1 := ⟨m - 1, by omega⟩
    have hs := sm_range x (by omega) j
    have hp := pw_range x (by omega) j
    by_cases h : sm x j < 2147483647
    · have hst : s19_0 (x, n, 0, sm x j, (j : Int), ()) = some (0, (x, n, 0, sm x (j + 1), ((j + 1 : Nat) : Int), ())) := by
        have h1 : (j : Int) < n := by omega
        have hq := iPow x j (by omega)
        have e : (if (2147483647 : Int) < sm x j + pw x j then 2147483647 else sm x j + pw x j) = sm x (j + 1) := by rw [sm_succ]; split <;> omega
        simp only [s19_0, t19_0, h1, h, decide_true, cond_true, hq.1, hq.2]
        rw [powr_nat2 x h2 hx j, wrap_in (n := sm x j + pw x j) (by omega) (by omega), e, wrap_in (n := (j : Int) + 1) (by omega) (by omega)]
        rfl
      obtain ⟨z, hz⟩ := ih (j + 1) q (by omega) (by omega)
      exact ⟨z, by rw [iter, hst]; exact hz⟩
    · have e : sm x j = 2147483647 := by omega
      have e2 : sm x n.toNat = 2147483647 := by
        have := sm_top x (by omega) j (d + 1) e
        rwa [hj] at this
      have hst : s19_0 (x, n, 0, sm x j, (j : Int), ()) = some (1, (x, n, 0, sm x j, (j : Int), ())) := by
        by_cases h1 : (j : Int) < n <;> simp [s19_0, t19_0, h1, h]
      exact ⟨_, by rw [iter, hst, e2, e]; rfl⟩
theorem iSum (a n : Int) (hn : n ≤ 9223372036854775807) : d19 a n = true ∧ v19 a n = sumr a n := by
  have hu := upto_max a
  have hq : upto a 2 = min (upto a 2147483647) 2 := by unfold upto; omega
  unfold d19 v19 sumr smEnd
  rw [iUpto, hq]
  generalize upto a 2147483647 = x at *
  by_cases hn0 : n ≤ 0
  · rw [decide_eq_true hn0, if_neg (show ¬ n > 64 by omega), show (min n 64).toNat = 0 by omega]
    exact ⟨rfl, rfl⟩
  · rw [decide_eq_false hn0]
    obtain ⟨q, hq1⟩ : ∃ q, (min n 64).toNat = q + 1 := ⟨(min n 64).toNat - 1, by omega⟩
    by_cases h0 : x = 0
    · subst h0
      rw [hq1, sm_zero, if_neg (show ¬ (min (0 : Int) 2 = 1) by decide), ite_self]
      exact ⟨rfl, rfl⟩
    · rw [show (x == (0 : Int)) = false by simpa using h0]
      by_cases h1 : x = 1
      · subst h1
        refine ⟨rfl, ?_⟩
        rw [sm_one, if_pos (show min (1 : Int) 2 = 1 by decide)]
        show (if (2147483647 : Int) < n then 2147483647 else n) = _
        unfold upto
        split <;> split <;> omega
      · rw [show (x == (1 : Int)) = false by simpa using h1]
        obtain ⟨z, hz⟩ := iSum_iter x n (by omega) hu.2 hn n.toNat 0 (n19_0 (x, n, 0, 0, 0, ())) (by omega) (by simp only [n19_0]; omega)
        have e : (if n > 64 then (if min x 2 = 1 then upto n 2147483647 else sm x (min n 64).toNat) else sm x (min n 64).toNat) = sm x n.toNat := by
          split
          · rw [if_neg (by omega), sm_31 x (by omega) _ (by omega), sm_31 x (by omega) _ (by omega)]
          · rw [show (min n 64).toNat = n.toNat by omega]
        have e0 : k19_0 x n 0 0 0 0 = true := at_of hz 0
        have ew : w19_0 x n 0 0 0 = _ := val_of hz
        rw [e0, ew, e]
        exact ⟨rfl, rfl⟩
noncomputable def cntF (k : Int) (e : Ty.T y115) : Int := if e.2.2.2.2.2.2.2.2 = 0 then k else k + 1
theorem useS (xs : List (Ty.T y115)) (hb : xs.length ≤ 1048576) : d52 xs = true ∧ v52 xs = xs.foldl cntF 0 := by
  have h := fold_iter (s := s52_0) (mk := fun (k : Int) i => (xs, 0, k, i, ())) (xs := xs) (f := cntF) (Inv := fun i k => 0 ≤ k ∧ k ≤ i) (fun i x k hx hI => by
    obtain ⟨hi, rfl⟩ := List.getElem?_eq_some_iff.1 hx
    have hk := wrap_in (n := k + 1) (by omega) (by omega)
    by_cases hg : (xs[i]).2.2.2.2.2.2.2.2 = 0
    · have hg2 : ((xs[i]).2.2.2.2.2.2.2.2 != (0 : Int)) = false := by simpa using hg
      refine ⟨by simp [s52_0, t52_0, optC_some, hi, hg, hg2, cntF, wrap_nat (n := i) (by omega)], ?_⟩
      unfold cntF; rw [if_pos hg]; omega
    · have hg2 : ((xs[i]).2.2.2.2.2.2.2.2 != (0 : Int)) = true := by simpa using hg
      refine ⟨by simp [s52_0, t52_0, optC_some, hi, hg, hg2, hk, cntF, wrap_nat (n := i) (by omega)], ?_⟩
      unfold cntF; rw [if_neg hg]; omega) (fun k => by simp [s52_0, t52_0]) xs.length 0 0 (n52_0 (xs, 0, 0, 0, ())) (by omega) (by simp only [n52_0]; omega) ⟨by omega, by omega⟩
  have hk : k52_0 xs 0 0 0 0 = true := at_of h 0
  have hw : w52_0 xs 0 0 0 = _ := val_of h
  unfold d52 v52
  rw [hk, hw]
  exact ⟨rfl, rfl⟩
theorem useI (xs : List (Ty.T y115)) (hb : xs.length ≤ 1048576) : d51 xs = true ∧ v51 xs = xs.foldl cntF 0 := by
  have h := fold_iter (s := s51_0) (mk := fun (k : Int) i => (0, k, xs, ((xs).length : Int), i, ())) (xs := xs) (f := cntF) (Inv := fun i k => 0 ≤ k ∧ k ≤ i) (fun i x k hx hI => by
    obtain ⟨hi, rfl⟩ := List.getElem?_eq_some_iff.1 hx
    have hk := wrap_in (n := k + 1) (by omega) (by omega)
    by_cases hg : (xs[i]).2.2.2.2.2.2.2.2 = 0
    · have hg2 : ((xs[i]).2.2.2.2.2.2.2.2 != (0 : Int)) = false := by simpa using hg
      refine ⟨by simp [s51_0, t51_0, optC_some, hi, hg, hg2, cntF, wrap_nat (n := i) (by omega)], ?_⟩
      unfold cntF; rw [if_pos hg]; omega
    · have hg2 : ((xs[i]).2.2.2.2.2.2.2.2 != (0 : Int)) = true := by simpa using hg
      refine ⟨by simp [s51_0, t51_0, optC_some, hi, hg, hg2, hk, cntF, wrap_nat (n := i) (by omega)], ?_⟩
      unfold cntF; rw [if_neg hg]; omega) (fun k => by simp [s51_0, t51_0]) xs.length 0 0 (n51_0 (0, 0, xs, ((xs).length : Int), 0, ())) (by omega) (by simp only [n51_0]; omega) ⟨by omega, by omega⟩
  have hk : k51_0 0 0 xs ((xs).length : Int) 0 0 = true := at_of h 0
  have hw : w51_0 0 0 xs ((xs).length : Int) 0 = _ := val_of h
  unfold d51 v51
  rw [hk, hw]
  exact ⟨rfl, rfl⟩
theorem cnt_range (xs : List (Ty.T y115)) : ∀ k, 0 ≤ k → 0 ≤ xs.foldl cntF k ∧ xs.foldl cntF k ≤ k + xs.length := by
  induction xs with
  | nil => intro k hk; simp; exact hk
  | cons x xs ih =>
    intro k hk
    simp only [List.foldl_cons, List.length_cons]
    have h := ih (cntF k x) (by unfold cntF; split <;> omega)
    have h2 : cntF k x ≤ k + 1 := by unfold cntF; split <;> omega
    omega
theorem drawP (a : List (Ty.T (.int .u8))) (h : cur (v43 a)) (h1 : d43 a = true) : d16 a = true ∧ (v16 a).2 ≤ 9223372036854775807 := by
  have b1 := oneOf [0, 1, 2, 3, 10, 2147483647, -1, 9223372036854775807] _ (by simp) h
  have b2 := oneOf [0, 1, 2, 5, 10, 31, 40, 100, -1] _ (by simp) b1.2.2
  have b3 := (show ∀ x ∈ ([0, 1, 2, 5, 10, 31, 40, 100, -1] : List Int), x ≤ 9223372036854775807 by decide) _ b2.2.1
  unfold d16 v16
  rw [h1, b1.1, b2.1]
  exact ⟨rfl, b3⟩
theorem drawS (a : List (Ty.T (.int .u8))) (h : cur (v43 a)) (h1 : d43 a = true) : d18 a = true ∧ (v18 a).2 ≤ 9223372036854775807 := drawP a h h1
theorem drawT (a : List (Ty.T (.int .u8))) (h0 : cur (v43 a)) (h1 : d43 a = true) : Sat (t20 a some) fun r => Ty.few 12 (.sl 116 y115) r := by
  unfold t20
  simp (maxDischargeDepth := 99) only [false_and, and_false, Sat_cond, Sat_some, false_and, and_false, Sat_ite, Sat_ifz, Sat_opt, Sat_none, cond_true, cond_false, and_true, true_and, implies_true, and_self, ne_eq, reduceCtorEq, not_false_eq_true, true_or, or_true, false_or, or_false, Nat.zero_ne_one, Nat.one_ne_zero, List.length_cons, List.length_nil, Nat.reduceAdd, Nat.reduceLeDiff, Int.cast_ofNat_Int, few_nil, few_pair, few_int, few_bool, few_str, few_nul, z44g1, uq44g1, z47g1, uq47g1_0, z46g1, uq46g1_0, uq46g1_1, h0, h1]
theorem drawL (a : List (Ty.T (.int .u8))) (h0 : cur (v43 a)) (h1 : d43 a = true) : d21 a = true ∧ Ty.few 12 (.sl 116 y115) (v21 a) := by
  unfold d21 v21
  simp (maxDischargeDepth := 99) only [false_and, and_false, Sat_cond, Sat_some, false_and, and_false, Sat_ite, Sat_ifz, Sat_opt, Sat_none, cond_true, cond_false, and_true, true_and, implies_true, and_self, ne_eq, reduceCtorEq, not_false_eq_true, true_or, or_true, false_or, or_false, Nat.zero_ne_one, Nat.one_ne_zero, List.length_cons, List.length_nil, Nat.reduceAdd, Nat.reduceLeDiff, Int.cast_ofNat_Int, few_nil, few_pair, few_int, few_bool, few_str, few_nul, z44g1, uq44g1, z47g1, uq47g1_0, z46g1, uq46g1_0, uq46g1_1, h0, h1]
theorem atR (a : List (Ty.T (.int .u8))) (i : Int) (h0 : 0 ≤ i) (hi : i ≤ 100) (ha : a.length ≤ 1048576) (hok : ∀ x ∈ a, 0 ≤ id (α := Int) x ∧ id (α := Int) x ≤ 255) : d28 a i = true ∧ 0 ≤ v28 a i ∧ v28 a i ≤ 255 := by
  unfold d28 v28
  by_cases hl : i < (a.length : Int)
  · have hi : i.toNat < a.length := by omega
    have hx := hok _ (List.getElem_mem hi)
    simp only [hl, decide_true, cond_true, h0, Bool.true_and, optD, optV, List.getElem?_eq_getElem hi]
    refine ⟨trivial, ?_⟩
    rw [wrap_in (n := a[i.toNat]) (by have := hx.1; simp only [id] at this; omega) (by have := hx.2; simp only [id] at this; omega)]
    exact hx
  · simp only [hl, decide_false, cond_false]
    rw [wrap_in (n := i * 31) (by omega) (by omega), wrap_in (n := (a.length : Int) * 7) (by omega) (by omega), wrap_in (by omega) (by omega)]
    exact ⟨trivial, Int.tmod_nonneg _ (by omega), by have := Int.tmod_lt_of_pos (i * 31 + (a.length : Int) * 7) (show (0 : Int) < 256 by omega); omega⟩
theorem tiny : ∀ x : Fin 4, ∀ y : Fin 9, ((powr (x.val : Int) (IntKind.wrap .i64 ((y.val : Int) + 1)) == IntKind.wrap .i64 ((x.val : Int) * powr (x.val : Int) (y.val : Int))) && (sumr (x.val : Int) (IntKind.wrap .i64 ((y.val : Int) + 1)) == IntKind.wrap .i64 (sumr (x.val : Int) (y.val : Int) + powr (x.val : Int) (y.val : Int))) && (IntKind.wrap .i64 (IntKind.wrap .i64 (sumr 3 (y.val : Int) * 2) + 1) == powr 3 (y.val : Int))) = true := by decide +kernel
theorem tinyI (x y : Int) (hx : 0 ≤ x) (hx4 : x < 4) (hy : 0 ≤ y) (hy9 : y < 9) : (powr x (IntKind.wrap .i64 (y + 1)) == IntKind.wrap .i64 (x * powr x y)) = true ∧ (sumr x (IntKind.wrap .i64 (y + 1)) == IntKind.wrap .i64 (sumr x y + powr x y)) = true ∧ (IntKind.wrap .i64 (IntKind.wrap .i64 (sumr 3 y * 2) + 1) == powr 3 y) = true := by
  have h := tiny ⟨x.toNat, by omega⟩ ⟨y.toNat, by omega⟩
  simp only [Bool.and_eq_true] at h
  rw [show ((x.toNat : Nat) : Int) = x by omega, show ((y.toNat : Nat) : Int) = y by omega] at h
  exact ⟨h.1.1, h.1.2, h.2⟩
theorem powr_one (k n : Int) (hk : 1 ≤ k) : 1 ≤ powr k n := by
  unfold powr
  have h1 : 1 ≤ upto k 2147483647 := by unfold upto; omega
  generalize upto k 2147483647 = x at h1
  generalize (min n 64).toNat = m
  induction m with
  | zero => exact Int.le_refl 1
  | succ m ih =>
    rw [pw_succ]
    have : 1 * 1 ≤ pw x m * x := Int.mul_le_mul ih h1 (by omega) (by omega)
    omega
theorem powr_in (k n : Int) : 0 ≤ powr k n ∧ powr k n ≤ 2147483647 := pw_range _ (upto_max k).1 _
theorem law (a0 : List (Ty.T (.int .u8))) (w0 : Ty.ok (.sl 5 (.int .u8)) a0) : d4 a0 = true ∧ v4 a0 = true := by
  unfold d4 v4
  cases hb : v15 a0 with
  | true => exact ⟨rfl, rfl⟩
  | false =>
    have hl : a0.length ≤ 1048576 := by
      have : ¬ ((a0.length : Int) > 1048576) := of_decide_eq_false hb
      omega
    have hok : ∀ x ∈ a0, 0 ≤ id (α := Int) x ∧ id (α := Int) x ≤ 255 := fun x hx => by
      have := w0.1 x hx
      simp [Ty.ok, Lit.wf, IntKind.min, IntKind.max, IntKind.signed, IntKind.bits] at this
      exact this
    obtain ⟨n1, n2⟩ := newC a0 (by omega)
    have hp := drawP a0 n2 n1
    have hs := drawS a0 n2 n1
    have ht := drawT a0 n2 n1
    have hll := drawL a0 n2 n1
    have ht1 : d20 a0 = true := ht.d
    have ht2 : Ty.few 12 (.sl 116 y115) (v20 a0) := ht.v
    have ip := iPow (v16 a0).1 _ hp.2
    have sp := sPow (v16 a0).1 _ hp.2
    have is := iSum (v18 a0).1 _ hs.2
    have ss := sSum (v18 a0).1 _ hs.2
    have ct := cnt_range (v20 a0) 0 (by omega)
    have cl := cnt_range (v21 a0) 0 (by omega)
    have lt := ht2.1
    have ll := hll.2.1
    have u1 := useI (v20 a0) (by omega)
    have u2 := useS (v20 a0) (by omega)
    have u3 := useI (v21 a0) (by omega)
    have u4 := useS (v21 a0) (by omega)
    have m1 := iSum 3 ((v20 a0).foldl cntF 0) (by omega)
    have m2 := sSum 3 ((v20 a0).foldl cntF 0) (by omega)
    have m3 := iPow 3 ((v21 a0).foldl cntF 0) (by omega)
    have m4 := sPow 3 ((v21 a0).foldl cntF 0) (by omega)
    have m5 := iPow 3 ((v20 a0).foldl cntF 0) (by omega)
    have m6 : d26 (v20 a0) = true ∧ v26 (v20 a0) = powr 3 ((v20 a0).foldl cntF 0) := by
      unfold d26 v26
      rw [u1.1, u1.2, m5.1, m5.2]
      exact ⟨rfl, rfl⟩
    have e1 : d24 (v20 a0) = true ∧ v24 (v20 a0) = sumr 3 ((v20 a0).foldl cntF 0) := by
      unfold d24 v24
      rw [u1.1, u1.2, m1.1, m1.2]
      exact ⟨rfl, rfl⟩
    have e2 : d25 (v20 a0) = true ∧ v25 (v20 a0) = sumr 3 ((v20 a0).foldl cntF 0) := by
      unfold d25 v25
      rw [u2.1, u2.2, m2.1, m2.2]
      exact ⟨rfl, rfl⟩
    have e3 : d26 (v21 a0) = true ∧ v26 (v21 a0) = powr 3 ((v21 a0).foldl cntF 0) := by
      unfold d26 v26
      rw [u3.1, u3.2, m3.1, m3.2]
      exact ⟨rfl, rfl⟩
    have e4 : d27 (v21 a0) = true ∧ v27 (v21 a0) = powr 3 ((v21 a0).foldl cntF 0) := by
      unfold d27 v27
      rw [u4.1, u4.2, m4.1, m4.2]
      exact ⟨rfl, rfl⟩
    obtain ⟨at1, at2, at3⟩ := atR a0 2 (by omega) (by omega) hl hok
    obtain ⟨at4, at5, at6⟩ := atR a0 3 (by omega) (by omega) hl hok
    have x1 := Int.tmod_nonneg 4 at2
    have x2 := Int.tmod_lt_of_pos (v28 a0 2) (show (0 : Int) < 4 by omega)
    have y1 := Int.tmod_nonneg 9 at5
    have y2 := Int.tmod_lt_of_pos (v28 a0 3) (show (0 : Int) < 9 by omega)
    have tn := tinyI _ _ x1 x2 y1 y2
    have wy : IntKind.wrap .i64 (Int.tmod (v28 a0 3) 9 + 1) = Int.tmod (v28 a0 3) 9 + 1 := wrap_in (by omega) (by omega)
    have p1 := iPow (Int.tmod (v28 a0 2) 4) (IntKind.wrap .i64 (Int.tmod (v28 a0 3) 9 + 1)) (by rw [wy]; omega)
    have p2 := iPow (Int.tmod (v28 a0 2) 4) (Int.tmod (v28 a0 3) 9) (by omega)
    have p3 := iSum (Int.tmod (v28 a0 2) 4) (IntKind.wrap .i64 (Int.tmod (v28 a0 3) 9 + 1)) (by rw [wy]; omega)
    have p4 := iSum (Int.tmod (v28 a0 2) 4) (Int.tmod (v28 a0 3) 9) (by omega)
    have p5 := iSum 3 (Int.tmod (v28 a0 3) 9) (by omega)
    have p6 := iPow 3 (Int.tmod (v28 a0 3) 9) (by omega)
    have r := powr_in (v16 a0).1 (v16 a0).2
    have r1 : decide (powr (v16 a0).1 (v16 a0).2 < 0) = false := decide_eq_false (by omega)
    have r2 : decide (powr (v16 a0).1 (v16 a0).2 > 2147483647) = false := decide_eq_false (by omega)
    have r3 : decide (powr 3 ((v20 a0).foldl cntF 0) ≥ 1) = true := decide_eq_true (powr_one _ _ (by omega))
    simp only [hp.1, ip, sp, hs.1, is, ss, ht1, hll.1, e1, e2, e3, e4, m6, at1, at4, p1, p2, p3, p4, p5, p6, r1, r2, r3, tn, cond_true, cond_false, bne_self_eq_false, and_self]
end Go.Proofs.Ytfbokamlkecibaa.Vm
namespace Go.Proofs.Ytfbokamlkecibaa.Pure
open Go Go.Proofs.Ytfbokamlkecibaa.Lib Go.Proofs.Ytfbokamlkecibaa.Vm
theorem fnPowers : Go.Proofs.Ytfbokamlkecibaa.fnPowers.Pure := fun a0 w0 => by
  have h := law a0 w0
  show cond (d4 a0) (some (f4 (v4 a0))) none = _
  rw [h.1, h.2]
  rfl
end Go.Proofs.Ytfbokamlkecibaa.Pure
