-- Written by wip/fix.py (a program of this session) out of the print of this claim. NSqueezed
import Derived.Test.YtnbmifoebaoemaaPFnExactMostLeftx0
import Derived.Test.YtnbmifoebaoemaaCells
namespace Go.Proofs.Ytnbmifoebaoemaa.PFnExactMostLeft
open Go.RowKit Go.Proofs.YtnbmifoebaoemaaW.PrintWords Go.Proofs.YtnbmifoebaoemaaW.PrintLast Go.Proofs.YtnbmifoebaoemaaW.PrintMore Go.Proofs.Ytnbmifoebaoemaa.Cells
attribute [local go_sem] max2_int min2_int max_two min_two max_three min_three max_four min_four   -- for this text's walks alone
set_option linter.unusedVariables false
set_option linter.unusedSimpArgs false

/-! ### laws_szEventS: function 66 -/
def laws_szEventS.f (l0 : List (S34)) (a1 : Int) : Option (Int) := if (wrap64 (a1 - (l0.length : Int))) < 0 then (some (-1)) else (some (wrap64 (a1 - (l0.length : Int))))
set_option maxHeartbeats 8000000 in
set_option maxRecDepth 100000 in
theorem laws_szEventS.calls (A0 : Option Addr) (c0 : Nat) (l0 : List (S34)) (a1 : Int) (r : Int) (w : World) (hr0 : Kd.C k34 w A0 l0.length l0) (hc0 : l0.length ≤ c0) (h : laws_szEventS.f l0 a1 = some r) :
    Calls Try.prog 66 #[.slice A0 l0.length c0, .int .i64 a1] w fun e w' => e = .returned (.int .i64 r) ∧ Drawn0 w w' := by
  have HR0 := Aside0.mk hr0
  have HC0 := Aside0.mk hc0
  clear hr0 hc0
  have H : (if (wrap64 (a1 - (l0.length : Int))) < 0 then (some (-1)) else (some (wrap64 (a1 - (l0.length : Int))))) = some r := h
  clear h
  by_cases c3 : (wrap64 (a1 - (l0.length : Int))) < 0
  · rw [if_pos c3] at H
    have c3b0 : decide ((wrap64 (a1 - (l0.length : Int))) < 0) = true := decide_eq_true c3
    clear c3
    obtain rfl := Option.some.inj H
    go_enter Try.func66, Try.ntmps66
    go_wp2
    go_ret
    exact ⟨by first | rfl | (simp; done) | (simp [*]; done), by repeat (first | exact Drawn0.refl _ | apply Drawn0.step)⟩
  · rw [if_neg c3] at H
    have c3b0 : decide ((wrap64 (a1 - (l0.length : Int))) < 0) = false := decide_eq_false c3
    clear c3
    obtain rfl := Option.some.inj H
    go_enter Try.func66, Try.ntmps66
    go_wp2
    go_ret
    exact ⟨by first | rfl | (simp; done) | (simp [*]; done), by repeat (first | exact Drawn0.refl _ | apply Drawn0.step)⟩

/-! ### laws_szAct: function 78 -/
def laws_szAct.f (a0_0 : Int) (a0_1 : Int) (a0_2 : Int) (a0_3 : Int) (a0_4 : Int) (a0_5 : Bool) (l0_6 : List (S34)) (a1 : Int) : Option (Int) := (laws_szEventS.f l0_6 a1).bind fun t102 => (if t102 < 0 then (some (-1)) else (some t102))
set_option maxHeartbeats 8000000 in
set_option maxRecDepth 100000 in
theorem laws_szAct.calls (a0_0 : Int) (a0_1 : Int) (a0_2 : Int) (a0_3 : Int) (a0_4 : Int) (a0_5 : Bool) (A0_6 : Option Addr) (c0_6 : Nat) (l0_6 : List (S34)) (a1 : Int) (r : Int) (w : World) (hr0_6 : Kd.C k34 w A0_6 l0_6.length l0_6) (hc0_6 : l0_6.length ≤ c0_6) (h : laws_szAct.f a0_0 a0_1 a0_2 a0_3 a0_4 a0_5 l0_6 a1 = some r) :
    Calls Try.prog 78 #[.agg #[.int .i64 a0_0, .int .i64 a0_1, .int .i64 a0_2, .int .i64 a0_3, .int .i64 a0_4, .bool a0_5, .slice A0_6 l0_6.length c0_6], .int .i64 a1] w fun e w' => e = .returned (.int .i64 r) ∧ Below w.heap.size w w' := by
  have hu52 := Try.underlying52
  have HR0_6 := Aside0.mk hr0_6
  have HC0_6 := Aside0.mk hc0_6
  clear hr0_6 hc0_6
  have HB := Aside0.mk (Below.refl w.heap.size w)
  have H : ((laws_szEventS.f l0_6 a1).bind fun t102 => (if t102 < 0 then (some (-1)) else (some t102))) = some r := h
  clear h
  replace H := Option.bind_eq_some_iff.mp H
  obtain ⟨t102, A30, H⟩ := H
  replace H : (if t102 < 0 then (some (-1)) else (some t102)) = some r := H
  have A3 := Aside0.mk A30
  clear A30
  by_cases c4 : t102 < 0
  · rw [if_pos c4] at H
    have c4b0 : decide (t102 < 0) = true := decide_eq_true c4
    clear c4
    obtain rfl := Option.some.inj H
    go_enter Try.func78, Try.ntmps78
    go_wp2_with (first | ((with_reducible refine gate_load (t := 52) rfl ?_); refine load_box rfl 52 _ rfl gb101 rfl Try.underlying52 rfl (by (with_reducible repeat (first | refine blk_drewN ?_ _ | refine blk_drew ?_ | refine blk_alloc ?_ _)); with_reducible exact BK101.out) (by kernel_rfl) ?_) | ((with_reducible refine gate_dst (N := 2) rfl ?_); refine box_event ?hg (N := 2) ?hd (cs := #[.int .i64 a0_0, .int .i64 a0_1, .int .i64 a0_2, .int .i64 a0_3, .int .i64 a0_4, .bool a0_5, .slice A0_6 l0_6.length c0_6]) (t := 52) ?hr ?_; (case hd => rfl); (case hg => rfl); (case hr => first | (go_simp; done) | (go_simp; rfl)); intro gb101 hg w5 hbox hb; have n0_ := Aside0.mk (below_step (by repeat (first | (with_reducible first | exact HB.out | apply below_alloc | apply pw_below_drewN | apply below_drew1) | exact HB.out)) hb); have n1_ := Aside0.mk (hbox); have n2_ := Aside0.mk ((by rw [hg]; exact (below_size (by repeat (first | (with_reducible first | exact HB.out | apply below_alloc | apply pw_below_drewN | apply below_drew1) | exact HB.out))) : w.heap.size ≤ gb101)); have n3_ := n2_; clear HB; have HB := n0_; have BK101 := n1_; have GW101 := n2_; have GE101 := n3_; clear n0_ n1_ n2_ n3_; clear hb hbox hg; obtain ⟨hcz6_0, hcz6_1, hcz6_2, hcz6_3, hcz6_4, hcz6_5, hcz6_6⟩ := cc_7 BK101.out; obtain ⟨hfz6_0, hfz6_1, hfz6_2, hfz6_3, hfz6_4, hfz6_5⟩ := ff_6 BK101.out; have hfz6_6 := blk_frozen BK101.out 6) | ((with_reducible refine gate_callee (f := 66) rfl ?_); refine goesL_ (some 8) rfl rfl Try.func66 (by kernel_rfl) rfl #[.slice A0_6 l0_6.length c0_6, .int .i64 a1] rfl (by (try simp only [List.map_toArray, List.map_cons, List.map_nil]); first | done | rfl | (simp only [List.length_drop, List.length_take]; rfl)) ?_; (with_reducible refine (laws_szEventS.calls _ _ l0_6 a1 t102 _ ?side1 ?side2 A3.out).mono ?_); (case side1 => repeat (first | exact (Kd.C_below HR0_6.out HB.out) | (with_reducible refine Kd.C_alloc ?_ _) | (with_reducible refine Kd.C_drewN ?_ _) | (with_reducible refine Kd.C_drew ?_))); (case side2 => exact HC0_6.out); rintro e w' ⟨rfl, ⟨nd, rfl⟩⟩; refine ⟨_, rfl, ?_⟩))
    go_ret
    exact ⟨by first | rfl | (simp [errW_none, errW_some] <;> rfl) | (simp [*, errW_none, errW_some] <;> rfl), by repeat (first | (with_reducible first | exact HB.out | apply below_alloc | apply pw_below_drewN | apply below_drew1 | refine below_set ?_ GE101.out) | exact HB.out)⟩
  · rw [if_neg c4] at H
    have c4b0 : decide (t102 < 0) = false := decide_eq_false c4
    clear c4
    obtain rfl := Option.some.inj H
    go_enter Try.func78, Try.ntmps78
    go_wp2_with (first | ((with_reducible refine gate_load (t := 52) rfl ?_); refine load_box rfl 52 _ rfl gb101 rfl Try.underlying52 rfl (by (with_reducible repeat (first | refine blk_drewN ?_ _ | refine blk_drew ?_ | refine blk_alloc ?_ _)); with_reducible exact BK101.out) (by kernel_rfl) ?_) | ((with_reducible refine gate_dst (N := 2) rfl ?_); refine box_event ?hg (N := 2) ?hd (cs := #[.int .i64 a0_0, .int .i64 a0_1, .int .i64 a0_2, .int .i64 a0_3, .int .i64 a0_4, .bool a0_5, .slice A0_6 l0_6.length c0_6]) (t := 52) ?hr ?_; (case hd => rfl); (case hg => rfl); (case hr => first | (go_simp; done) | (go_simp; rfl)); intro gb101 hg w7 hbox hb; have n0_ := Aside0.mk (below_step (by repeat (first | (with_reducible first | exact HB.out | apply below_alloc | apply pw_below_drewN | apply below_drew1) | exact HB.out)) hb); have n1_ := Aside0.mk (hbox); have n2_ := Aside0.mk ((by rw [hg]; exact (below_size (by repeat (first | (with_reducible first | exact HB.out | apply below_alloc | apply pw_below_drewN | apply below_drew1) | exact HB.out))) : w.heap.size ≤ gb101)); have n3_ := n2_; clear HB; have HB := n0_; have BK101 := n1_; have GW101 := n2_; have GE101 := n3_; clear n0_ n1_ n2_ n3_; clear hb hbox hg; obtain ⟨hcz8_0, hcz8_1, hcz8_2, hcz8_3, hcz8_4, hcz8_5, hcz8_6⟩ := cc_7 BK101.out; obtain ⟨hfz8_0, hfz8_1, hfz8_2, hfz8_3, hfz8_4, hfz8_5⟩ := ff_6 BK101.out; have hfz8_6 := blk_frozen BK101.out 6) | ((with_reducible refine gate_callee (f := 66) rfl ?_); refine goesL_ (some 8) rfl rfl Try.func66 (by kernel_rfl) rfl #[.slice A0_6 l0_6.length c0_6, .int .i64 a1] rfl (by (try simp only [List.map_toArray, List.map_cons, List.map_nil]); first | done | rfl | (simp only [List.length_drop, List.length_take]; rfl)) ?_; (with_reducible refine (laws_szEventS.calls _ _ l0_6 a1 t102 _ ?side1 ?side2 A3.out).mono ?_); (case side1 => repeat (first | exact (Kd.C_below HR0_6.out HB.out) | (with_reducible refine Kd.C_alloc ?_ _) | (with_reducible refine Kd.C_drewN ?_ _) | (with_reducible refine Kd.C_drew ?_))); (case side2 => exact HC0_6.out); rintro e w' ⟨rfl, ⟨nd, rfl⟩⟩; refine ⟨_, rfl, ?_⟩))
    go_ret
    exact ⟨by first | rfl | (simp [errW_none, errW_some] <;> rfl) | (simp [*, errW_none, errW_some] <;> rfl), by repeat (first | (with_reducible first | exact HB.out | apply below_alloc | apply pw_below_drewN | apply below_drew1 | refine below_set ?_ GE101.out) | exact HB.out)⟩

/-! ### laws_szEffect: function 26 -/
def laws_szEffect.f (a0_0 : Int) (a0_1 : Int) (a0_2 : Int) (a0_3 : Int) (a0_4 : Int) (a0_5 : Int) (a0_6 : Int) (a0_7 : Int) (a0_8 : Int) (a0_9 : Int) (a0_10 : Int) (a0_11 : Int) (a0_12 : Int) (a0_13 : Int) (a0_14 : Int) (a0_15 : Int) (a0_16 : Int) (a0_17 : Int) (a0_18 : Bool) (l0_19 : List (S34)) (a0_20 : Int) (a0_21 : Int) (a1 : Int) : Option (Int) := (laws_szAct.f a0_13 a0_14 a0_15 a0_16 a0_17 a0_18 l0_19 a1).bind fun t104 => (if t104 < 0 then (some (-1)) else (some t104))
set_option maxHeartbeats 8000000 in
set_option maxRecDepth 100000 in
theorem laws_szEffect.calls (a0_0 : Int) (a0_1 : Int) (a0_2 : Int) (a0_3 : Int) (a0_4 : Int) (a0_5 : Int) (a0_6 : Int) (a0_7 : Int) (a0_8 : Int) (a0_9 : Int) (a0_10 : Int) (a0_11 : Int) (a0_12 : Int) (a0_13 : Int) (a0_14 : Int) (a0_15 : Int) (a0_16 : Int) (a0_17 : Int) (a0_18 : Bool) (A0_19 : Option Addr) (c0_19 : Nat) (l0_19 : List (S34)) (a0_20 : Int) (a0_21 : Int) (a1 : Int) (r : Int) (w : World) (hr0_19 : Kd.C k34 w A0_19 l0_19.length l0_19) (hc0_19 : l0_19.length ≤ c0_19) (h : laws_szEffect.f a0_0 a0_1 a0_2 a0_3 a0_4 a0_5 a0_6 a0_7 a0_8 a0_9 a0_10 a0_11 a0_12 a0_13 a0_14 a0_15 a0_16 a0_17 a0_18 l0_19 a0_20 a0_21 a1 = some r) :
    Calls Try.prog 26 #[.agg #[.int .i64 a0_0, .int .i64 a0_1, .int .i64 a0_2, .int .i64 a0_3, .int .i64 a0_4, .int .i64 a0_5, .int .i64 a0_6, .int .i64 a0_7, .int .i64 a0_8, .int .i64 a0_9, .int .i64 a0_10, .int .i64 a0_11, .int .i64 a0_12, .int .i64 a0_13, .int .i64 a0_14, .int .i64 a0_15, .int .i64 a0_16, .int .i64 a0_17, .bool a0_18, .slice A0_19 l0_19.length c0_19, .int .i64 a0_20, .int .i64 a0_21], .int .i64 a1] w fun e w' => e = .returned (.int .i64 r) ∧ Below w.heap.size w w' := by
  have hu54 := Try.underlying54
  have hu52 := Try.underlying52
  have HR0_19 := Aside0.mk hr0_19
  have HC0_19 := Aside0.mk hc0_19
  clear hr0_19 hc0_19
  have HB := Aside0.mk (Below.refl w.heap.size w)
  have H : ((laws_szAct.f a0_13 a0_14 a0_15 a0_16 a0_17 a0_18 l0_19 a1).bind fun t104 => (if t104 < 0 then (some (-1)) else (some t104))) = some r := h
  clear h
  replace H := Option.bind_eq_some_iff.mp H
  obtain ⟨t104, A30, H⟩ := H
  replace H : (if t104 < 0 then (some (-1)) else (some t104)) = some r := H
  have A3 := Aside0.mk A30
  clear A30
  by_cases c4 : t104 < 0
  · rw [if_pos c4] at H
    have c4b0 : decide (t104 < 0) = true := decide_eq_true c4
    clear c4
    obtain rfl := Option.some.inj H
    go_enter Try.func26, Try.ntmps26
    go_wp2_with (first | ((with_reducible refine gate_load (t := 54) rfl ?_); refine load_box rfl 54 _ rfl gb103 rfl Try.underlying54 rfl (by (with_reducible repeat (first | refine blk_drewN ?_ _ | refine blk_drew ?_ | refine blk_alloc ?_ _)); with_reducible exact BK103.out) (by kernel_rfl) ?_) | ((with_reducible refine gate_dst (N := 2) rfl ?_); refine box_event ?hg (N := 2) ?hd (cs := #[.int .i64 a0_0, .int .i64 a0_1, .int .i64 a0_2, .int .i64 a0_3, .int .i64 a0_4, .int .i64 a0_5, .int .i64 a0_6, .int .i64 a0_7, .int .i64 a0_8, .int .i64 a0_9, .int .i64 a0_10, .int .i64 a0_11, .int .i64 a0_12, .int .i64 a0_13, .int .i64 a0_14, .int .i64 a0_15, .int .i64 a0_16, .int .i64 a0_17, .bool a0_18, .slice A0_19 l0_19.length c0_19, .int .i64 a0_20, .int .i64 a0_21]) (t := 54) ?hr ?_; (case hd => rfl); (case hg => rfl); (case hr => first | (go_simp; done) | (go_simp; rfl)); intro gb103 hg w5 hbox hb; have n0_ := Aside0.mk (below_step (by repeat (first | (with_reducible first | exact HB.out | apply below_alloc | apply pw_below_drewN | apply below_drew1) | exact HB.out)) hb); have n1_ := Aside0.mk (hbox); have n2_ := Aside0.mk ((by rw [hg]; exact (below_size (by repeat (first | (with_reducible first | exact HB.out | apply below_alloc | apply pw_below_drewN | apply below_drew1) | exact HB.out))) : w.heap.size ≤ gb103)); have n3_ := n2_; clear HB; have HB := n0_; have BK103 := n1_; have GW103 := n2_; have GE103 := n3_; clear n0_ n1_ n2_ n3_; clear hb hbox hg; obtain ⟨hcz6_0, hcz6_1, hcz6_2, hcz6_3, hcz6_4, hcz6_5, hcz6_6, hcz6_7, hcz6_8, hcz6_9, hcz6_10, hcz6_11, hcz6_12, hcz6_13, hcz6_14, hcz6_15, hcz6_16, hcz6_17, hcz6_18, hcz6_19, hcz6_20, hcz6_21⟩ := cc_22 BK103.out; obtain ⟨hfz6_0, hfz6_1, hfz6_2, hfz6_3, hfz6_4, hfz6_5, hfz6_6, hfz6_7, hfz6_8, hfz6_9, hfz6_10, hfz6_11, hfz6_12, hfz6_13, hfz6_14, hfz6_15, hfz6_16, hfz6_17, hfz6_18, hfz6_19, hfz6_20⟩ := ff_21 BK103.out; have hfz6_21 := blk_frozen BK103.out 21) | ((with_reducible refine gate_callee (f := 78) rfl ?_); refine goesL_ (some 8) rfl rfl Try.func78 (by kernel_rfl) rfl #[.agg #[.int .i64 a0_13, .int .i64 a0_14, .int .i64 a0_15, .int .i64 a0_16, .int .i64 a0_17, .bool a0_18, .slice A0_19 l0_19.length c0_19], .int .i64 a1] rfl (by (try simp only [List.map_toArray, List.map_cons, List.map_nil]); first | done | rfl | (simp only [List.length_drop, List.length_take]; rfl)) ?_; (with_reducible refine (laws_szAct.calls a0_13 a0_14 a0_15 a0_16 a0_17 a0_18 _ _ l0_19 a1 t104 _ ?side1 ?side2 A3.out).mono ?_); (case side1 => repeat (first | exact (Kd.C_below HR0_19.out HB.out) | (with_reducible refine Kd.C_alloc ?_ _) | (with_reducible refine Kd.C_drewN ?_ _) | (with_reducible refine Kd.C_drew ?_))); (case side2 => exact HC0_19.out); rintro e w7 ⟨rfl, hb⟩; refine ⟨_, rfl, ?_⟩; have n0_ := Aside0.mk (blk_below (by (with_reducible repeat (first | refine blk_drewN ?_ _ | refine blk_drew ?_ | refine blk_alloc ?_ _)); exact BK103.out) hb); have n1_ := Aside0.mk (below_step (by repeat (first | (with_reducible first | exact HB.out | apply below_alloc | apply pw_below_drewN | apply below_drew1 | refine below_set ?_ GE103.out) | exact HB.out)) hb); clear BK103; clear HB; have BK103 := n0_; have HB := n1_; clear n0_ n1_; (try clear hb); (try clear hb2); (try clear hk); (try clear hi)))
    go_ret
    exact ⟨by first | rfl | (simp [errW_none, errW_some] <;> rfl) | (simp [*, errW_none, errW_some] <;> rfl), by repeat (first | (with_reducible first | exact HB.out | apply below_alloc | apply pw_below_drewN | apply below_drew1 | refine below_set ?_ GE103.out) | exact HB.out)⟩
  · rw [if_neg c4] at H
    have c4b0 : decide (t104 < 0) = false := decide_eq_false c4
    clear c4
    obtain rfl := Option.some.inj H
    go_enter Try.func26, Try.ntmps26
    go_wp2_with (first | ((with_reducible refine gate_load (t := 54) rfl ?_); refine load_box rfl 54 _ rfl gb103 rfl Try.underlying54 rfl (by (with_reducible repeat (first | refine blk_drewN ?_ _ | refine blk_drew ?_ | refine blk_alloc ?_ _)); with_reducible exact BK103.out) (by kernel_rfl) ?_) | ((with_reducible refine gate_dst (N := 2) rfl ?_); refine box_event ?hg (N := 2) ?hd (cs := #[.int .i64 a0_0, .int .i64 a0_1, .int .i64 a0_2, .int .i64 a0_3, .int .i64 a0_4, .int .i64 a0_5, .int .i64 a0_6, .int .i64 a0_7, .int .i64 a0_8, .int .i64 a0_9, .int .i64 a0_10, .int .i64 a0_11, .int .i64 a0_12, .int .i64 a0_13, .int .i64 a0_14, .int .i64 a0_15, .int .i64 a0_16, .int .i64 a0_17, .bool a0_18, .slice A0_19 l0_19.length c0_19, .int .i64 a0_20, .int .i64 a0_21]) (t := 54) ?hr ?_; (case hd => rfl); (case hg => rfl); (case hr => first | (go_simp; done) | (go_simp; rfl)); intro gb103 hg w8 hbox hb; have n0_ := Aside0.mk (below_step (by repeat (first | (with_reducible first | exact HB.out | apply below_alloc | apply pw_below_drewN | apply below_drew1) | exact HB.out)) hb); have n1_ := Aside0.mk (hbox); have n2_ := Aside0.mk ((by rw [hg]; exact (below_size (by repeat (first | (with_reducible first | exact HB.out | apply below_alloc | apply pw_below_drewN | apply below_drew1) | exact HB.out))) : w.heap.size ≤ gb103)); have n3_ := n2_; clear HB; have HB := n0_; have BK103 := n1_; have GW103 := n2_; have GE103 := n3_; clear n0_ n1_ n2_ n3_; clear hb hbox hg; obtain ⟨hcz9_0, hcz9_1, hcz9_2, hcz9_3, hcz9_4, hcz9_5, hcz9_6, hcz9_7, hcz9_8, hcz9_9, hcz9_10, hcz9_11, hcz9_12, hcz9_13, hcz9_14, hcz9_15, hcz9_16, hcz9_17, hcz9_18, hcz9_19, hcz9_20, hcz9_21⟩ := cc_22 BK103.out; obtain ⟨hfz9_0, hfz9_1, hfz9_2, hfz9_3, hfz9_4, hfz9_5, hfz9_6, hfz9_7, hfz9_8, hfz9_9, hfz9_10, hfz9_11, hfz9_12, hfz9_13, hfz9_14, hfz9_15, hfz9_16, hfz9_17, hfz9_18, hfz9_19, hfz9_20⟩ := ff_21 BK103.out; have hfz9_21 := blk_frozen BK103.out 21) | ((with_reducible refine gate_callee (f := 78) rfl ?_); refine goesL_ (some 8) rfl rfl Try.func78 (by kernel_rfl) rfl #[.agg #[.int .i64 a0_13, .int .i64 a0_14, .int .i64 a0_15, .int .i64 a0_16, .int .i64 a0_17, .bool a0_18, .slice A0_19 l0_19.length c0_19], .int .i64 a1] rfl (by (try simp only [List.map_toArray, List.map_cons, List.map_nil]); first | done | rfl | (simp only [List.length_drop, List.length_take]; rfl)) ?_; (with_reducible refine (laws_szAct.calls a0_13 a0_14 a0_15 a0_16 a0_17 a0_18 _ _ l0_19 a1 t104 _ ?side1 ?side2 A3.out).mono ?_); (case side1 => repeat (first | exact (Kd.C_below HR0_19.out HB.out) | (with_reducible refine Kd.C_alloc ?_ _) | (with_reducible refine Kd.C_drewN ?_ _) | (with_reducible refine Kd.C_drew ?_))); (case side2 => exact HC0_19.out); rintro e w10 ⟨rfl, hb⟩; refine ⟨_, rfl, ?_⟩; have n0_ := Aside0.mk (blk_below (by (with_reducible repeat (first | refine blk_drewN ?_ _ | refine blk_drew ?_ | refine blk_alloc ?_ _)); exact BK103.out) hb); have n1_ := Aside0.mk (below_step (by repeat (first | (with_reducible first | exact HB.out | apply below_alloc | apply pw_below_drewN | apply below_drew1 | refine below_set ?_ GE103.out) | exact HB.out)) hb); clear BK103; clear HB; have BK103 := n0_; have HB := n1_; clear n0_ n1_; (try clear hb); (try clear hb2); (try clear hk); (try clear hi)))
    go_ret
    exact ⟨by first | rfl | (simp [errW_none, errW_some] <;> rfl) | (simp [*, errW_none, errW_some] <;> rfl), by repeat (first | (with_reducible first | exact HB.out | apply below_alloc | apply pw_below_drewN | apply below_drew1 | refine below_set ?_ GE103.out) | exact HB.out)⟩

/-! ### laws_szEffectS: function 32 -/
def laws_szEffectS.l0 : Nat → List (S54) → Int → Int → Option (Int)
  | 0, _, _, _ => none
  | k + 1, x0, x1, x5 => if x5 < (x0.length : Int) then (if 0 ≤ x5 then ((laws_szEffect.f ((rd_T54 x0 x5).f0) ((rd_T54 x0 x5).f1) ((rd_T54 x0 x5).f2) ((rd_T54 x0 x5).f3) ((rd_T54 x0 x5).f4.f0) ((rd_T54 x0 x5).f4.f1) ((rd_T54 x0 x5).f4.f2) ((rd_T54 x0 x5).f4.f3) ((rd_T54 x0 x5).f4.f4) ((rd_T54 x0 x5).f4.f5) ((rd_T54 x0 x5).f4.f6) ((rd_T54 x0 x5).f5.f0) ((rd_T54 x0 x5).f5.f1) ((rd_T54 x0 x5).f6.f0) ((rd_T54 x0 x5).f6.f1) ((rd_T54 x0 x5).f6.f2) ((rd_T54 x0 x5).f6.f3) ((rd_T54 x0 x5).f6.f4) ((rd_T54 x0 x5).f6.f5) ((rd_T54 x0 x5).f6.f6) ((rd_T54 x0 x5).f7) ((rd_T54 x0 x5).f8) x1).bind fun t106 => (if t106 < 0 then (some (-1)) else (laws_szEffectS.l0 k x0 t106 (wrap64 (x5 + 1))))) else (none)) else (some x1)
def laws_szEffectS.f (k : Nat) (l0 : List (S54)) (a1 : Int) : Option (Int) := if (wrap64 (a1 - (l0.length : Int))) < 0 then (some (-1)) else (laws_szEffectS.l0 k l0 (wrap64 (a1 - (l0.length : Int))) 0)
theorem laws_szEffectS.mono_l : ∀ k, (∀ y0 y1 y2, LeO (laws_szEffectS.l0 k y0 y1 y2) (laws_szEffectS.l0 (k + 1) y0 y1 y2))
  | 0 => fun _ _ _ r h => by simp [laws_szEffectS.l0] at h
  | k + 1 => by
    have ih0 := laws_szEffectS.mono_l k
    · intro y0 y1 y2
      unfold laws_szEffectS.l0
      repeat' first
      | (with_reducible exact ih0 _ _ _)
      | (with_reducible exact LeO.refl _)
      | (with_reducible exact LeO.none _)
      | (with_reducible refine LeO.ite ?_ ?_)
      | (with_reducible refine LeO.bind ?_ (fun _ => ?_))
      | exact ih0 _ _ _
      | exact LeO.none _
      | refine LeO.ite ?_ ?_
      | refine LeO.bind ?_ (fun _ => ?_)
theorem laws_szEffectS.mono : ∀ a0 a1 k, LeO (laws_szEffectS.f k a0 a1) (laws_szEffectS.f (k + 1) a0 a1) := by
  intro a0 a1 k
  have ih0 := laws_szEffectS.mono_l k
  unfold laws_szEffectS.f
  repeat' first
      | (with_reducible exact ih0 _ _ _)
      | (with_reducible exact LeO.refl _)
      | (with_reducible exact LeO.none _)
      | (with_reducible refine LeO.ite ?_ ?_)
      | (with_reducible refine LeO.bind ?_ (fun _ => ?_))
      | exact ih0 _ _ _
      | exact LeO.none _
      | refine LeO.ite ?_ ?_
      | refine LeO.bind ?_ (fun _ => ?_)
set_option maxHeartbeats 8000000 in
set_option maxRecDepth 100000 in
theorem laws_szEffectS.calls (k : Nat) (A0 : Option Addr) (c0 : Nat) (l0 : List (S54)) (a1 : Int) (r : Int) (w : World) (hr0 : Kd.C k54 w A0 l0.length l0) (hc0 : l0.length ≤ c0) (h : laws_szEffectS.f k l0 a1 = some r) :
    Calls Try.prog 32 #[.slice A0 l0.length c0, .int .i64 a1] w fun e w' => e = .returned (.int .i64 r) ∧ Below w.heap.size w w' := by
  have hu54 := Try.underlying54
  have HR0 := Aside0.mk hr0
  have HC0 := Aside0.mk hc0
  clear hr0 hc0
  have HB := Aside0.mk (Below.refl w.heap.size w)
  have H : (if (wrap64 (a1 - (l0.length : Int))) < 0 then (some (-1)) else (laws_szEffectS.l0 k l0 (wrap64 (a1 - (l0.length : Int))) 0)) = some r := h
  clear h
  by_cases c3 : (wrap64 (a1 - (l0.length : Int))) < 0
  · rw [if_pos c3] at H
    have c3b0 : decide ((wrap64 (a1 - (l0.length : Int))) < 0) = true := decide_eq_true c3
    clear c3
    obtain rfl := Option.some.inj H
    go_enter Try.func32, Try.ntmps32
    go_wp2
    go_ret
    exact ⟨by first | rfl | (simp [errW_none, errW_some] <;> rfl) | (simp [*, errW_none, errW_some] <;> rfl), by repeat (first | (with_reducible first | exact HB.out | apply below_alloc | apply pw_below_drewN | apply below_drew1) | exact HB.out)⟩
  · rw [if_neg c3] at H
    have c3b0 : decide ((wrap64 (a1 - (l0.length : Int))) < 0) = false := decide_eq_false c3
    clear c3
    have H' := Aside0.mk H
    clear H
    go_enter Try.func32, Try.ntmps32
    go_wp2
    go_loopg [1, 5] k (fun kq v1 v5 w' => ∃ (x1_1 : Int) (x5_1 : Int), v1 = .int .i64 x1_1 ∧ v5 = .int .i64 x5_1 ∧ Aside0 (laws_szEffectS.l0 kq l0 x1_1 x5_1 = some r) ∧ Aside0 (kq ≤ k) ∧ Aside0 (Below w.heap.size w w'))
    case atStart => exact ⟨(wrap64 (a1 - (l0.length : Int))), (0), (by first | rfl | (simp; done) | (simp [*]; done)), (by first | rfl | (simp; done) | (simp [*]; done)), H', ⟨Nat.le_refl _⟩, ⟨by repeat (first | (with_reducible first | exact HB.out | apply below_alloc | apply pw_below_drewN | apply below_drew1) | exact HB.out)⟩⟩
    case round =>
      clear H'
      try clear p2
      try clear c3
      try clear c3b0
      obtain ⟨x1_1, x5_1, rfl, rfl, HA, HK1, HB⟩ := hrel
      cases gk with
      | zero => exact absurd HA.out (by simp [laws_szEffectS.l0])
      | succ k1 =>
        have H := HA.out
        clear HA
        simp only [laws_szEffectS.l0] at H
        by_cases c4 : x5_1 < (l0.length : Int)
        · rw [if_pos c4] at H
          have c4b0 : decide (x5_1 < (l0.length : Int)) = true := decide_eq_true c4
          clear c4
          by_cases c5 : 0 ≤ x5_1
          · rw [if_pos c5] at H
            have c5b0 : decide (0 ≤ x5_1) = true := decide_eq_true c5
            clear c5
            replace H := Option.bind_eq_some_iff.mp H
            obtain ⟨t106, A60, H⟩ := H
            replace H : (if t106 < 0 then (some (-1)) else (laws_szEffectS.l0 k1 l0 t106 (wrap64 (x5_1 + 1)))) = some r := H
            have A6 := Aside0.mk A60
            clear A60
            by_cases c7 : t106 < 0
            · rw [if_pos c7] at H
              have c7b0 : decide (t106 < 0) = true := decide_eq_true c7
              clear c7
              obtain rfl := Option.some.inj H
              have p105 : 0 ≤ (x5_1 : Int) := of_decide_eq_true (by first | (with_reducible assumption) | assumption)
              have q105 : x5_1 < (l0.length : Int) := of_decide_eq_true (by first | (with_reducible assumption) | assumption)
              obtain ⟨ad105, A105_19, c105_19, e105, hx105_0, hx105_1, hx105_2, hx105_3, hx105_4, hx105_5, hx105_6, hx105_7, hx105_8, hx105_9, hx105_10, hx105_11, hx105_12, hx105_13, hx105_14, hx105_15, hx105_16, hx105_17, hx105_18, hx105_19, hx105_20, hx105_21, hl105_19, hi105_19⟩ := at_T54 HR0.out x5_1 p105 q105
              cases e105
              replace hx105_0 := (HB.out.cell (World.block_lt_of_cell? w _ hx105_0)).trans hx105_0
              replace hx105_1 := (HB.out.cell (World.block_lt_of_cell? w _ hx105_1)).trans hx105_1
              replace hx105_2 := (HB.out.cell (World.block_lt_of_cell? w _ hx105_2)).trans hx105_2
              replace hx105_3 := (HB.out.cell (World.block_lt_of_cell? w _ hx105_3)).trans hx105_3
              replace hx105_4 := (HB.out.cell (World.block_lt_of_cell? w _ hx105_4)).trans hx105_4
              replace hx105_5 := (HB.out.cell (World.block_lt_of_cell? w _ hx105_5)).trans hx105_5
              replace hx105_6 := (HB.out.cell (World.block_lt_of_cell? w _ hx105_6)).trans hx105_6
              replace hx105_7 := (HB.out.cell (World.block_lt_of_cell? w _ hx105_7)).trans hx105_7
              replace hx105_8 := (HB.out.cell (World.block_lt_of_cell? w _ hx105_8)).trans hx105_8
              replace hx105_9 := (HB.out.cell (World.block_lt_of_cell? w _ hx105_9)).trans hx105_9
              replace hx105_10 := (HB.out.cell (World.block_lt_of_cell? w _ hx105_10)).trans hx105_10
              replace hx105_11 := (HB.out.cell (World.block_lt_of_cell? w _ hx105_11)).trans hx105_11
              replace hx105_12 := (HB.out.cell (World.block_lt_of_cell? w _ hx105_12)).trans hx105_12
              replace hx105_13 := (HB.out.cell (World.block_lt_of_cell? w _ hx105_13)).trans hx105_13
              replace hx105_14 := (HB.out.cell (World.block_lt_of_cell? w _ hx105_14)).trans hx105_14
              replace hx105_15 := (HB.out.cell (World.block_lt_of_cell? w _ hx105_15)).trans hx105_15
              replace hx105_16 := (HB.out.cell (World.block_lt_of_cell? w _ hx105_16)).trans hx105_16
              replace hx105_17 := (HB.out.cell (World.block_lt_of_cell? w _ hx105_17)).trans hx105_17
              replace hx105_18 := (HB.out.cell (World.block_lt_of_cell? w _ hx105_18)).trans hx105_18
              replace hx105_19 := (HB.out.cell (World.block_lt_of_cell? w _ hx105_19)).trans hx105_19
              replace hx105_20 := (HB.out.cell (World.block_lt_of_cell? w _ hx105_20)).trans hx105_20
              replace hx105_21 := (HB.out.cell (World.block_lt_of_cell? w _ hx105_21)).trans hx105_21
              have HR105_19 := Aside0.mk hi105_19
              have HC105_19 := Aside0.mk hl105_19
              clear hi105_19 hl105_19
              replace p105 := eq_true p105
              replace q105 := eq_true q105
              go_wp2_with (first | ((with_reducible refine gate_load (t := 54) rfl ?_); refine load_at rfl 54 _ rfl _ rfl _ _ Try.underlying54 rfl (by kernel_rfl) (ee_22 hx105_0 hx105_1 hx105_2 hx105_3 hx105_4 hx105_5 hx105_6 hx105_7 hx105_8 hx105_9 hx105_10 hx105_11 hx105_12 hx105_13 hx105_14 hx105_15 hx105_16 hx105_17 hx105_18 hx105_19 hx105_20 hx105_21) ?_) | ((with_reducible refine gate_callee (f := 26) rfl ?_); refine goesL_ (some 23) rfl rfl Try.func26 (by kernel_rfl) rfl #[.agg #[.int .i64 ((rd_T54 l0 x5_1).f0), .int .i64 ((rd_T54 l0 x5_1).f1), .int .i64 ((rd_T54 l0 x5_1).f2), .int .i64 ((rd_T54 l0 x5_1).f3), .int .i64 ((rd_T54 l0 x5_1).f4.f0), .int .i64 ((rd_T54 l0 x5_1).f4.f1), .int .i64 ((rd_T54 l0 x5_1).f4.f2), .int .i64 ((rd_T54 l0 x5_1).f4.f3), .int .i64 ((rd_T54 l0 x5_1).f4.f4), .int .i64 ((rd_T54 l0 x5_1).f4.f5), .int .i64 ((rd_T54 l0 x5_1).f4.f6), .int .i64 ((rd_T54 l0 x5_1).f5.f0), .int .i64 ((rd_T54 l0 x5_1).f5.f1), .int .i64 ((rd_T54 l0 x5_1).f6.f0), .int .i64 ((rd_T54 l0 x5_1).f6.f1), .int .i64 ((rd_T54 l0 x5_1).f6.f2), .int .i64 ((rd_T54 l0 x5_1).f6.f3), .int .i64 ((rd_T54 l0 x5_1).f6.f4), .bool ((rd_T54 l0 x5_1).f6.f5), .slice A105_19 ((rd_T54 l0 x5_1).f6.f6).length c105_19, .int .i64 ((rd_T54 l0 x5_1).f7), .int .i64 ((rd_T54 l0 x5_1).f8)], .int .i64 x1_1] rfl (by (try simp only [List.map_toArray, List.map_cons, List.map_nil]); first | done | rfl | (simp only [List.length_drop, List.length_take]; rfl)) ?_; (with_reducible refine (laws_szEffect.calls ((rd_T54 l0 x5_1).f0) ((rd_T54 l0 x5_1).f1) ((rd_T54 l0 x5_1).f2) ((rd_T54 l0 x5_1).f3) ((rd_T54 l0 x5_1).f4.f0) ((rd_T54 l0 x5_1).f4.f1) ((rd_T54 l0 x5_1).f4.f2) ((rd_T54 l0 x5_1).f4.f3) ((rd_T54 l0 x5_1).f4.f4) ((rd_T54 l0 x5_1).f4.f5) ((rd_T54 l0 x5_1).f4.f6) ((rd_T54 l0 x5_1).f5.f0) ((rd_T54 l0 x5_1).f5.f1) ((rd_T54 l0 x5_1).f6.f0) ((rd_T54 l0 x5_1).f6.f1) ((rd_T54 l0 x5_1).f6.f2) ((rd_T54 l0 x5_1).f6.f3) ((rd_T54 l0 x5_1).f6.f4) ((rd_T54 l0 x5_1).f6.f5) _ _ ((rd_T54 l0 x5_1).f6.f6) ((rd_T54 l0 x5_1).f7) ((rd_T54 l0 x5_1).f8) x1_1 t106 _ ?side1 ?side2 A6.out).mono ?_); (case side1 => repeat (first | exact (Kd.C_below HR105_19.out HB.out) | (with_reducible refine Kd.C_alloc ?_ _) | (with_reducible refine Kd.C_drewN ?_ _) | (with_reducible refine Kd.C_drew ?_))); (case side2 => exact HC105_19.out); rintro e w8 ⟨rfl, hb⟩; refine ⟨_, rfl, ?_⟩; have n0_ := Aside0.mk (below_step (by repeat (first | (with_reducible first | exact HB.out | apply below_alloc | apply pw_below_drewN | apply below_drew1) | exact HB.out)) hb); clear HB; have HB := n0_; clear n0_; (try clear hb); (try clear hb2); (try clear hk); (try clear hi)))
              go_ret
              exact ⟨by first | rfl | (simp [errW_none, errW_some] <;> rfl) | (simp [*, errW_none, errW_some] <;> rfl), by repeat (first | (with_reducible first | exact HB.out | apply below_alloc | apply pw_below_drewN | apply below_drew1) | exact HB.out)⟩
            · rw [if_neg c7] at H
              have c7b0 : decide (t106 < 0) = false := decide_eq_false c7
              clear c7
              have H' := Aside0.mk H
              clear H
              have p105 : 0 ≤ (x5_1 : Int) := of_decide_eq_true (by first | (with_reducible assumption) | assumption)
              have q105 : x5_1 < (l0.length : Int) := of_decide_eq_true (by first | (with_reducible assumption) | assumption)
              obtain ⟨ad105, A105_19, c105_19, e105, hx105_0, hx105_1, hx105_2, hx105_3, hx105_4, hx105_5, hx105_6, hx105_7, hx105_8, hx105_9, hx105_10, hx105_11, hx105_12, hx105_13, hx105_14, hx105_15, hx105_16, hx105_17, hx105_18, hx105_19, hx105_20, hx105_21, hl105_19, hi105_19⟩ := at_T54 HR0.out x5_1 p105 q105
              cases e105
              replace hx105_0 := (HB.out.cell (World.block_lt_of_cell? w _ hx105_0)).trans hx105_0
              replace hx105_1 := (HB.out.cell (World.block_lt_of_cell? w _ hx105_1)).trans hx105_1
              replace hx105_2 := (HB.out.cell (World.block_lt_of_cell? w _ hx105_2)).trans hx105_2
              replace hx105_3 := (HB.out.cell (World.block_lt_of_cell? w _ hx105_3)).trans hx105_3
              replace hx105_4 := (HB.out.cell (World.block_lt_of_cell? w _ hx105_4)).trans hx105_4
              replace hx105_5 := (HB.out.cell (World.block_lt_of_cell? w _ hx105_5)).trans hx105_5
              replace hx105_6 := (HB.out.cell (World.block_lt_of_cell? w _ hx105_6)).trans hx105_6
              replace hx105_7 := (HB.out.cell (World.block_lt_of_cell? w _ hx105_7)).trans hx105_7
              replace hx105_8 := (HB.out.cell (World.block_lt_of_cell? w _ hx105_8)).trans hx105_8
              replace hx105_9 := (HB.out.cell (World.block_lt_of_cell? w _ hx105_9)).trans hx105_9
              replace hx105_10 := (HB.out.cell (World.block_lt_of_cell? w _ hx105_10)).trans hx105_10
              replace hx105_11 := (HB.out.cell (World.block_lt_of_cell? w _ hx105_11)).trans hx105_11
              replace hx105_12 := (HB.out.cell (World.block_lt_of_cell? w _ hx105_12)).trans hx105_12
              replace hx105_13 := (HB.out.cell (World.block_lt_of_cell? w _ hx105_13)).trans hx105_13
              replace hx105_14 := (HB.out.cell (World.block_lt_of_cell? w _ hx105_14)).trans hx105_14
              replace hx105_15 := (HB.out.cell (World.block_lt_of_cell? w _ hx105_15)).trans hx105_15
              replace hx105_16 := (HB.out.cell (World.block_lt_of_cell? w _ hx105_16)).trans hx105_16
              replace hx105_17 := (HB.out.cell (World.block_lt_of_cell? w _ hx105_17)).trans hx105_17
              replace hx105_18 := (HB.out.cell (World.block_lt_of_cell? w _ hx105_18)).trans hx105_18
              replace hx105_19 := (HB.out.cell (World.block_lt_of_cell? w _ hx105_19)).trans hx105_19
              replace hx105_20 := (HB.out.cell (World.block_lt_of_cell? w _ hx105_20)).trans hx105_20
              replace hx105_21 := (HB.out.cell (World.block_lt_of_cell? w _ hx105_21)).trans hx105_21
              have HR105_19 := Aside0.mk hi105_19
              have HC105_19 := Aside0.mk hl105_19
              clear hi105_19 hl105_19
              replace p105 := eq_true p105
              replace q105 := eq_true q105
              go_wp2_with (first | ((with_reducible refine gate_load (t := 54) rfl ?_); refine load_at rfl 54 _ rfl _ rfl _ _ Try.underlying54 rfl (by kernel_rfl) (ee_22 hx105_0 hx105_1 hx105_2 hx105_3 hx105_4 hx105_5 hx105_6 hx105_7 hx105_8 hx105_9 hx105_10 hx105_11 hx105_12 hx105_13 hx105_14 hx105_15 hx105_16 hx105_17 hx105_18 hx105_19 hx105_20 hx105_21) ?_) | ((with_reducible refine gate_callee (f := 26) rfl ?_); refine goesL_ (some 23) rfl rfl Try.func26 (by kernel_rfl) rfl #[.agg #[.int .i64 ((rd_T54 l0 x5_1).f0), .int .i64 ((rd_T54 l0 x5_1).f1), .int .i64 ((rd_T54 l0 x5_1).f2), .int .i64 ((rd_T54 l0 x5_1).f3), .int .i64 ((rd_T54 l0 x5_1).f4.f0), .int .i64 ((rd_T54 l0 x5_1).f4.f1), .int .i64 ((rd_T54 l0 x5_1).f4.f2), .int .i64 ((rd_T54 l0 x5_1).f4.f3), .int .i64 ((rd_T54 l0 x5_1).f4.f4), .int .i64 ((rd_T54 l0 x5_1).f4.f5), .int .i64 ((rd_T54 l0 x5_1).f4.f6), .int .i64 ((rd_T54 l0 x5_1).f5.f0), .int .i64 ((rd_T54 l0 x5_1).f5.f1), .int .i64 ((rd_T54 l0 x5_1).f6.f0), .int .i64 ((rd_T54 l0 x5_1).f6.f1), .int .i64 ((rd_T54 l0 x5_1).f6.f2), .int .i64 ((rd_T54 l0 x5_1).f6.f3), .int .i64 ((rd_T54 l0 x5_1).f6.f4), .bool ((rd_T54 l0 x5_1).f6.f5), .slice A105_19 ((rd_T54 l0 x5_1).f6.f6).length c105_19, .int .i64 ((rd_T54 l0 x5_1).f7), .int .i64 ((rd_T54 l0 x5_1).f8)], .int .i64 x1_1] rfl (by (try simp only [List.map_toArray, List.map_cons, List.map_nil]); first | done | rfl | (simp only [List.length_drop, List.length_take]; rfl)) ?_; (with_reducible refine (laws_szEffect.calls ((rd_T54 l0 x5_1).f0) ((rd_T54 l0 x5_1).f1) ((rd_T54 l0 x5_1).f2) ((rd_T54 l0 x5_1).f3) ((rd_T54 l0 x5_1).f4.f0) ((rd_T54 l0 x5_1).f4.f1) ((rd_T54 l0 x5_1).f4.f2) ((rd_T54 l0 x5_1).f4.f3) ((rd_T54 l0 x5_1).f4.f4) ((rd_T54 l0 x5_1).f4.f5) ((rd_T54 l0 x5_1).f4.f6) ((rd_T54 l0 x5_1).f5.f0) ((rd_T54 l0 x5_1).f5.f1) ((rd_T54 l0 x5_1).f6.f0) ((rd_T54 l0 x5_1).f6.f1) ((rd_T54 l0 x5_1).f6.f2) ((rd_T54 l0 x5_1).f6.f3) ((rd_T54 l0 x5_1).f6.f4) ((rd_T54 l0 x5_1).f6.f5) _ _ ((rd_T54 l0 x5_1).f6.f6) ((rd_T54 l0 x5_1).f7) ((rd_T54 l0 x5_1).f8) x1_1 t106 _ ?side1 ?side2 A6.out).mono ?_); (case side1 => repeat (first | exact (Kd.C_below HR105_19.out HB.out) | (with_reducible refine Kd.C_alloc ?_ _) | (with_reducible refine Kd.C_drewN ?_ _) | (with_reducible refine Kd.C_drew ?_))); (case side2 => exact HC105_19.out); rintro e w9 ⟨rfl, hb⟩; refine ⟨_, rfl, ?_⟩; have n0_ := Aside0.mk (below_step (by repeat (first | (with_reducible first | exact HB.out | apply below_alloc | apply pw_below_drewN | apply below_drew1) | exact HB.out)) hb); clear HB; have HB := n0_; clear n0_; (try clear hb); (try clear hb2); (try clear hk); (try clear hi)))
              go_roundg k1
              case measure => have := HK1.out; omega
              case rel => exact ⟨(t106), (wrap64 (x5_1 + 1)), (by first | rfl | (simp; done) | (simp [*]; done)), (by first | rfl | (simp; done) | (simp [*]; done)), H', ⟨by have := HK1.out; omega⟩, ⟨by repeat (first | (with_reducible first | exact HB.out | apply below_alloc | apply pw_below_drewN | apply below_drew1) | exact HB.out)⟩⟩
          · rw [if_neg c5] at H
            exact absurd H (by simp)
        · rw [if_neg c4] at H
          have c4b0 : decide (x5_1 < (l0.length : Int)) = false := decide_eq_false c4
          clear c4
          obtain rfl := Option.some.inj H
          go_wp2
          go_ret
          exact ⟨by first | rfl | (simp [errW_none, errW_some] <;> rfl) | (simp [*, errW_none, errW_some] <;> rfl), by repeat (first | (with_reducible first | exact HB.out | apply below_alloc | apply pw_below_drewN | apply below_drew1) | exact HB.out)⟩

/-! ### spec_Upto: function 100 -/
def spec_Upto.f (a0 : Int) (a1 : Int) : Option (Int) := if a1 < a0 then (if a1 < 0 then (some 0) else (some a1)) else (if a0 < 0 then (some 0) else (some a0))
set_option maxHeartbeats 8000000 in
set_option maxRecDepth 100000 in
theorem spec_Upto.calls (a0 : Int) (a1 : Int) (r : Int) (w : World) (h : spec_Upto.f a0 a1 = some r) :
    Calls Try.prog 100 #[.int .i64 a0, .int .i64 a1] w fun e w' => e = .returned (.int .i64 r) ∧ Drawn0 w w' := by
  have H : (if a1 < a0 then (if a1 < 0 then (some 0) else (some a1)) else (if a0 < 0 then (some 0) else (some a0))) = some r := h
  clear h
  by_cases c3 : a1 < a0
  · rw [if_pos c3] at H
    have c3b0 : decide (a1 < a0) = true := decide_eq_true c3
    clear c3
    by_cases c4 : a1 < 0
    · rw [if_pos c4] at H
      have c4b0 : decide (a1 < 0) = true := decide_eq_true c4
      clear c4
      obtain rfl := Option.some.inj H
      go_enter Try.func100, Try.ntmps100
      go_wp2
      go_ret
      exact ⟨by first | rfl | (simp; done) | (simp [*]; done), by repeat (first | exact Drawn0.refl _ | apply Drawn0.step)⟩
    · rw [if_neg c4] at H
      have c4b0 : decide (a1 < 0) = false := decide_eq_false c4
      clear c4
      obtain rfl := Option.some.inj H
      go_enter Try.func100, Try.ntmps100
      go_wp2
      go_ret
      exact ⟨by first | rfl | (simp; done) | (simp [*]; done), by repeat (first | exact Drawn0.refl _ | apply Drawn0.step)⟩
  · rw [if_neg c3] at H
    have c3b0 : decide (a1 < a0) = false := decide_eq_false c3
    clear c3
    by_cases c5 : a0 < 0
    · rw [if_pos c5] at H
      have c5b0 : decide (a0 < 0) = true := decide_eq_true c5
      clear c5
      obtain rfl := Option.some.inj H
      go_enter Try.func100, Try.ntmps100
      go_wp2
      go_ret
      exact ⟨by first | rfl | (simp; done) | (simp [*]; done), by repeat (first | exact Drawn0.refl _ | apply Drawn0.step)⟩
    · rw [if_neg c5] at H
      have c5b0 : decide (a0 < 0) = false := decide_eq_false c5
      clear c5
      obtain rfl := Option.some.inj H
      go_enter Try.func100, Try.ntmps100
      go_wp2
      go_ret
      exact ⟨by first | rfl | (simp; done) | (simp [*]; done), by repeat (first | exact Drawn0.refl _ | apply Drawn0.step)⟩

/-! ### spec_Bound: function 122 -/
def spec_Bound.f (a0 : Int) : Option (Int) := if a0 > 2147483647 then (some 2147483647) else (if a0 < (-2147483647) then (some (-2147483647)) else (some a0))
set_option maxHeartbeats 8000000 in
set_option maxRecDepth 100000 in
theorem spec_Bound.calls (a0 : Int) (r : Int) (w : World) (h : spec_Bound.f a0 = some r) :
    Calls Try.prog 122 #[.int .i64 a0] w fun e w' => e = .returned (.int .i64 r) ∧ Drawn0 w w' := by
  have H : (if a0 > 2147483647 then (some 2147483647) else (if a0 < (-2147483647) then (some (-2147483647)) else (some a0))) = some r := h
  clear h
  by_cases c2 : a0 > 2147483647
  · rw [if_pos c2] at H
    have c2b0 : decide (2147483647 < a0) = true := decide_eq_true c2
    clear c2
    obtain rfl := Option.some.inj H
    go_enter Try.func122, Try.ntmps122
    go_wp2
    go_ret
    exact ⟨by first | rfl | (simp; done) | (simp [*]; done), by repeat (first | exact Drawn0.refl _ | apply Drawn0.step)⟩
  · rw [if_neg c2] at H
    have c2b0 : decide (2147483647 < a0) = false := decide_eq_false c2
    clear c2
    by_cases c3 : a0 < (-2147483647)
    · rw [if_pos c3] at H
      have c3b0 : decide (a0 < (-2147483647)) = true := decide_eq_true c3
      clear c3
      obtain rfl := Option.some.inj H
      go_enter Try.func122, Try.ntmps122
      go_wp2
      go_ret
      exact ⟨by first | rfl | (simp; done) | (simp [*]; done), by repeat (first | exact Drawn0.refl _ | apply Drawn0.step)⟩
    · rw [if_neg c3] at H
      have c3b0 : decide (a0 < (-2147483647)) = false := decide_eq_false c3
      clear c3
      obtain rfl := Option.some.inj H
      go_enter Try.func122, Try.ntmps122
      go_wp2
      go_ret
      exact ⟨by first | rfl | (simp; done) | (simp [*]; done), by repeat (first | exact Drawn0.refl _ | apply Drawn0.step)⟩

/-! ### spec_Power: function 90 -/
def spec_Power.l0 : Nat → Int → Int → Int → Int → Option (Int)
  | 0, _, _, _, _ => none
  | k + 1, x1, x5, x6, x7 => if x7 < x1 then (if x7 < 64 then ((spec_Bound.f (wrap64 (x6 * x5))).bind fun t108 => (spec_Power.l0 k x1 x5 t108 (wrap64 (x7 + 1)))) else (some x6)) else (some x6)
def spec_Power.f (k : Nat) (a0 : Int) (a1 : Int) : Option (Int) := (spec_Upto.f a0 2147483647).bind fun t107 => (spec_Power.l0 k a1 t107 1 0)
theorem spec_Power.mono_l : ∀ k, (∀ y0 y1 y2 y3, LeO (spec_Power.l0 k y0 y1 y2 y3) (spec_Power.l0 (k + 1) y0 y1 y2 y3))
  | 0 => fun _ _ _ _ r h => by simp [spec_Power.l0] at h
  | k + 1 => by
    have ih0 := spec_Power.mono_l k
    · intro y0 y1 y2 y3
      unfold spec_Power.l0
      repeat' first
      | (with_reducible exact ih0 _ _ _ _)
      | (with_reducible exact LeO.refl _)
      | (with_reducible exact LeO.none _)
      | (with_reducible refine LeO.ite ?_ ?_)
      | (with_reducible refine LeO.bind ?_ (fun _ => ?_))
      | exact ih0 _ _ _ _
      | exact LeO.none _
      | refine LeO.ite ?_ ?_
      | refine LeO.bind ?_ (fun _ => ?_)
theorem spec_Power.mono : ∀ a0 a1 k, LeO (spec_Power.f k a0 a1) (spec_Power.f (k + 1) a0 a1) := by
  intro a0 a1 k
  have ih0 := spec_Power.mono_l k
  unfold spec_Power.f
  repeat' first
      | (with_reducible exact ih0 _ _ _ _)
      | (with_reducible exact LeO.refl _)
      | (with_reducible exact LeO.none _)
      | (with_reducible refine LeO.ite ?_ ?_)
      | (with_reducible refine LeO.bind ?_ (fun _ => ?_))
      | exact ih0 _ _ _ _
      | exact LeO.none _
      | refine LeO.ite ?_ ?_
      | refine LeO.bind ?_ (fun _ => ?_)
set_option maxHeartbeats 8000000 in
set_option maxRecDepth 100000 in
theorem spec_Power.calls (k : Nat) (a0 : Int) (a1 : Int) (r : Int) (w : World) (h : spec_Power.f k a0 a1 = some r) :
    Calls Try.prog 90 #[.int .i64 a0, .int .i64 a1] w fun e w' => e = .returned (.int .i64 r) ∧ Drawn0 w w' := by
  have H : ((spec_Upto.f a0 2147483647).bind fun t107 => (spec_Power.l0 k a1 t107 1 0)) = some r := h
  clear h
  replace H := Option.bind_eq_some_iff.mp H
  obtain ⟨t107, A30, H⟩ := H
  replace H : (spec_Power.l0 k a1 t107 1 0) = some r := H
  have A3 := Aside0.mk A30
  clear A30
  have H' := Aside0.mk H
  clear H
  go_enter Try.func90, Try.ntmps90
  go_wp2_with (first | ((with_reducible refine gate_callee (f := 100) rfl ?_); refine goesL_ (some 9) rfl rfl Try.func100 (by kernel_rfl) rfl #[.int .i64 a0, .int .i64 2147483647] rfl (by (try simp only [List.map_toArray, List.map_cons, List.map_nil]); first | done | rfl | (simp only [List.length_drop, List.length_take]; rfl)) ?_; (with_reducible refine (spec_Upto.calls a0 2147483647 t107 _ A3.out).mono ?_); rintro e w' ⟨rfl, ⟨nd, rfl⟩⟩; refine ⟨_, rfl, ?_⟩))
  go_loopg [6, 7] k (fun kq v6 v7 w' => ∃ (x6_1 : Int) (x7_1 : Int), v6 = .int .i64 x6_1 ∧ v7 = .int .i64 x7_1 ∧ Aside0 (spec_Power.l0 kq a1 t107 x6_1 x7_1 = some r) ∧ Aside0 (kq ≤ k) ∧ Drawn0 w w')
  case atStart => exact ⟨(1), (0), (by first | rfl | (simp; done) | (simp [*]; done)), (by first | rfl | (simp; done) | (simp [*]; done)), H', ⟨Nat.le_refl _⟩, by repeat (first | exact Drawn0.refl _ | apply Drawn0.step)⟩
  case round =>
    clear H'
    try clear c1
    try clear p2
    obtain ⟨x6_1, x7_1, rfl, rfl, HA, HK1, ⟨m1, rfl⟩⟩ := hrel
    cases gk with
    | zero => exact absurd HA.out (by simp [spec_Power.l0])
    | succ k1 =>
      have H := HA.out
      clear HA
      simp only [spec_Power.l0] at H
      by_cases c4 : x7_1 < a1
      · rw [if_pos c4] at H
        have c4b0 : decide (x7_1 < a1) = true := decide_eq_true c4
        clear c4
        by_cases c5 : x7_1 < 64
        · rw [if_pos c5] at H
          have c5b0 : decide (x7_1 < 64) = true := decide_eq_true c5
          clear c5
          replace H := Option.bind_eq_some_iff.mp H
          obtain ⟨t108, A60, H⟩ := H
          replace H : (spec_Power.l0 k1 a1 t107 t108 (wrap64 (x7_1 + 1))) = some r := H
          have A6 := Aside0.mk A60
          clear A60
          have H' := Aside0.mk H
          clear H
          go_wp2_with (first | ((with_reducible refine gate_callee (f := 122) rfl ?_); refine goesL_ (some 22) rfl rfl Try.func122 (by kernel_rfl) rfl #[.int .i64 (wrap64 (x6_1 * t107))] rfl (by (try simp only [List.map_toArray, List.map_cons, List.map_nil]); first | done | rfl | (simp only [List.length_drop, List.length_take]; rfl)) ?_; (with_reducible refine (spec_Bound.calls (wrap64 (x6_1 * t107)) t108 _ A6.out).mono ?_); rintro e w' ⟨rfl, ⟨nd, rfl⟩⟩; refine ⟨_, rfl, ?_⟩))
          go_roundg k1
          case measure => have := HK1.out; omega
          case rel => exact ⟨(t108), (wrap64 (x7_1 + 1)), (by first | rfl | (simp; done) | (simp [*]; done)), (by first | rfl | (simp; done) | (simp [*]; done)), H', ⟨by have := HK1.out; omega⟩, by repeat (first | exact Drawn0.refl _ | apply Drawn0.step)⟩
        · rw [if_neg c5] at H
          have c5b0 : decide (x7_1 < 64) = false := decide_eq_false c5
          clear c5
          obtain rfl := Option.some.inj H
          go_wp2
          go_ret
          exact ⟨by first | rfl | (simp; done) | (simp [*]; done), by repeat (first | exact Drawn0.refl _ | apply Drawn0.step)⟩
      · rw [if_neg c4] at H
        have c4b0 : decide (x7_1 < a1) = false := decide_eq_false c4
        clear c4
        obtain rfl := Option.some.inj H
        go_wp2
        go_ret
        exact ⟨by first | rfl | (simp; done) | (simp [*]; done), by repeat (first | exact Drawn0.refl _ | apply Drawn0.step)⟩

/-! ### spec_Usable: function 91 -/
def spec_Usable.l0 : Nat → List (S63) → Int → Int → Option (Int)
  | 0, _, _, _ => none
  | k + 1, x0, x3, x4 => if x4 < (x0.length : Int) then (if 0 ≤ x4 then (if ((rd_T63 x0 x4).f8) = 0 then (spec_Usable.l0 k x0 x3 (wrap64 (x4 + 1))) else (spec_Usable.l0 k x0 (wrap64 (x3 + 1)) (wrap64 (x4 + 1)))) else (none)) else (some x3)
def spec_Usable.f (k : Nat) (l0 : List (S63)) : Option (Int) := spec_Usable.l0 k l0 0 0
theorem spec_Usable.mono_l : ∀ k, (∀ y0 y1 y2, LeO (spec_Usable.l0 k y0 y1 y2) (spec_Usable.l0 (k + 1) y0 y1 y2))
  | 0 => fun _ _ _ r h => by simp [spec_Usable.l0] at h
  | k + 1 => by
    have ih0 := spec_Usable.mono_l k
    · intro y0 y1 y2
      unfold spec_Usable.l0
      repeat' first
      | (with_reducible exact ih0 _ _ _)
      | (with_reducible exact LeO.refl _)
      | (with_reducible exact LeO.none _)
      | (with_reducible refine LeO.ite ?_ ?_)
      | (with_reducible refine LeO.bind ?_ (fun _ => ?_))
      | exact ih0 _ _ _
      | exact LeO.none _
      | refine LeO.ite ?_ ?_
      | refine LeO.bind ?_ (fun _ => ?_)
theorem spec_Usable.mono : ∀ a0 k, LeO (spec_Usable.f k a0) (spec_Usable.f (k + 1) a0) := by
  intro a0 k
  have ih0 := spec_Usable.mono_l k
  unfold spec_Usable.f
  repeat' first
      | (with_reducible exact ih0 _ _ _)
      | (with_reducible exact LeO.refl _)
      | (with_reducible exact LeO.none _)
      | (with_reducible refine LeO.ite ?_ ?_)
      | (with_reducible refine LeO.bind ?_ (fun _ => ?_))
      | exact ih0 _ _ _
      | exact LeO.none _
      | refine LeO.ite ?_ ?_
      | refine LeO.bind ?_ (fun _ => ?_)
set_option maxHeartbeats 8000000 in
set_option maxRecDepth 100000 in
theorem spec_Usable.calls (k : Nat) (A0 : Option Addr) (c0 : Nat) (l0 : List (S63)) (r : Int) (w : World) (hr0 : Kd.C k63 w A0 l0.length l0) (hc0 : l0.length ≤ c0) (h : spec_Usable.f k l0 = some r) :
    Calls Try.prog 91 #[.slice A0 l0.length c0] w fun e w' => e = .returned (.int .i64 r) ∧ Drawn0 w w' := by
  have HR0 := Aside0.mk hr0
  have HC0 := Aside0.mk hc0
  clear hr0 hc0
  have H : (spec_Usable.l0 k l0 0 0) = some r := h
  clear h
  have H' := Aside0.mk H
  clear H
  go_enter Try.func91, Try.ntmps91
  go_wp2
  go_loopg [3, 4] k (fun kq v3 v4 w' => ∃ (x3_1 : Int) (x4_1 : Int), v3 = .int .i64 x3_1 ∧ v4 = .int .i64 x4_1 ∧ Aside0 (spec_Usable.l0 kq l0 x3_1 x4_1 = some r) ∧ Aside0 (kq ≤ k) ∧ Drawn0 w w')
  case atStart => exact ⟨(0), (0), (by first | rfl | (simp; done) | (simp [*]; done)), (by first | rfl | (simp; done) | (simp [*]; done)), H', ⟨Nat.le_refl _⟩, by repeat (first | exact Drawn0.refl _ | apply Drawn0.step)⟩
  case round =>
    clear H'
    obtain ⟨x3_1, x4_1, rfl, rfl, HA, HK1, ⟨m1, rfl⟩⟩ := hrel
    cases gk with
    | zero => exact absurd HA.out (by simp [spec_Usable.l0])
    | succ k1 =>
      have H := HA.out
      clear HA
      simp only [spec_Usable.l0] at H
      by_cases c2 : x4_1 < (l0.length : Int)
      · rw [if_pos c2] at H
        have c2b0 : decide (x4_1 < (l0.length : Int)) = true := decide_eq_true c2
        clear c2
        by_cases c3 : 0 ≤ x4_1
        · rw [if_pos c3] at H
          have c3b0 : decide (0 ≤ x4_1) = true := decide_eq_true c3
          clear c3
          by_cases c4 : ((rd_T63 l0 x4_1).f8) = 0
          · rw [if_pos c4] at H
            have c4b0 : (((rd_T63 l0 x4_1).f8) == 0) = true := beq_iff_eq.mpr c4
            have c4b1 : (((rd_T63 l0 x4_1).f8) != 0) = false := bne_eq_false_iff_eq.mpr c4
            clear c4
            have H' := Aside0.mk H
            clear H
            have p109 : 0 ≤ (x4_1 : Int) := of_decide_eq_true (by first | (with_reducible assumption) | assumption)
            have q109 : x4_1 < (l0.length : Int) := of_decide_eq_true (by first | (with_reducible assumption) | assumption)
            obtain ⟨ad109, A109_19, c109_19, e109, hx109_0, hx109_1, hx109_2, hx109_3, hx109_4, hx109_5, hx109_6, hx109_7, hx109_8, hx109_9, hx109_10, hx109_11, hx109_12, hx109_13, hx109_14, hx109_15, hx109_16, hx109_17, hx109_18, hx109_19, hx109_20, hx109_21, hl109_19, hi109_19⟩ := at_T63 HR0.out x4_1 p109 q109
            cases e109
            have HR109_19 := Aside0.mk hi109_19
            have HC109_19 := Aside0.mk hl109_19
            clear hi109_19 hl109_19
            replace p109 := eq_true p109
            replace q109 := eq_true q109
            go_wp2_with (first | ((with_reducible refine gate_load (t := 63) rfl ?_); refine load_at rfl 63 _ rfl _ rfl _ _ Try.underlying63 rfl (by kernel_rfl) (ee_22 hx109_0 hx109_1 hx109_2 hx109_3 hx109_4 hx109_5 hx109_6 hx109_7 hx109_8 hx109_9 hx109_10 hx109_11 hx109_12 hx109_13 hx109_14 hx109_15 hx109_16 hx109_17 hx109_18 hx109_19 hx109_20 hx109_21) ?_))
            go_roundg k1
            case measure => have := HK1.out; omega
            case rel => exact ⟨(x3_1), (wrap64 (x4_1 + 1)), (by first | rfl | (simp; done) | (simp [*]; done)), (by first | rfl | (simp; done) | (simp [*]; done)), H', ⟨by have := HK1.out; omega⟩, by repeat (first | exact Drawn0.refl _ | apply Drawn0.step)⟩
          · rw [if_neg c4] at H
            have c4b0 : (((rd_T63 l0 x4_1).f8) == 0) = false := beq_eq_false_iff_ne.mpr c4
            have c4b1 : (((rd_T63 l0 x4_1).f8) != 0) = true := bne_iff_ne.mpr c4
            have H' := Aside0.mk H
            clear H
            have p109 : 0 ≤ (x4_1 : Int) := of_decide_eq_true (by first | (with_reducible assumption) | assumption)
            have q109 : x4_1 < (l0.length : Int) := of_decide_eq_true (by first | (with_reducible assumption) | assumption)
            obtain ⟨ad109, A109_19, c109_19, e109, hx109_0, hx109_1, hx109_2, hx109_3, hx109_4, hx109_5, hx109_6, hx109_7, hx109_8, hx109_9, hx109_10, hx109_11, hx109_12, hx109_13, hx109_14, hx109_15, hx109_16, hx109_17, hx109_18, hx109_19, hx109_20, hx109_21, hl109_19, hi109_19⟩ := at_T63 HR0.out x4_1 p109 q109
            cases e109
            have HR109_19 := Aside0.mk hi109_19
            have HC109_19 := Aside0.mk hl109_19
            clear hi109_19 hl109_19
            replace p109 := eq_true p109
            replace q109 := eq_true q109
            go_wp2_with (first | ((with_reducible refine gate_load (t := 63) rfl ?_); refine load_at rfl 63 _ rfl _ rfl _ _ Try.underlying63 rfl (by kernel_rfl) (ee_22 hx109_0 hx109_1 hx109_2 hx109_3 hx109_4 hx109_5 hx109_6 hx109_7 hx109_8 hx109_9 hx109_10 hx109_11 hx109_12 hx109_13 hx109_14 hx109_15 hx109_16 hx109_17 hx109_18 hx109_19 hx109_20 hx109_21) ?_))
            go_roundg k1
            case measure => have := HK1.out; omega
            case rel => exact ⟨(wrap64 (x3_1 + 1)), (wrap64 (x4_1 + 1)), (by first | rfl | (simp; done) | (simp [*]; done)), (by first | rfl | (simp; done) | (simp [*]; done)), H', ⟨by have := HK1.out; omega⟩, by repeat (first | exact Drawn0.refl _ | apply Drawn0.step)⟩
        · rw [if_neg c3] at H
          exact absurd H (by simp)
      · rw [if_neg c2] at H
        have c2b0 : decide (x4_1 < (l0.length : Int)) = false := decide_eq_false c2
        clear c2
        obtain rfl := Option.some.inj H
        go_wp2
        go_ret
        exact ⟨by first | rfl | (simp; done) | (simp [*]; done), by repeat (first | exact Drawn0.refl _ | apply Drawn0.step)⟩

/-! ### spec_MostLeft: function 33 -/
def spec_MostLeft.f (k : Nat) (l0 : List (S63)) : Option (Int) := (spec_Usable.f k l0).bind fun t110 => ((spec_Power.f k 3 t110).bind fun t111 => (some t111))
theorem spec_MostLeft.mono : ∀ a0 k, LeO (spec_MostLeft.f k a0) (spec_MostLeft.f (k + 1) a0) := by
  intro a0 k
  unfold spec_MostLeft.f
  repeat' first
      | (with_reducible exact spec_Power.mono _ _ _)
      | (with_reducible exact spec_Usable.mono _ _)
      | (with_reducible exact LeO.refl _)
      | (with_reducible exact LeO.none _)
      | (with_reducible refine LeO.ite ?_ ?_)
      | (with_reducible refine LeO.bind ?_ (fun _ => ?_))
      | exact spec_Power.mono _ _ _
      | exact spec_Usable.mono _ _
      | exact LeO.none _
      | refine LeO.ite ?_ ?_
      | refine LeO.bind ?_ (fun _ => ?_)
set_option maxHeartbeats 8000000 in
set_option maxRecDepth 100000 in
theorem spec_MostLeft.calls (k : Nat) (A0 : Option Addr) (c0 : Nat) (l0 : List (S63)) (r : Int) (w : World) (hr0 : Kd.C k63 w A0 l0.length l0) (hc0 : l0.length ≤ c0) (h : spec_MostLeft.f k l0 = some r) :
    Calls Try.prog 33 #[.slice A0 l0.length c0] w fun e w' => e = .returned (.int .i64 r) ∧ Drawn0 w w' := by
  have HR0 := Aside0.mk hr0
  have HC0 := Aside0.mk hc0
  clear hr0 hc0
  have H : ((spec_Usable.f k l0).bind fun t110 => ((spec_Power.f k 3 t110).bind fun t111 => (some t111))) = some r := h
  clear h
  replace H := Option.bind_eq_some_iff.mp H
  obtain ⟨t110, A20, H⟩ := H
  replace H : ((spec_Power.f k 3 t110).bind fun t111 => (some t111)) = some r := H
  have A2 := Aside0.mk A20
  clear A20
  replace H := Option.bind_eq_some_iff.mp H
  obtain ⟨t111, A30, H⟩ := H
  replace H : (some t111) = some r := H
  have A3 := Aside0.mk A30
  clear A30
  obtain rfl := Option.some.inj H
  go_enter Try.func33, Try.ntmps33
  go_wp2_with (first | ((with_reducible refine gate_callee (f := 91) rfl ?_); refine goesL_ (some 4) rfl rfl Try.func91 (by kernel_rfl) rfl #[.slice A0 l0.length c0] rfl (by (try simp only [List.map_toArray, List.map_cons, List.map_nil]); first | done | rfl | (simp only [List.length_drop, List.length_take]; rfl)) ?_; (with_reducible refine (spec_Usable.calls k _ _ l0 t110 _ ?side1 ?side2 A2.out).mono ?_); (case side1 => repeat (first | exact HR0.out | (with_reducible refine Kd.C_alloc ?_ _) | (with_reducible refine Kd.C_drewN ?_ _) | (with_reducible refine Kd.C_drew ?_))); (case side2 => exact HC0.out); rintro e w' ⟨rfl, ⟨nd, rfl⟩⟩; refine ⟨_, rfl, ?_⟩) | ((with_reducible refine gate_callee (f := 90) rfl ?_); refine goesL_ (some 5) rfl rfl Try.func90 (by kernel_rfl) rfl #[.int .i64 3, .int .i64 t110] rfl (by (try simp only [List.map_toArray, List.map_cons, List.map_nil]); first | done | rfl | (simp only [List.length_drop, List.length_take]; rfl)) ?_; (with_reducible refine (spec_Power.calls k 3 t110 t111 _ A3.out).mono ?_); rintro e w' ⟨rfl, ⟨nd, rfl⟩⟩; refine ⟨_, rfl, ?_⟩))
  go_ret
  exact ⟨by first | rfl | (simp; done) | (simp [*]; done), by repeat (first | exact Drawn0.refl _ | apply Drawn0.step)⟩

/-! ### laws_toPat: function 81 -/
def laws_toPat.f (a0_0 : Int) (a0_1 : Int) (a0_2 : Int) (a0_3 : Int) (a0_4 : Int) (a0_5 : Int) (a0_6 : Int) : Option (Int × Int × Int × Int × Int × Int × Int) := some (a0_0, a0_1, a0_2, a0_3, a0_4, a0_5, a0_6)
set_option maxHeartbeats 8000000 in
set_option maxRecDepth 100000 in
theorem laws_toPat.calls (a0_0 : Int) (a0_1 : Int) (a0_2 : Int) (a0_3 : Int) (a0_4 : Int) (a0_5 : Int) (a0_6 : Int) (r1 : Int) (r2 : Int) (r3 : Int) (r4 : Int) (r5 : Int) (r6 : Int) (r7 : Int) (w : World) (h : laws_toPat.f a0_0 a0_1 a0_2 a0_3 a0_4 a0_5 a0_6 = some (r1, r2, r3, r4, r5, r6, r7)) :
    Calls Try.prog 81 #[.agg #[.int .i64 a0_0, .int .i64 a0_1, .int .i64 a0_2, .int .i64 a0_3, .int .i64 a0_4, .int .i64 a0_5, .int .i64 a0_6]] w fun e w' => e = .returned (.agg #[.int .i64 r1, .int .i64 r2, .int .i64 r3, .int .i64 r4, .int .i64 r5, .int .i64 r6, .int .i64 r7]) ∧ Below w.heap.size w w' := by
  have hu47 := Try.underlying47
  have hu57 := Try.underlying57
  have HB := Aside0.mk (Below.refl w.heap.size w)
  have H : (some (a0_0, a0_1, a0_2, a0_3, a0_4, a0_5, a0_6)) = some (r1, r2, r3, r4, r5, r6, r7) := h
  clear h
  simp only [Option.some.injEq, Prod.mk.injEq] at H
  obtain ⟨rfl, rfl, rfl, rfl, rfl, rfl, rfl⟩ := H
  go_enter Try.func81, Try.ntmps81
  go_wp2_with (first | ((with_reducible refine gate_load (t := 3) rfl ?_); refine bx_load rfl _ (by rfl) gb112 _ (by rfl) BK112.out _ Try.underlying3 rfl _ (by rfl) ?_) | ((with_reducible refine gate_load (t := 47) rfl ?_); refine load_box rfl 47 _ rfl gb112 rfl Try.underlying47 rfl BK112.out (by kernel_rfl) ?_) | ((with_reducible refine gate_load (t := 3) rfl ?_); refine bx_load rfl _ (by rfl) gb113 _ (by rfl) BK113.out _ Try.underlying3 rfl _ (by rfl) ?_) | ((with_reducible refine gate_load (t := 57) rfl ?_); refine load_box rfl 57 _ rfl gb113 rfl Try.underlying57 rfl BK113.out (by kernel_rfl) ?_) | ((with_reducible refine gate_load (t := 3) rfl ?_); refine bx_load rfl _ (by rfl) gb114 _ (by rfl) BK114.out _ Try.underlying3 rfl _ (by rfl) ?_) | ((with_reducible refine gate_load (t := 57) rfl ?_); refine load_box rfl 57 _ rfl gb114 rfl Try.underlying57 rfl BK114.out (by kernel_rfl) ?_) | ((with_reducible refine gate_st (t := 3) rfl ?_); refine bx_store rfl rfl _ _ (by rfl) gb112 _ (by rfl) BK112.out [_] (by rfl) (by kernel_rfl) (by exact Nat.le_of_ble_eq_true rfl) (by first | exact oo_1 rfl) ?_; intro w_ hbk_ hg_; simp only [List.take_succ_cons, List.take_zero, List.drop_succ_cons, List.drop_zero, List.cons_append, List.nil_append, List.length_cons, List.length_nil, Nat.reduceAdd] at hbk_; have hlt_ := blk_lt BK112.out; (try (have nc_ := Aside0.mk (bx_other BK113.out hg_ NB113_112.out); clear BK113; have BK113 := nc_; clear nc_)); (try (have nc_ := Aside0.mk (bx_other BK114.out hg_ NB114_112.out); clear BK114; have BK114 := nc_; clear nc_)); have nb_ := Aside0.mk hbk_; have nh_ := Aside0.mk (bx_below HB.out hg_ GE112.out hlt_); clear BK112 HB; have BK112 := nb_; have HB := nh_; clear nb_ nh_ hbk_ hg_ hlt_) | ((with_reducible refine gate_st (t := 47) rfl ?_); refine bx_store rfl rfl _ _ (by rfl) gb112 0 (by rfl) BK112.out _ (by rfl) (by kernel_rfl) (by exact Nat.le_of_ble_eq_true rfl) (by exact oo_7 rfl rfl rfl rfl rfl rfl rfl) ?_; intro w_ hbk_ hg_; simp only [List.take_succ_cons, List.take_zero, List.drop_succ_cons, List.drop_zero, List.cons_append, List.nil_append, List.length_cons, List.length_nil, Nat.reduceAdd] at hbk_; have hlt_ := blk_lt BK112.out; (try (have nc_ := Aside0.mk (bx_other BK113.out hg_ NB113_112.out); clear BK113; have BK113 := nc_; clear nc_)); (try (have nc_ := Aside0.mk (bx_other BK114.out hg_ NB114_112.out); clear BK114; have BK114 := nc_; clear nc_)); have nb_ := Aside0.mk hbk_; have nh_ := Aside0.mk (bx_below HB.out hg_ GE112.out hlt_); clear BK112 HB; have BK112 := nb_; have HB := nh_; clear nb_ nh_ hbk_ hg_ hlt_) | ((with_reducible refine gate_st (t := 3) rfl ?_); refine bx_store rfl rfl _ _ (by rfl) gb113 _ (by rfl) BK113.out [_] (by rfl) (by kernel_rfl) (by exact Nat.le_of_ble_eq_true rfl) (by first | exact oo_1 rfl) ?_; intro w_ hbk_ hg_; simp only [List.take_succ_cons, List.take_zero, List.drop_succ_cons, List.drop_zero, List.cons_append, List.nil_append, List.length_cons, List.length_nil, Nat.reduceAdd] at hbk_; have hlt_ := blk_lt BK113.out; (try (have nc_ := Aside0.mk (bx_other BK112.out hg_ NB112_113.out); clear BK112; have BK112 := nc_; clear nc_)); (try (have nc_ := Aside0.mk (bx_other BK114.out hg_ NB114_113.out); clear BK114; have BK114 := nc_; clear nc_)); have nb_ := Aside0.mk hbk_; have nh_ := Aside0.mk (bx_below HB.out hg_ GE113.out hlt_); clear BK113 HB; have BK113 := nb_; have HB := nh_; clear nb_ nh_ hbk_ hg_ hlt_) | ((with_reducible refine gate_st (t := 57) rfl ?_); refine bx_store rfl rfl _ _ (by rfl) gb113 0 (by rfl) BK113.out _ (by rfl) (by kernel_rfl) (by exact Nat.le_of_ble_eq_true rfl) (by exact oo_7 rfl rfl rfl rfl rfl rfl rfl) ?_; intro w_ hbk_ hg_; simp only [List.take_succ_cons, List.take_zero, List.drop_succ_cons, List.drop_zero, List.cons_append, List.nil_append, List.length_cons, List.length_nil, Nat.reduceAdd] at hbk_; have hlt_ := blk_lt BK113.out; (try (have nc_ := Aside0.mk (bx_other BK112.out hg_ NB112_113.out); clear BK112; have BK112 := nc_; clear nc_)); (try (have nc_ := Aside0.mk (bx_other BK114.out hg_ NB114_113.out); clear BK114; have BK114 := nc_; clear nc_)); have nb_ := Aside0.mk hbk_; have nh_ := Aside0.mk (bx_below HB.out hg_ GE113.out hlt_); clear BK113 HB; have BK113 := nb_; have HB := nh_; clear nb_ nh_ hbk_ hg_ hlt_) | ((with_reducible refine gate_st (t := 3) rfl ?_); refine bx_store rfl rfl _ _ (by rfl) gb114 _ (by rfl) BK114.out [_] (by rfl) (by kernel_rfl) (by exact Nat.le_of_ble_eq_true rfl) (by first | exact oo_1 rfl) ?_; intro w_ hbk_ hg_; simp only [List.take_succ_cons, List.take_zero, List.drop_succ_cons, List.drop_zero, List.cons_append, List.nil_append, List.length_cons, List.length_nil, Nat.reduceAdd] at hbk_; have hlt_ := blk_lt BK114.out; (try (have nc_ := Aside0.mk (bx_other BK112.out hg_ NB112_114.out); clear BK112; have BK112 := nc_; clear nc_)); (try (have nc_ := Aside0.mk (bx_other BK113.out hg_ NB113_114.out); clear BK113; have BK113 := nc_; clear nc_)); have nb_ := Aside0.mk hbk_; have nh_ := Aside0.mk (bx_below HB.out hg_ GE114.out hlt_); clear BK114 HB; have BK114 := nb_; have HB := nh_; clear nb_ nh_ hbk_ hg_ hlt_) | ((with_reducible refine gate_st (t := 57) rfl ?_); refine bx_store rfl rfl _ _ (by rfl) gb114 0 (by rfl) BK114.out _ (by rfl) (by kernel_rfl) (by exact Nat.le_of_ble_eq_true rfl) (by exact oo_7 rfl rfl rfl rfl rfl rfl rfl) ?_; intro w_ hbk_ hg_; simp only [List.take_succ_cons, List.take_zero, List.drop_succ_cons, List.drop_zero, List.cons_append, List.nil_append, List.length_cons, List.length_nil, Nat.reduceAdd] at hbk_; have hlt_ := blk_lt BK114.out; (try (have nc_ := Aside0.mk (bx_other BK112.out hg_ NB112_114.out); clear BK112; have BK112 := nc_; clear nc_)); (try (have nc_ := Aside0.mk (bx_other BK113.out hg_ NB113_114.out); clear BK113; have BK113 := nc_; clear nc_)); have nb_ := Aside0.mk hbk_; have nh_ := Aside0.mk (bx_below HB.out hg_ GE114.out hlt_); clear BK114 HB; have BK114 := nb_; have HB := nh_; clear nb_ nh_ hbk_ hg_ hlt_) | ((with_reducible refine gate_dst (N := 1) rfl ?_); refine box_event ?hg (N := 1) ?hd (cs := #[.int .i64 a0_0, .int .i64 a0_1, .int .i64 a0_2, .int .i64 a0_3, .int .i64 a0_4, .int .i64 a0_5, .int .i64 a0_6]) (t := 47) ?hr ?_; (case hd => rfl); (case hg => rfl); (case hr => first | (go_simp; done) | (go_simp; rfl)); intro gb112 hg w2 hbox hb; have n0_ := Aside0.mk (below_step (by repeat (first | (with_reducible first | exact HB.out | apply below_alloc | apply pw_below_drewN | apply below_drew1) | exact HB.out)) hb); have n1_ := Aside0.mk (hbox); have n2_ := Aside0.mk ((by rw [hg]; exact (below_size (by repeat (first | (with_reducible first | exact HB.out | apply below_alloc | apply pw_below_drewN | apply below_drew1) | exact HB.out))) : w.heap.size ≤ gb112)); have n3_ := n2_; clear HB; have HB := n0_; have BK112 := n1_; have GW112 := n2_; have GE112 := n3_; clear n0_ n1_ n2_ n3_; clear hb hbox hg) | ((with_reducible refine gate_dst (N := 2) rfl ?_); refine box_event ?hg (N := 2) ?hd (cs := #[.int .i64 0, .int .i64 0, .int .i64 0, .int .i64 0, .int .i64 0, .int .i64 0, .int .i64 0]) (t := 57) ?hr ?_; (case hd => rfl); (case hg => rfl); (case hr => first | (go_simp; done) | (go_simp; rfl)); intro gb113 hg w3 hbox hb; have n0_ := Aside0.mk (blk_below BK112.out hb); have n1_ := Aside0.mk (below_step (by repeat (first | (with_reducible first | exact HB.out | apply below_alloc | apply pw_below_drewN | apply below_drew1 | refine below_set ?_ GE112.out) | exact HB.out)) hb); have n2_ := Aside0.mk (hbox); have n3_ := Aside0.mk ((by rw [hg]; exact (below_size (by repeat (first | (with_reducible first | exact HB.out | apply below_alloc | apply pw_below_drewN | apply below_drew1 | refine below_set ?_ GE112.out) | exact HB.out))) : w.heap.size ≤ gb113)); have n4_ := n3_; have n5_ := Aside0.mk ((by rw [hg]; exact Nat.ne_of_lt (blk_lt BK112.out) : gb112 ≠ gb113)); have n6_ := Aside0.mk ((by rw [hg]; exact Nat.ne_of_gt (blk_lt BK112.out) : gb113 ≠ gb112)); clear BK112; clear HB; have BK112 := n0_; have HB := n1_; have BK113 := n2_; have GW113 := n3_; have GE113 := n4_; have NB112_113 := n5_; have NB113_112 := n6_; clear n0_ n1_ n2_ n3_ n4_ n5_ n6_; clear hb hbox hg) | ((with_reducible refine gate_dst (N := 3) rfl ?_); refine box_event ?hg (N := 3) ?hd (cs := #[.int .i64 0, .int .i64 0, .int .i64 0, .int .i64 0, .int .i64 0, .int .i64 0, .int .i64 0]) (t := 57) ?hr ?_; (case hd => rfl); (case hg => rfl); (case hr => first | (go_simp; done) | (go_simp; rfl)); intro gb114 hg w4 hbox hb; have n0_ := Aside0.mk (blk_below BK112.out hb); have n1_ := Aside0.mk (blk_below BK113.out hb); have n2_ := Aside0.mk (below_step (by repeat (first | (with_reducible first | exact HB.out | apply below_alloc | apply pw_below_drewN | apply below_drew1 | refine below_set ?_ GE112.out | refine below_set ?_ GE113.out) | exact HB.out)) hb); have n3_ := Aside0.mk (hbox); have n4_ := Aside0.mk ((by rw [hg]; exact (below_size (by repeat (first | (with_reducible first | exact HB.out | apply below_alloc | apply pw_below_drewN | apply below_drew1 | refine below_set ?_ GE112.out | refine below_set ?_ GE113.out) | exact HB.out))) : w.heap.size ≤ gb114)); have n5_ := n4_; have n6_ := Aside0.mk ((by rw [hg]; exact Nat.ne_of_lt (blk_lt BK112.out) : gb112 ≠ gb114)); have n7_ := Aside0.mk ((by rw [hg]; exact Nat.ne_of_gt (blk_lt BK112.out) : gb114 ≠ gb112)); have n8_ := Aside0.mk ((by rw [hg]; exact Nat.ne_of_lt (blk_lt BK113.out) : gb113 ≠ gb114)); have n9_ := Aside0.mk ((by rw [hg]; exact Nat.ne_of_gt (blk_lt BK113.out) : gb114 ≠ gb113)); clear BK112; clear BK113; clear HB; have BK112 := n0_; have BK113 := n1_; have HB := n2_; have BK114 := n3_; have GW114 := n4_; have GE114 := n5_; have NB112_114 := n6_; have NB114_112 := n7_; have NB113_114 := n8_; have NB114_113 := n9_; clear n0_ n1_ n2_ n3_ n4_ n5_ n6_ n7_ n8_ n9_; clear hb hbox hg))  -- boxed
  refine bodyPost_ret (results_cell_row rfl _ _ gb113 57 #[.int .i64 a0_0, .int .i64 a0_1, .int .i64 a0_2, .int .i64 a0_3, .int .i64 a0_4, .int .i64 a0_5, .int .i64 a0_6] (0, 0) _ rfl BK113.out Try.underlying57 rfl (by kernel_rfl)) rfl ?_
  exact ⟨by first | rfl | (simp [errW_none, errW_some] <;> rfl) | (simp [*, errW_none, errW_some] <;> rfl), by repeat (first | (with_reducible first | exact HB.out | apply below_alloc | apply pw_below_drewN | apply below_drew1 | refine below_set ?_ GE112.out | refine below_set ?_ GE113.out | refine below_set ?_ GE114.out) | exact HB.out)⟩

/-! ### laws_toGuard: function 82 -/
def laws_toGuard.f (a0_0 : Int) (a0_1 : Int) : Option (Int × Int) := some (a0_0, a0_1)
set_option maxHeartbeats 8000000 in
set_option maxRecDepth 100000 in
theorem laws_toGuard.calls (a0_0 : Int) (a0_1 : Int) (r1 : Int) (r2 : Int) (w : World) (h : laws_toGuard.f a0_0 a0_1 = some (r1, r2)) :
    Calls Try.prog 82 #[.agg #[.int .i64 a0_0, .int .i64 a0_1]] w fun e w' => e = .returned (.agg #[.int .i64 r1, .int .i64 r2]) ∧ Below w.heap.size w w' := by
  have hu49 := Try.underlying49
  have hu58 := Try.underlying58
  have HB := Aside0.mk (Below.refl w.heap.size w)
  have H : (some (a0_0, a0_1)) = some (r1, r2) := h
  clear h
  simp only [Option.some.injEq, Prod.mk.injEq] at H
  obtain ⟨rfl, rfl⟩ := H
  go_enter Try.func82, Try.ntmps82
  go_wp2_with (first | ((with_reducible refine gate_load (t := 3) rfl ?_); refine bx_load rfl _ (by rfl) gb115 _ (by rfl) BK115.out _ Try.underlying3 rfl _ (by rfl) ?_) | ((with_reducible refine gate_load (t := 49) rfl ?_); refine load_box rfl 49 _ rfl gb115 rfl Try.underlying49 rfl BK115.out (by kernel_rfl) ?_) | ((with_reducible refine gate_load (t := 3) rfl ?_); refine bx_load rfl _ (by rfl) gb116 _ (by rfl) BK116.out _ Try.underlying3 rfl _ (by rfl) ?_) | ((with_reducible refine gate_load (t := 58) rfl ?_); refine load_box rfl 58 _ rfl gb116 rfl Try.underlying58 rfl BK116.out (by kernel_rfl) ?_) | ((with_reducible refine gate_load (t := 3) rfl ?_); refine bx_load rfl _ (by rfl) gb117 _ (by rfl) BK117.out _ Try.underlying3 rfl _ (by rfl) ?_) | ((with_reducible refine gate_load (t := 58) rfl ?_); refine load_box rfl 58 _ rfl gb117 rfl Try.underlying58 rfl BK117.out (by kernel_rfl) ?_) | ((with_reducible refine gate_st (t := 3) rfl ?_); refine bx_store rfl rfl _ _ (by rfl) gb115 _ (by rfl) BK115.out [_] (by rfl) (by kernel_rfl) (by exact Nat.le_of_ble_eq_true rfl) (by first | exact oo_1 rfl) ?_; intro w_ hbk_ hg_; simp only [List.take_succ_cons, List.take_zero, List.drop_succ_cons, List.drop_zero, List.cons_append, List.nil_append, List.length_cons, List.length_nil, Nat.reduceAdd] at hbk_; have hlt_ := blk_lt BK115.out; (try (have nc_ := Aside0.mk (bx_other BK116.out hg_ NB116_115.out); clear BK116; have BK116 := nc_; clear nc_)); (try (have nc_ := Aside0.mk (bx_other BK117.out hg_ NB117_115.out); clear BK117; have BK117 := nc_; clear nc_)); have nb_ := Aside0.mk hbk_; have nh_ := Aside0.mk (bx_below HB.out hg_ GE115.out hlt_); clear BK115 HB; have BK115 := nb_; have HB := nh_; clear nb_ nh_ hbk_ hg_ hlt_) | ((with_reducible refine gate_st (t := 49) rfl ?_); refine bx_store rfl rfl _ _ (by rfl) gb115 0 (by rfl) BK115.out _ (by rfl) (by kernel_rfl) (by exact Nat.le_of_ble_eq_true rfl) (by exact oo_2 rfl rfl) ?_; intro w_ hbk_ hg_; simp only [List.take_succ_cons, List.take_zero, List.drop_succ_cons, List.drop_zero, List.cons_append, List.nil_append, List.length_cons, List.length_nil, Nat.reduceAdd] at hbk_; have hlt_ := blk_lt BK115.out; (try (have nc_ := Aside0.mk (bx_other BK116.out hg_ NB116_115.out); clear BK116; have BK116 := nc_; clear nc_)); (try (have nc_ := Aside0.mk (bx_other BK117.out hg_ NB117_115.out); clear BK117; have BK117 := nc_; clear nc_)); have nb_ := Aside0.mk hbk_; have nh_ := Aside0.mk (bx_below HB.out hg_ GE115.out hlt_); clear BK115 HB; have BK115 := nb_; have HB := nh_; clear nb_ nh_ hbk_ hg_ hlt_) | ((with_reducible refine gate_st (t := 3) rfl ?_); refine bx_store rfl rfl _ _ (by rfl) gb116 _ (by rfl) BK116.out [_] (by rfl) (by kernel_rfl) (by exact Nat.le_of_ble_eq_true rfl) (by first | exact oo_1 rfl) ?_; intro w_ hbk_ hg_; simp only [List.take_succ_cons, List.take_zero, List.drop_succ_cons, List.drop_zero, List.cons_append, List.nil_append, List.length_cons, List.length_nil, Nat.reduceAdd] at hbk_; have hlt_ := blk_lt BK116.out; (try (have nc_ := Aside0.mk (bx_other BK115.out hg_ NB115_116.out); clear BK115; have BK115 := nc_; clear nc_)); (try (have nc_ := Aside0.mk (bx_other BK117.out hg_ NB117_116.out); clear BK117; have BK117 := nc_; clear nc_)); have nb_ := Aside0.mk hbk_; have nh_ := Aside0.mk (bx_below HB.out hg_ GE116.out hlt_); clear BK116 HB; have BK116 := nb_; have HB := nh_; clear nb_ nh_ hbk_ hg_ hlt_) | ((with_reducible refine gate_st (t := 58) rfl ?_); refine bx_store rfl rfl _ _ (by rfl) gb116 0 (by rfl) BK116.out _ (by rfl) (by kernel_rfl) (by exact Nat.le_of_ble_eq_true rfl) (by exact oo_2 rfl rfl) ?_; intro w_ hbk_ hg_; simp only [List.take_succ_cons, List.take_zero, List.drop_succ_cons, List.drop_zero, List.cons_append, List.nil_append, List.length_cons, List.length_nil, Nat.reduceAdd] at hbk_; have hlt_ := blk_lt BK116.out; (try (have nc_ := Aside0.mk (bx_other BK115.out hg_ NB115_116.out); clear BK115; have BK115 := nc_; clear nc_)); (try (have nc_ := Aside0.mk (bx_other BK117.out hg_ NB117_116.out); clear BK117; have BK117 := nc_; clear nc_)); have nb_ := Aside0.mk hbk_; have nh_ := Aside0.mk (bx_below HB.out hg_ GE116.out hlt_); clear BK116 HB; have BK116 := nb_; have HB := nh_; clear nb_ nh_ hbk_ hg_ hlt_) | ((with_reducible refine gate_st (t := 3) rfl ?_); refine bx_store rfl rfl _ _ (by rfl) gb117 _ (by rfl) BK117.out [_] (by rfl) (by kernel_rfl) (by exact Nat.le_of_ble_eq_true rfl) (by first | exact oo_1 rfl) ?_; intro w_ hbk_ hg_; simp only [List.take_succ_cons, List.take_zero, List.drop_succ_cons, List.drop_zero, List.cons_append, List.nil_append, List.length_cons, List.length_nil, Nat.reduceAdd] at hbk_; have hlt_ := blk_lt BK117.out; (try (have nc_ := Aside0.mk (bx_other BK115.out hg_ NB115_117.out); clear BK115; have BK115 := nc_; clear nc_)); (try (have nc_ := Aside0.mk (bx_other BK116.out hg_ NB116_117.out); clear BK116; have BK116 := nc_; clear nc_)); have nb_ := Aside0.mk hbk_; have nh_ := Aside0.mk (bx_below HB.out hg_ GE117.out hlt_); clear BK117 HB; have BK117 := nb_; have HB := nh_; clear nb_ nh_ hbk_ hg_ hlt_) | ((with_reducible refine gate_st (t := 58) rfl ?_); refine bx_store rfl rfl _ _ (by rfl) gb117 0 (by rfl) BK117.out _ (by rfl) (by kernel_rfl) (by exact Nat.le_of_ble_eq_true rfl) (by exact oo_2 rfl rfl) ?_; intro w_ hbk_ hg_; simp only [List.take_succ_cons, List.take_zero, List.drop_succ_cons, List.drop_zero, List.cons_append, List.nil_append, List.length_cons, List.length_nil, Nat.reduceAdd] at hbk_; have hlt_ := blk_lt BK117.out; (try (have nc_ := Aside0.mk (bx_other BK115.out hg_ NB115_117.out); clear BK115; have BK115 := nc_; clear nc_)); (try (have nc_ := Aside0.mk (bx_other BK116.out hg_ NB116_117.out); clear BK116; have BK116 := nc_; clear nc_)); have nb_ := Aside0.mk hbk_; have nh_ := Aside0.mk (bx_below HB.out hg_ GE117.out hlt_); clear BK117 HB; have BK117 := nb_; have HB := nh_; clear nb_ nh_ hbk_ hg_ hlt_) | ((with_reducible refine gate_dst (N := 1) rfl ?_); refine box_event ?hg (N := 1) ?hd (cs := #[.int .i64 a0_0, .int .i64 a0_1]) (t := 49) ?hr ?_; (case hd => rfl); (case hg => rfl); (case hr => first | (go_simp; done) | (go_simp; rfl)); intro gb115 hg w2 hbox hb; have n0_ := Aside0.mk (below_step (by repeat (first | (with_reducible first | exact HB.out | apply below_alloc | apply pw_below_drewN | apply below_drew1) | exact HB.out)) hb); have n1_ := Aside0.mk (hbox); have n2_ := Aside0.mk ((by rw [hg]; exact (below_size (by repeat (first | (with_reducible first | exact HB.out | apply below_alloc | apply pw_below_drewN | apply below_drew1) | exact HB.out))) : w.heap.size ≤ gb115)); have n3_ := n2_; clear HB; have HB := n0_; have BK115 := n1_; have GW115 := n2_; have GE115 := n3_; clear n0_ n1_ n2_ n3_; clear hb hbox hg) | ((with_reducible refine gate_dst (N := 2) rfl ?_); refine box_event ?hg (N := 2) ?hd (cs := #[.int .i64 0, .int .i64 0]) (t := 58) ?hr ?_; (case hd => rfl); (case hg => rfl); (case hr => first | (go_simp; done) | (go_simp; rfl)); intro gb116 hg w3 hbox hb; have n0_ := Aside0.mk (blk_below BK115.out hb); have n1_ := Aside0.mk (below_step (by repeat (first | (with_reducible first | exact HB.out | apply below_alloc | apply pw_below_drewN | apply below_drew1 | refine below_set ?_ GE115.out) | exact HB.out)) hb); have n2_ := Aside0.mk (hbox); have n3_ := Aside0.mk ((by rw [hg]; exact (below_size (by repeat (first | (with_reducible first | exact HB.out | apply below_alloc | apply pw_below_drewN | apply below_drew1 | refine below_set ?_ GE115.out) | exact HB.out))) : w.heap.size ≤ gb116)); have n4_ := n3_; have n5_ := Aside0.mk ((by rw [hg]; exact Nat.ne_of_lt (blk_lt BK115.out) : gb115 ≠ gb116)); have n6_ := Aside0.mk ((by rw [hg]; exact Nat.ne_of_gt (blk_lt BK115.out) : gb116 ≠ gb115)); clear BK115; clear HB; have BK115 := n0_; have HB := n1_; have BK116 := n2_; have GW116 := n3_; have GE116 := n4_; have NB115_116 := n5_; have NB116_115 := n6_; clear n0_ n1_ n2_ n3_ n4_ n5_ n6_; clear hb hbox hg) | ((with_reducible refine gate_dst (N := 3) rfl ?_); refine box_event ?hg (N := 3) ?hd (cs := #[.int .i64 0, .int .i64 0]) (t := 58) ?hr ?_; (case hd => rfl); (case hg => rfl); (case hr => first | (go_simp; done) | (go_simp; rfl)); intro gb117 hg w4 hbox hb; have n0_ := Aside0.mk (blk_below BK115.out hb); have n1_ := Aside0.mk (blk_below BK116.out hb); have n2_ := Aside0.mk (below_step (by repeat (first | (with_reducible first | exact HB.out | apply below_alloc | apply pw_below_drewN | apply below_drew1 | refine below_set ?_ GE115.out | refine below_set ?_ GE116.out) | exact HB.out)) hb); have n3_ := Aside0.mk (hbox); have n4_ := Aside0.mk ((by rw [hg]; exact (below_size (by repeat (first | (with_reducible first | exact HB.out | apply below_alloc | apply pw_below_drewN | apply below_drew1 | refine below_set ?_ GE115.out | refine below_set ?_ GE116.out) | exact HB.out))) : w.heap.size ≤ gb117)); have n5_ := n4_; have n6_ := Aside0.mk ((by rw [hg]; exact Nat.ne_of_lt (blk_lt BK115.out) : gb115 ≠ gb117)); have n7_ := Aside0.mk ((by rw [hg]; exact Nat.ne_of_gt (blk_lt BK115.out) : gb117 ≠ gb115)); have n8_ := Aside0.mk ((by rw [hg]; exact Nat.ne_of_lt (blk_lt BK116.out) : gb116 ≠ gb117)); have n9_ := Aside0.mk ((by rw [hg]; exact Nat.ne_of_gt (blk_lt BK116.out) : gb117 ≠ gb116)); clear BK115; clear BK116; clear HB; have BK115 := n0_; have BK116 := n1_; have HB := n2_; have BK117 := n3_; have GW117 := n4_; have GE117 := n5_; have NB115_117 := n6_; have NB117_115 := n7_; have NB116_117 := n8_; have NB117_116 := n9_; clear n0_ n1_ n2_ n3_ n4_ n5_ n6_ n7_ n8_ n9_; clear hb hbox hg))  -- boxed
  refine bodyPost_ret (results_cell_row rfl _ _ gb116 58 #[.int .i64 a0_0, .int .i64 a0_1] (0, 0) _ rfl BK116.out Try.underlying58 rfl (by kernel_rfl)) rfl ?_
  exact ⟨by first | rfl | (simp [errW_none, errW_some] <;> rfl) | (simp [*, errW_none, errW_some] <;> rfl), by repeat (first | (with_reducible first | exact HB.out | apply below_alloc | apply pw_below_drewN | apply below_drew1 | refine below_set ?_ GE115.out | refine below_set ?_ GE116.out | refine below_set ?_ GE117.out) | exact HB.out)⟩

/-! ### laws_toEvent: function 74 -/
def laws_toEvent.f (a0_0 : Int) (a0_1 : Int) (a0_2 : Int) (a0_3 : Int) (a0_4 : Int) (a0_5 : Int) (a0_6 : Bool) : Option (Int × Int × Int × Int × Int × Int × Bool) := some (a0_0, a0_1, a0_2, a0_3, a0_4, a0_5, a0_6)
set_option maxHeartbeats 8000000 in
set_option maxRecDepth 100000 in
theorem laws_toEvent.calls (a0_0 : Int) (a0_1 : Int) (a0_2 : Int) (a0_3 : Int) (a0_4 : Int) (a0_5 : Int) (a0_6 : Bool) (r1 : Int) (r2 : Int) (r3 : Int) (r4 : Int) (r5 : Int) (r6 : Int) (r7 : Bool) (w : World) (h : laws_toEvent.f a0_0 a0_1 a0_2 a0_3 a0_4 a0_5 a0_6 = some (r1, r2, r3, r4, r5, r6, r7)) :
    Calls Try.prog 74 #[.agg #[.int .i64 a0_0, .int .i64 a0_1, .int .i64 a0_2, .int .i64 a0_3, .int .i64 a0_4, .int .i64 a0_5, .bool a0_6]] w fun e w' => e = .returned (.agg #[.int .i64 r1, .int .i64 r2, .int .i64 r3, .int .i64 r4, .int .i64 r5, .int .i64 r6, .bool r7]) ∧ Below w.heap.size w w' := by
  have hu34 := Try.underlying34
  have hu40 := Try.underlying40
  have HB := Aside0.mk (Below.refl w.heap.size w)
  have H : (some (a0_0, a0_1, a0_2, a0_3, a0_4, a0_5, a0_6)) = some (r1, r2, r3, r4, r5, r6, r7) := h
  clear h
  simp only [Option.some.injEq, Prod.mk.injEq] at H
  obtain ⟨rfl, rfl, rfl, rfl, rfl, rfl, rfl⟩ := H
  go_enter Try.func74, Try.ntmps74
  go_wp2_with (first | ((with_reducible refine gate_load (t := 3) rfl ?_); refine bx_load rfl _ (by rfl) gb118 _ (by rfl) BK118.out _ Try.underlying3 rfl _ (by rfl) ?_) | ((with_reducible refine gate_load (t := 4) rfl ?_); refine bx_load rfl _ (by rfl) gb118 _ (by rfl) BK118.out _ Try.underlying4 rfl _ (by rfl) ?_) | ((with_reducible refine gate_load (t := 34) rfl ?_); refine load_box rfl 34 _ rfl gb118 rfl Try.underlying34 rfl BK118.out (by kernel_rfl) ?_) | ((with_reducible refine gate_load (t := 3) rfl ?_); refine bx_load rfl _ (by rfl) gb119 _ (by rfl) BK119.out _ Try.underlying3 rfl _ (by rfl) ?_) | ((with_reducible refine gate_load (t := 4) rfl ?_); refine bx_load rfl _ (by rfl) gb119 _ (by rfl) BK119.out _ Try.underlying4 rfl _ (by rfl) ?_) | ((with_reducible refine gate_load (t := 40) rfl ?_); refine load_box rfl 40 _ rfl gb119 rfl Try.underlying40 rfl BK119.out (by kernel_rfl) ?_) | ((with_reducible refine gate_load (t := 3) rfl ?_); refine bx_load rfl _ (by rfl) gb120 _ (by rfl) BK120.out _ Try.underlying3 rfl _ (by rfl) ?_) | ((with_reducible refine gate_load (t := 4) rfl ?_); refine bx_load rfl _ (by rfl) gb120 _ (by rfl) BK120.out _ Try.underlying4 rfl _ (by rfl) ?_) | ((with_reducible refine gate_load (t := 40) rfl ?_); refine load_box rfl 40 _ rfl gb120 rfl Try.underlying40 rfl BK120.out (by kernel_rfl) ?_) | ((with_reducible refine gate_st (t := 3) rfl ?_); refine bx_store rfl rfl _ _ (by rfl) gb118 _ (by rfl) BK118.out [_] (by rfl) (by kernel_rfl) (by exact Nat.le_of_ble_eq_true rfl) (by first | exact oo_1 rfl) ?_; intro w_ hbk_ hg_; simp only [List.take_succ_cons, List.take_zero, List.drop_succ_cons, List.drop_zero, List.cons_append, List.nil_append, List.length_cons, List.length_nil, Nat.reduceAdd] at hbk_; have hlt_ := blk_lt BK118.out; (try (have nc_ := Aside0.mk (bx_other BK119.out hg_ NB119_118.out); clear BK119; have BK119 := nc_; clear nc_)); (try (have nc_ := Aside0.mk (bx_other BK120.out hg_ NB120_118.out); clear BK120; have BK120 := nc_; clear nc_)); have nb_ := Aside0.mk hbk_; have nh_ := Aside0.mk (bx_below HB.out hg_ GE118.out hlt_); clear BK118 HB; have BK118 := nb_; have HB := nh_; clear nb_ nh_ hbk_ hg_ hlt_) | ((with_reducible refine gate_st (t := 4) rfl ?_); refine bx_store rfl rfl _ _ (by rfl) gb118 _ (by rfl) BK118.out [_] (by rfl) (by kernel_rfl) (by exact Nat.le_of_ble_eq_true rfl) (by first | exact oo_1 rfl) ?_; intro w_ hbk_ hg_; simp only [List.take_succ_cons, List.take_zero, List.drop_succ_cons, List.drop_zero, List.cons_append, List.nil_append, List.length_cons, List.length_nil, Nat.reduceAdd] at hbk_; have hlt_ := blk_lt BK118.out; (try (have nc_ := Aside0.mk (bx_other BK119.out hg_ NB119_118.out); clear BK119; have BK119 := nc_; clear nc_)); (try (have nc_ := Aside0.mk (bx_other BK120.out hg_ NB120_118.out); clear BK120; have BK120 := nc_; clear nc_)); have nb_ := Aside0.mk hbk_; have nh_ := Aside0.mk (bx_below HB.out hg_ GE118.out hlt_); clear BK118 HB; have BK118 := nb_; have HB := nh_; clear nb_ nh_ hbk_ hg_ hlt_) | ((with_reducible refine gate_st (t := 34) rfl ?_); refine bx_store rfl rfl _ _ (by rfl) gb118 0 (by rfl) BK118.out _ (by rfl) (by kernel_rfl) (by exact Nat.le_of_ble_eq_true rfl) (by exact oo_7 rfl rfl rfl rfl rfl rfl rfl) ?_; intro w_ hbk_ hg_; simp only [List.take_succ_cons, List.take_zero, List.drop_succ_cons, List.drop_zero, List.cons_append, List.nil_append, List.length_cons, List.length_nil, Nat.reduceAdd] at hbk_; have hlt_ := blk_lt BK118.out; (try (have nc_ := Aside0.mk (bx_other BK119.out hg_ NB119_118.out); clear BK119; have BK119 := nc_; clear nc_)); (try (have nc_ := Aside0.mk (bx_other BK120.out hg_ NB120_118.out); clear BK120; have BK120 := nc_; clear nc_)); have nb_ := Aside0.mk hbk_; have nh_ := Aside0.mk (bx_below HB.out hg_ GE118.out hlt_); clear BK118 HB; have BK118 := nb_; have HB := nh_; clear nb_ nh_ hbk_ hg_ hlt_) | ((with_reducible refine gate_st (t := 3) rfl ?_); refine bx_store rfl rfl _ _ (by rfl) gb119 _ (by rfl) BK119.out [_] (by rfl) (by kernel_rfl) (by exact Nat.le_of_ble_eq_true rfl) (by first | exact oo_1 rfl) ?_; intro w_ hbk_ hg_; simp only [List.take_succ_cons, List.take_zero, List.drop_succ_cons, List.drop_zero, List.cons_append, List.nil_append, List.length_cons, List.length_nil, Nat.reduceAdd] at hbk_; have hlt_ := blk_lt BK119.out; (try (have nc_ := Aside0.mk (bx_other BK118.out hg_ NB118_119.out); clear BK118; have BK118 := nc_; clear nc_)); (try (have nc_ := Aside0.mk (bx_other BK120.out hg_ NB120_119.out); clear BK120; have BK120 := nc_; clear nc_)); have nb_ := Aside0.mk hbk_; have nh_ := Aside0.mk (bx_below HB.out hg_ GE119.out hlt_); clear BK119 HB; have BK119 := nb_; have HB := nh_; clear nb_ nh_ hbk_ hg_ hlt_) | ((with_reducible refine gate_st (t := 4) rfl ?_); refine bx_store rfl rfl _ _ (by rfl) gb119 _ (by rfl) BK119.out [_] (by rfl) (by kernel_rfl) (by exact Nat.le_of_ble_eq_true rfl) (by first | exact oo_1 rfl) ?_; intro w_ hbk_ hg_; simp only [List.take_succ_cons, List.take_zero, List.drop_succ_cons, List.drop_zero, List.cons_append, List.nil_append, List.length_cons, List.length_nil, Nat.reduceAdd] at hbk_; have hlt_ := blk_lt BK119.out; (try (have nc_ := Aside0.mk (bx_other BK118.out hg_ NB118_119.out); clear BK118; have BK118 := nc_; clear nc_)); (try (have nc_ := Aside0.mk (bx_other BK120.out hg_ NB120_119.out); clear BK120; have BK120 := nc_; clear nc_)); have nb_ := Aside0.mk hbk_; have nh_ := Aside0.mk (bx_below HB.out hg_ GE119.out hlt_); clear BK119 HB; have BK119 := nb_; have HB := nh_; clear nb_ nh_ hbk_ hg_ hlt_) | ((with_reducible refine gate_st (t := 40) rfl ?_); refine bx_store rfl rfl _ _ (by rfl) gb119 0 (by rfl) BK119.out _ (by rfl) (by kernel_rfl) (by exact Nat.le_of_ble_eq_true rfl) (by exact oo_7 rfl rfl rfl rfl rfl rfl rfl) ?_; intro w_ hbk_ hg_; simp only [List.take_succ_cons, List.take_zero, List.drop_succ_cons, List.drop_zero, List.cons_append, List.nil_append, List.length_cons, List.length_nil, Nat.reduceAdd] at hbk_; have hlt_ := blk_lt BK119.out; (try (have nc_ := Aside0.mk (bx_other BK118.out hg_ NB118_119.out); clear BK118; have BK118 := nc_; clear nc_)); (try (have nc_ := Aside0.mk (bx_other BK120.out hg_ NB120_119.out); clear BK120; have BK120 := nc_; clear nc_)); have nb_ := Aside0.mk hbk_; have nh_ := Aside0.mk (bx_below HB.out hg_ GE119.out hlt_); clear BK119 HB; have BK119 := nb_; have HB := nh_; clear nb_ nh_ hbk_ hg_ hlt_) | ((with_reducible refine gate_st (t := 3) rfl ?_); refine bx_store rfl rfl _ _ (by rfl) gb120 _ (by rfl) BK120.out [_] (by rfl) (by kernel_rfl) (by exact Nat.le_of_ble_eq_true rfl) (by first | exact oo_1 rfl) ?_; intro w_ hbk_ hg_; simp only [List.take_succ_cons, List.take_zero, List.drop_succ_cons, List.drop_zero, List.cons_append, List.nil_append, List.length_cons, List.length_nil, Nat.reduceAdd] at hbk_; have hlt_ := blk_lt BK120.out; (try (have nc_ := Aside0.mk (bx_other BK118.out hg_ NB118_120.out); clear BK118; have BK118 := nc_; clear nc_)); (try (have nc_ := Aside0.mk (bx_other BK119.out hg_ NB119_120.out); clear BK119; have BK119 := nc_; clear nc_)); have nb_ := Aside0.mk hbk_; have nh_ := Aside0.mk (bx_below HB.out hg_ GE120.out hlt_); clear BK120 HB; have BK120 := nb_; have HB := nh_; clear nb_ nh_ hbk_ hg_ hlt_) | ((with_reducible refine gate_st (t := 4) rfl ?_); refine bx_store rfl rfl _ _ (by rfl) gb120 _ (by rfl) BK120.out [_] (by rfl) (by kernel_rfl) (by exact Nat.le_of_ble_eq_true rfl) (by first | exact oo_1 rfl) ?_; intro w_ hbk_ hg_; simp only [List.take_succ_cons, List.take_zero, List.drop_succ_cons, List.drop_zero, List.cons_append, List.nil_append, List.length_cons, List.length_nil, Nat.reduceAdd] at hbk_; have hlt_ := blk_lt BK120.out; (try (have nc_ := Aside0.mk (bx_other BK118.out hg_ NB118_120.out); clear BK118; have BK118 := nc_; clear nc_)); (try (have nc_ := Aside0.mk (bx_other BK119.out hg_ NB119_120.out); clear BK119; have BK119 := nc_; clear nc_)); have nb_ := Aside0.mk hbk_; have nh_ := Aside0.mk (bx_below HB.out hg_ GE120.out hlt_); clear BK120 HB; have BK120 := nb_; have HB := nh_; clear nb_ nh_ hbk_ hg_ hlt_) | ((with_reducible refine gate_st (t := 40) rfl ?_); refine bx_store rfl rfl _ _ (by rfl) gb120 0 (by rfl) BK120.out _ (by rfl) (by kernel_rfl) (by exact Nat.le_of_ble_eq_true rfl) (by exact oo_7 rfl rfl rfl rfl rfl rfl rfl) ?_; intro w_ hbk_ hg_; simp only [List.take_succ_cons, List.take_zero, List.drop_succ_cons, List.drop_zero, List.cons_append, List.nil_append, List.length_cons, List.length_nil, Nat.reduceAdd] at hbk_; have hlt_ := blk_lt BK120.out; (try (have nc_ := Aside0.mk (bx_other BK118.out hg_ NB118_120.out); clear BK118; have BK118 := nc_; clear nc_)); (try (have nc_ := Aside0.mk (bx_other BK119.out hg_ NB119_120.out); clear BK119; have BK119 := nc_; clear nc_)); have nb_ := Aside0.mk hbk_; have nh_ := Aside0.mk (bx_below HB.out hg_ GE120.out hlt_); clear BK120 HB; have BK120 := nb_; have HB := nh_; clear nb_ nh_ hbk_ hg_ hlt_) | ((with_reducible refine gate_dst (N := 1) rfl ?_); refine box_event ?hg (N := 1) ?hd (cs := #[.int .i64 a0_0, .int .i64 a0_1, .int .i64 a0_2, .int .i64 a0_3, .int .i64 a0_4, .int .i64 a0_5, .bool a0_6]) (t := 34) ?hr ?_; (case hd => rfl); (case hg => rfl); (case hr => first | (go_simp; done) | (go_simp; rfl)); intro gb118 hg w2 hbox hb; have n0_ := Aside0.mk (below_step (by repeat (first | (with_reducible first | exact HB.out | apply below_alloc | apply pw_below_drewN | apply below_drew1) | exact HB.out)) hb); have n1_ := Aside0.mk (hbox); have n2_ := Aside0.mk ((by rw [hg]; exact (below_size (by repeat (first | (with_reducible first | exact HB.out | apply below_alloc | apply pw_below_drewN | apply below_drew1) | exact HB.out))) : w.heap.size ≤ gb118)); have n3_ := n2_; clear HB; have HB := n0_; have BK118 := n1_; have GW118 := n2_; have GE118 := n3_; clear n0_ n1_ n2_ n3_; clear hb hbox hg) | ((with_reducible refine gate_dst (N := 2) rfl ?_); refine box_event ?hg (N := 2) ?hd (cs := #[.int .i64 0, .int .i64 0, .int .i64 0, .int .i64 0, .int .i64 0, .int .i64 0, .bool false]) (t := 40) ?hr ?_; (case hd => rfl); (case hg => rfl); (case hr => first | (go_simp; done) | (go_simp; rfl)); intro gb119 hg w3 hbox hb; have n0_ := Aside0.mk (blk_below BK118.out hb); have n1_ := Aside0.mk (below_step (by repeat (first | (with_reducible first | exact HB.out | apply below_alloc | apply pw_below_drewN | apply below_drew1 | refine below_set ?_ GE118.out) | exact HB.out)) hb); have n2_ := Aside0.mk (hbox); have n3_ := Aside0.mk ((by rw [hg]; exact (below_size (by repeat (first | (with_reducible first | exact HB.out | apply below_alloc | apply pw_below_drewN | apply below_drew1 | refine below_set ?_ GE118.out) | exact HB.out))) : w.heap.size ≤ gb119)); have n4_ := n3_; have n5_ := Aside0.mk ((by rw [hg]; exact Nat.ne_of_lt (blk_lt BK118.out) : gb118 ≠ gb119)); have n6_ := Aside0.mk ((by rw [hg]; exact Nat.ne_of_gt (blk_lt BK118.out) : gb119 ≠ gb118)); clear BK118; clear HB; have BK118 := n0_; have HB := n1_; have BK119 := n2_; have GW119 := n3_; have GE119 := n4_; have NB118_119 := n5_; have NB119_118 := n6_; clear n0_ n1_ n2_ n3_ n4_ n5_ n6_; clear hb hbox hg) | ((with_reducible refine gate_dst (N := 3) rfl ?_); refine box_event ?hg (N := 3) ?hd (cs := #[.int .i64 0, .int .i64 0, .int .i64 0, .int .i64 0, .int .i64 0, .int .i64 0, .bool false]) (t := 40) ?hr ?_; (case hd => rfl); (case hg => rfl); (case hr => first | (go_simp; done) | (go_simp; rfl)); intro gb120 hg w4 hbox hb; have n0_ := Aside0.mk (blk_below BK118.out hb); have n1_ := Aside0.mk (blk_below BK119.out hb); have n2_ := Aside0.mk (below_step (by repeat (first | (with_reducible first | exact HB.out | apply below_alloc | apply pw_below_drewN | apply below_drew1 | refine below_set ?_ GE118.out | refine below_set ?_ GE119.out) | exact HB.out)) hb); have n3_ := Aside0.mk (hbox); have n4_ := Aside0.mk ((by rw [hg]; exact (below_size (by repeat (first | (with_reducible first | exact HB.out | apply below_alloc | apply pw_below_drewN | apply below_drew1 | refine below_set ?_ GE118.out | refine below_set ?_ GE119.out) | exact HB.out))) : w.heap.size ≤ gb120)); have n5_ := n4_; have n6_ := Aside0.mk ((by rw [hg]; exact Nat.ne_of_lt (blk_lt BK118.out) : gb118 ≠ gb120)); have n7_ := Aside0.mk ((by rw [hg]; exact Nat.ne_of_gt (blk_lt BK118.out) : gb120 ≠ gb118)); have n8_ := Aside0.mk ((by rw [hg]; exact Nat.ne_of_lt (blk_lt BK119.out) : gb119 ≠ gb120)); have n9_ := Aside0.mk ((by rw [hg]; exact Nat.ne_of_gt (blk_lt BK119.out) : gb120 ≠ gb119)); clear BK118; clear BK119; clear HB; have BK118 := n0_; have BK119 := n1_; have HB := n2_; have BK120 := n3_; have GW120 := n4_; have GE120 := n5_; have NB118_120 := n6_; have NB120_118 := n7_; have NB119_120 := n8_; have NB120_119 := n9_; clear n0_ n1_ n2_ n3_ n4_ n5_ n6_ n7_ n8_ n9_; clear hb hbox hg))  -- boxed
  refine bodyPost_ret (results_cell_row rfl _ _ gb119 40 #[.int .i64 a0_0, .int .i64 a0_1, .int .i64 a0_2, .int .i64 a0_3, .int .i64 a0_4, .int .i64 a0_5, .bool a0_6] (0, 0) _ rfl BK119.out Try.underlying40 rfl (by kernel_rfl)) rfl ?_
  exact ⟨by first | rfl | (simp [errW_none, errW_some] <;> rfl) | (simp [*, errW_none, errW_some] <;> rfl), by repeat (first | (with_reducible first | exact HB.out | apply below_alloc | apply pw_below_drewN | apply below_drew1 | refine below_set ?_ GE118.out | refine below_set ?_ GE119.out | refine below_set ?_ GE120.out) | exact HB.out)⟩

/-! ### laws_toEventS: function 68 -/
def laws_toEventS.l0 : Nat → List (S34) → List (S40) → Int → Option ((List (S40)))
  | 0, _, _, _ => none
  | k + 1, x0, x3, x4 => if x4 < (x0.length : Int) then (if 0 ≤ x4 then ((laws_toEvent.f ((rd_T34 x0 x4).f0) ((rd_T34 x0 x4).f1) ((rd_T34 x0 x4).f2) ((rd_T34 x0 x4).f3) ((rd_T34 x0 x4).f4) ((rd_T34 x0 x4).f5) ((rd_T34 x0 x4).f6)).bind fun bt125 => (if x4 < (x3.length : Int) then (laws_toEventS.l0 k x0 (x3.set (x4 : Int).toNat (⟨bt125.1, bt125.2.1, bt125.2.2.1, bt125.2.2.2.1, bt125.2.2.2.2.1, bt125.2.2.2.2.2.1, bt125.2.2.2.2.2.2⟩ : S40)) (wrap64 (x4 + 1))) else (none))) else (none)) else (some x3)
def laws_toEventS.f (k : Nat) (l0 : List (S34)) : Option ((List (S40))) := if 0 ≤ (l0.length : Int) then (if ((l0.length : Int) : Int).toNat ≤ 5026338869833 then (laws_toEventS.l0 k l0 (List.replicate ((l0.length : Int) : Int).toNat z40) 0) else (none)) else (none)
theorem laws_toEventS.mono_l : ∀ k, (∀ y0 y1 y2, LeO (laws_toEventS.l0 k y0 y1 y2) (laws_toEventS.l0 (k + 1) y0 y1 y2))
  | 0 => fun _ _ _ r h => by simp [laws_toEventS.l0] at h
  | k + 1 => by
    have ih0 := laws_toEventS.mono_l k
    · intro y0 y1 y2
      unfold laws_toEventS.l0
      repeat' first
      | (with_reducible exact ih0 _ _ _)
      | (with_reducible exact LeO.refl _)
      | (with_reducible exact LeO.none _)
      | (with_reducible refine LeO.ite ?_ ?_)
      | (with_reducible refine LeO.bind ?_ (fun _ => ?_))
      | exact ih0 _ _ _
      | exact LeO.none _
      | refine LeO.ite ?_ ?_
      | refine LeO.bind ?_ (fun _ => ?_)
theorem laws_toEventS.mono : ∀ a0 k, LeO (laws_toEventS.f k a0) (laws_toEventS.f (k + 1) a0) := by
  intro a0 k
  have ih0 := laws_toEventS.mono_l k
  unfold laws_toEventS.f
  repeat' first
      | (with_reducible exact ih0 _ _ _)
      | (with_reducible exact LeO.refl _)
      | (with_reducible exact LeO.none _)
      | (with_reducible refine LeO.ite ?_ ?_)
      | (with_reducible refine LeO.bind ?_ (fun _ => ?_))
      | exact ih0 _ _ _
      | exact LeO.none _
      | refine LeO.ite ?_ ?_
      | refine LeO.bind ?_ (fun _ => ?_)
set_option maxHeartbeats 8000000 in
set_option maxRecDepth 100000 in
theorem laws_toEventS.calls (k : Nat) (A0 : Option Addr) (c0 : Nat) (l0 : List (S34)) (r : List (S40)) (w : World) (hr0 : Kd.C k34 w A0 l0.length l0) (hc0 : l0.length ≤ c0) (h : laws_toEventS.f k l0 = some r) :
    Calls Try.prog 68 #[.slice A0 l0.length c0] w fun e w' => ∃ v0_ : Value, e = .returned (v0_) ∧ Kd.R k40 40 w' w.heap.size (fun _ => True) v0_ r ∧ Below w.heap.size w w' := by
  have hu34 := Try.underlying34
  have hu40 := Try.underlying40
  have HR0 := Aside0.mk hr0
  have HC0 := Aside0.mk hc0
  clear hr0 hc0
  have HB := Aside0.mk (Below.refl w.heap.size w)
  have H : (if 0 ≤ (l0.length : Int) then (if ((l0.length : Int) : Int).toNat ≤ 5026338869833 then (laws_toEventS.l0 k l0 (List.replicate ((l0.length : Int) : Int).toNat z40) 0) else (none)) else (none)) = some r := h
  clear h
  by_cases c2 : 0 ≤ (l0.length : Int)
  · rw [if_pos c2] at H
    have c2b0 := eq_true c2
    have c2b1 : decide (0 ≤ (l0.length : Int)) = true := decide_eq_true c2
    clear c2
    by_cases c3 : ((l0.length : Int) : Int).toNat ≤ 5026338869833
    · rw [if_pos c3] at H
      have c3b0 := eq_true c3
      have c3b1 : decide (((l0.length : Int) : Int).toNat ≤ 5026338869833) = true := decide_eq_true c3
      clear c3
      obtain ⟨y121, hy121⟩ : ∃ y_ : List (S40), y_ = (List.replicate ((l0.length : Int) : Int).toNat z40) := ⟨_, rfl⟩
      replace H : (laws_toEventS.l0 k l0 y121 0) = some r := by first | (rw [hy121]; with_reducible exact H) | (have H2_ := (Option.bind_some _ _).symm.trans H; rw [hy121]; with_reducible exact H2_) | (have H2_ := (Option.bind_some _ _).symm.trans H; with_reducible exact H2_) | with_reducible exact H | (rw [hy121]; exact H) | exact H
      have Ny121 := Aside0.mk hy121
      clear hy121
      have H' := Aside0.mk H
      clear H
      go_enter Try.func68, Try.ntmps68
      go_wp2_with (first | ((with_reducible refine gate_dst (N := 7) rfl ?_); refine Kd.R_make k40 _ 40 rfl (N := 7) rfl 59 _ _ rfl (l0.length : Int) rfl rfl Try.underlying59 (.agg #[(.int .i64 0), (.int .i64 0), (.int .i64 0), (.int .i64 0), (.int .i64 0), (.int .i64 0), (.bool false)]) 56 info40 rfl (by decide) (by omega) z40 (ok := fun _ => True) (okp := fun _ => True) (k40_mkM _ _ _ z40 ) (fun _ hk => hk) trivial (of_decide_eq_true (by first | (with_reducible assumption) | assumption)) (Nat.le_trans (Nat.mul_le_mul_right _ (of_decide_eq_true (by first | (with_reducible assumption) | assumption) : (l0.length : Int).toNat ≤ 5026338869833)) (by omega)) (Below.refl _ _) (Nat.le_refl _) ?_; intro v122 w4 ho5 hb hg_ hnew_; clear hg_ hnew_; (first | rw [← Ny121.out] at ho5 | (simp only [Int.reduceToNat] at ho5; rw [← Ny121.out] at ho5)); have n0_ := Aside0.mk (Kd.R_lower ho5 (below_size (by repeat (first | (with_reducible first | exact HB.out | apply below_alloc | apply pw_below_drewN | apply below_drew1) | exact HB.out)))); have n1_ := Aside0.mk (below_step (by repeat (first | (with_reducible first | exact HB.out | apply below_alloc | apply pw_below_drewN | apply below_drew1) | exact HB.out)) hb); clear HB; have HO123 := n0_; have HB := n1_; clear n0_ n1_; clear hb ho5))
      go_loopg [4] k (fun kq v4 w' => ∃ (x3_1 : List (S40)) (x4_1 : Int), v4 = .int .i64 x4_1 ∧ Aside0 (laws_toEventS.l0 kq l0 x3_1 x4_1 = some r) ∧ Aside0 (kq ≤ k) ∧ Aside0 (Kd.R k40 40 w' w.heap.size (fun _ => True) v122 x3_1) ∧ Aside0 (Below w.heap.size w w'))
      case atStart => exact ⟨(y121), (0), (by first | rfl | (simp; done) | (simp [*]; done)), H', ⟨Nat.le_refl _⟩, ⟨by (with_reducible repeat (first | apply Kd.R_alloc | apply Kd.R_drewN | apply Kd.R_drew)); exact HO123.out⟩, ⟨by repeat (first | (with_reducible first | exact HB.out | apply below_alloc | apply pw_below_drewN | apply below_drew1) | exact HB.out)⟩⟩
      case round =>
        clear H'
        try clear c2
        try clear c2b0
        try clear c2b1
        try clear p2
        try clear c3
        try clear c3b0
        try clear c3b1
        obtain ⟨x3_1, x4_1, rfl, HA, HK1, HO_3, HB⟩ := hrel
        cases gk with
        | zero => exact absurd HA.out (by simp [laws_toEventS.l0])
        | succ k1 =>
          have H := HA.out
          clear HA
          simp only [laws_toEventS.l0] at H
          by_cases c6 : x4_1 < (l0.length : Int)
          · rw [if_pos c6] at H
            have c6b0 : decide (x4_1 < (l0.length : Int)) = true := decide_eq_true c6
            clear c6
            by_cases c7 : 0 ≤ x4_1
            · rw [if_pos c7] at H
              have c7b0 : decide (0 ≤ x4_1) = true := decide_eq_true c7
              clear c7
              replace H := Option.bind_eq_some_iff.mp H
              obtain ⟨⟨t125, t126, t127, t128, t129, t130, t131⟩, A80, H⟩ := H
              replace H : (if x4_1 < (x3_1.length : Int) then (laws_toEventS.l0 k1 l0 (x3_1.set (x4_1 : Int).toNat (⟨t125, t126, t127, t128, t129, t130, t131⟩ : S40)) (wrap64 (x4_1 + 1))) else (none)) = some r := H
              have A8 := Aside0.mk A80
              clear A80
              by_cases c9 : x4_1 < (x3_1.length : Int)
              · rw [if_pos c9] at H
                have c9b0 : decide (x4_1 < (x3_1.length : Int)) = true := decide_eq_true c9
                clear c9
                obtain ⟨y132, hy132⟩ : ∃ y_ : List (S40), y_ = (x3_1.set (x4_1 : Int).toNat (⟨t125, t126, t127, t128, t129, t130, t131⟩ : S40)) := ⟨_, rfl⟩
                replace H : (laws_toEventS.l0 k1 l0 y132 (wrap64 (x4_1 + 1))) = some r := by first | (rw [hy132]; with_reducible exact H) | (have H2_ := (Option.bind_some _ _).symm.trans H; rw [hy132]; with_reducible exact H2_) | (have H2_ := (Option.bind_some _ _).symm.trans H; with_reducible exact H2_) | with_reducible exact H | (rw [hy132]; exact H) | exact H
                have Ny132 := Aside0.mk hy132
                clear hy132
                have H' := Aside0.mk H
                clear H
                have p124 : 0 ≤ (x4_1 : Int) := of_decide_eq_true (by first | (with_reducible assumption) | assumption)
                have q124 : x4_1 < (l0.length : Int) := of_decide_eq_true (by first | (with_reducible assumption) | assumption)
                obtain ⟨ad124, e124, hx124_0, hx124_1, hx124_2, hx124_3, hx124_4, hx124_5, hx124_6⟩ := at_T34 HR0.out x4_1 p124 q124
                cases e124
                replace hx124_0 := (HB.out.cell (World.block_lt_of_cell? w _ hx124_0)).trans hx124_0
                replace hx124_1 := (HB.out.cell (World.block_lt_of_cell? w _ hx124_1)).trans hx124_1
                replace hx124_2 := (HB.out.cell (World.block_lt_of_cell? w _ hx124_2)).trans hx124_2
                replace hx124_3 := (HB.out.cell (World.block_lt_of_cell? w _ hx124_3)).trans hx124_3
                replace hx124_4 := (HB.out.cell (World.block_lt_of_cell? w _ hx124_4)).trans hx124_4
                replace hx124_5 := (HB.out.cell (World.block_lt_of_cell? w _ hx124_5)).trans hx124_5
                replace hx124_6 := (HB.out.cell (World.block_lt_of_cell? w _ hx124_6)).trans hx124_6
                replace p124 := eq_true p124
                replace q124 := eq_true q124
                go_wp2_with (first | ((with_reducible refine gate_load (t := 34) rfl ?_); refine load_at rfl 34 _ rfl _ rfl _ _ Try.underlying34 rfl (by kernel_rfl) (ee_7 hx124_0 hx124_1 hx124_2 hx124_3 hx124_4 hx124_5 hx124_6) ?_) | ((with_reducible refine gate_callee (f := 74) rfl ?_); refine goesL_ (some 20) rfl rfl Try.func74 (by kernel_rfl) rfl #[.agg #[.int .i64 ((rd_T34 l0 x4_1).f0), .int .i64 ((rd_T34 l0 x4_1).f1), .int .i64 ((rd_T34 l0 x4_1).f2), .int .i64 ((rd_T34 l0 x4_1).f3), .int .i64 ((rd_T34 l0 x4_1).f4), .int .i64 ((rd_T34 l0 x4_1).f5), .bool ((rd_T34 l0 x4_1).f6)]] rfl (by (try simp only [List.map_toArray, List.map_cons, List.map_nil]); first | done | rfl | (simp only [List.length_drop, List.length_take]; rfl)) ?_; (with_reducible refine (laws_toEvent.calls ((rd_T34 l0 x4_1).f0) ((rd_T34 l0 x4_1).f1) ((rd_T34 l0 x4_1).f2) ((rd_T34 l0 x4_1).f3) ((rd_T34 l0 x4_1).f4) ((rd_T34 l0 x4_1).f5) ((rd_T34 l0 x4_1).f6) t125 t126 t127 t128 t129 t130 t131 _ A8.out).mono ?_); rintro e w11 ⟨rfl, hb⟩; refine ⟨_, rfl, ?_⟩; have n0_ := Aside0.mk (Kd.R_below (by (with_reducible repeat (first | apply Kd.R_alloc | apply Kd.R_drewN | apply Kd.R_drew)); exact HO_3.out) hb); have n1_ := Aside0.mk (below_step (by repeat (first | (with_reducible first | exact HB.out | apply below_alloc | apply pw_below_drewN | apply below_drew1) | exact HB.out)) hb); clear HO_3; clear HB; have HO_3 := n0_; have HB := n1_; clear n0_ n1_; (try clear hb); (try clear hb2); (try clear hk); (try clear hi); have p10 : 0 ≤ (x4_1 : Int) := of_decide_eq_true (by first | (with_reducible assumption) | assumption); have q10 : (x4_1 : Int) < ((x3_1.length : Int) : Int) := of_decide_eq_true (by first | (with_reducible assumption) | assumption); obtain ⟨go10, co10, eo10, gb10, gl10, cl10, HG10⟩ := Kd.R_form HO_3.out (by omega); (first | cases eo10 | (injection eo10 with ea_ en_ ec_; (first | subst ea_ | (injection ea_ with ea_; subst ea_)); subst ec_; clear en_)); have GB10 := Aside0.mk gb10; have GG10 := Aside0.mk HG10; clear gb10 gl10 HG10; obtain ⟨ce10, hcl10, hM10, hcc10, hfr10⟩ := Kd.R_elem HO_3.out z40 (x4_1 : Int) p10 q10; obtain rfl := k40_openM hM10; (try clear hcl10); (try clear hcc10); (try clear hfr10); (try clear hM10); replace p10 := eq_true p10; replace q10 := eq_true q10; have HX12 := Aside0.mk (show Kd.R k40 40 w11 w.heap.size (fun _ => True) (.slice (some ⟨go10, 0, none⟩) x3_1.length co10) x3_1 from (by (with_reducible repeat (first | apply Kd.R_alloc | apply Kd.R_drewN | apply Kd.R_drew)); exact HO_3.out)); obtain ⟨ce12, hcl12, hM12, hcc12, hfr12⟩ := Kd.R_elem HX12.out z40 (x4_1 : Int) (of_decide_eq_true (by first | (with_reducible assumption) | assumption)) (by have h_ : (x4_1 : Int) < ((x3_1.length : Int) : Int) := of_decide_eq_true (by first | (with_reducible assumption) | assumption); first | exact h_ | (have e_ := (Kd.R_reads' HO_3.out).1; omega) | simpa using h_); obtain rfl := k40_openM hM12; have HP12 := Kd.R_seg HX12.out (x4_1 : Int) (of_decide_eq_true (by first | (with_reducible assumption) | assumption)) (by have h_ : (x4_1 : Int) < ((x3_1.length : Int) : Int) := of_decide_eq_true (by first | (with_reducible assumption) | assumption); first | exact h_ | (have e_ := (Kd.R_reads' HO_3.out).1; omega) | simpa using h_) (seg := [.int .i64 t125, .int .i64 t126, .int .i64 t127, .int .i64 t128, .int .i64 t129, .int .i64 t130, .bool t131]) (j := 0) hcl12 hcc12 (show 7 ≤ 7 from by decide) (x' := (⟨t125, t126, t127, t128, t129, t130, t131⟩ : S40)) (k40_mkM _ _ _ (⟨t125, t126, t127, t128, t129, t130, t131⟩ : S40) ) (fun _ hk => hk); (try clear hM12)) | ((with_reducible refine gate_store (t := 40) (p := 21) rfl ?_); refine store_event (t := 40) (p := 21) (v := ?vo_w13) (w1 := (w11.setCells go10 ((x4_1 : Int).toNat * 7) [.int .i64 t125, .int .i64 t126, .int .i64 t127, .int .i64 t128, .int .i64 t129, .int .i64 t130, .bool t131])) ?hg ?ho ?hn ?hr ?_; (case ho => rfl); (case hg => rfl); (case hn => rfl); (case hr => exact run_execOp_store 40 _ _ (by rfl) go10 ((x4_1 : Int).toNat * 7) (by rfl) [.int .i64 t125, .int .i64 t126, .int .i64 t127, .int .i64 t128, .int .i64 t129, .int .i64 t130, .bool t131] _ (by rfl) (by kernel_rfl) (by rfl) hcc12 hfr12 (oo_7 rfl rfl rfl rfl rfl rfl rfl) (by rfl)); intro w13 hw; have hg : w11.grownBy w13 (some go10) := (by rw [hw]; exact HP12.2); have hp_ : Kd.R k40 40 w13 w.heap.size (fun _ => True) (.slice (some ⟨go10, 0, none⟩) x3_1.length co10) y132 := (by rw [hw, Ny132.out]; exact HP12.1); clear HP12; have n0_ := Aside0.mk (hp_); have n1_ := Aside0.mk ((by rw [hw]; exact below_setCells GB10.out _ _ _ (HB.out) : Below w.heap.size w w13)); clear HO_3; clear HB; have HO_3 := n0_; have HB := n1_; clear n0_ n1_; clear hg hw hp_))
                go_roundg k1
                case measure => have := HK1.out; omega
                case rel => exact ⟨(y132), (wrap64 (x4_1 + 1)), (by first | rfl | (simp; done) | (simp [*]; done)), H', ⟨by have := HK1.out; omega⟩, ⟨by (with_reducible repeat (first | apply Kd.R_alloc | apply Kd.R_drewN | apply Kd.R_drew)); exact HO_3.out⟩, ⟨by repeat (first | (with_reducible first | exact HB.out | apply below_alloc | apply pw_below_drewN | apply below_drew1) | exact HB.out)⟩⟩
              · rw [if_neg c9] at H
                exact absurd H (by simp)
            · rw [if_neg c7] at H
              exact absurd H (by simp)
          · rw [if_neg c6] at H
            have c6b0 : decide (x4_1 < (l0.length : Int)) = false := decide_eq_false c6
            clear c6
            obtain rfl := Option.some.inj H
            go_wp2
            go_ret
            exact ⟨_, by first | rfl | (simp [errW_none, errW_some] <;> rfl) | (simp [*, errW_none, errW_some] <;> rfl), by (with_reducible repeat (first | apply Kd.R_alloc | apply Kd.R_drewN | apply Kd.R_drew)); exact HO_3.out, by repeat (first | (with_reducible first | exact HB.out | apply below_alloc | apply pw_below_drewN | apply below_drew1) | exact HB.out)⟩
    · rw [if_neg c3] at H
      exact absurd H (by simp)
  · rw [if_neg c2] at H
    exact absurd H (by simp)

/-! ### laws_toAct: function 83 -/
def laws_toAct.f (k : Nat) (a0_0 : Int) (a0_1 : Int) (a0_2 : Int) (a0_3 : Int) (a0_4 : Int) (a0_5 : Bool) (l0_6 : List (S34)) : Option (Int × Int × Int × Int × Int × Bool × (List (S40))) := (laws_toEventS.f k l0_6).bind fun t136 => (some (a0_0, a0_1, a0_2, a0_3, a0_4, a0_5, t136))
theorem laws_toAct.mono : ∀ a0 a1 a2 a3 a4 a5 a6 k, LeO (laws_toAct.f k a0 a1 a2 a3 a4 a5 a6) (laws_toAct.f (k + 1) a0 a1 a2 a3 a4 a5 a6) := by
  intro a0 a1 a2 a3 a4 a5 a6 k
  unfold laws_toAct.f
  repeat' first
      | (with_reducible exact laws_toEventS.mono _ _)
      | (with_reducible exact LeO.refl _)
      | (with_reducible exact LeO.none _)
      | (with_reducible refine LeO.ite ?_ ?_)
      | (with_reducible refine LeO.bind ?_ (fun _ => ?_))
      | exact laws_toEventS.mono _ _
      | exact LeO.none _
      | refine LeO.ite ?_ ?_
      | refine LeO.bind ?_ (fun _ => ?_)
set_option maxHeartbeats 8000000 in
set_option maxRecDepth 100000 in
theorem laws_toAct.calls (k : Nat) (a0_0 : Int) (a0_1 : Int) (a0_2 : Int) (a0_3 : Int) (a0_4 : Int) (a0_5 : Bool) (A0_6 : Option Addr) (c0_6 : Nat) (l0_6 : List (S34)) (r1 : Int) (r2 : Int) (r3 : Int) (r4 : Int) (r5 : Int) (r6 : Bool) (r7 : List (S40)) (w : World) (hr0_6 : Kd.C k34 w A0_6 l0_6.length l0_6) (hc0_6 : l0_6.length ≤ c0_6) (h : laws_toAct.f k a0_0 a0_1 a0_2 a0_3 a0_4 a0_5 l0_6 = some (r1, r2, r3, r4, r5, r6, r7)) :
    Calls Try.prog 83 #[.agg #[.int .i64 a0_0, .int .i64 a0_1, .int .i64 a0_2, .int .i64 a0_3, .int .i64 a0_4, .bool a0_5, .slice A0_6 l0_6.length c0_6]] w fun e w' => ∃ v6_ : Value, e = .returned (.agg #[.int .i64 r1, .int .i64 r2, .int .i64 r3, .int .i64 r4, .int .i64 r5, .bool r6, v6_]) ∧ Kd.R k40 40 w' w.heap.size (fun _ => True) v6_ r7 ∧ Below w.heap.size w w' := by
  have hu52 := Try.underlying52
  have hu61 := Try.underlying61
  have HR0_6 := Aside0.mk hr0_6
  have HC0_6 := Aside0.mk hc0_6
  clear hr0_6 hc0_6
  have HB := Aside0.mk (Below.refl w.heap.size w)
  have H : ((laws_toEventS.f k l0_6).bind fun t136 => (some (a0_0, a0_1, a0_2, a0_3, a0_4, a0_5, t136))) = some (r1, r2, r3, r4, r5, r6, r7) := h
  clear h
  replace H := Option.bind_eq_some_iff.mp H
  obtain ⟨t136, A20, H⟩ := H
  replace H : (some (a0_0, a0_1, a0_2, a0_3, a0_4, a0_5, t136)) = some (r1, r2, r3, r4, r5, r6, r7) := H
  have A2 := Aside0.mk A20
  clear A20
  simp only [Option.some.injEq, Prod.mk.injEq] at H
  obtain ⟨rfl, rfl, rfl, rfl, rfl, rfl, rfl⟩ := H
  go_enter Try.func83, Try.ntmps83
  go_wp2_with (first | ((with_reducible refine gate_load (t := 3) rfl ?_); refine bx_load rfl _ (by rfl) gb133 _ (by rfl) BK133.out _ Try.underlying3 rfl _ (by rfl) ?_) | ((with_reducible refine gate_load (t := 4) rfl ?_); refine bx_load rfl _ (by rfl) gb133 _ (by rfl) BK133.out _ Try.underlying4 rfl _ (by rfl) ?_) | ((with_reducible refine gate_load (t := 50) rfl ?_); refine bx_load rfl _ (by rfl) gb133 _ (by rfl) BK133.out _ Try.underlying50 rfl _ (by rfl) ?_) | ((with_reducible refine gate_load (t := 52) rfl ?_); refine load_box rfl 52 _ rfl gb133 rfl Try.underlying52 rfl BK133.out (by kernel_rfl) ?_) | ((with_reducible refine gate_load (t := 3) rfl ?_); refine bx_load rfl _ (by rfl) gb134 _ (by rfl) BK134.out _ Try.underlying3 rfl _ (by rfl) ?_) | ((with_reducible refine gate_load (t := 4) rfl ?_); refine bx_load rfl _ (by rfl) gb134 _ (by rfl) BK134.out _ Try.underlying4 rfl _ (by rfl) ?_) | ((with_reducible refine gate_load (t := 59) rfl ?_); refine bx_load rfl _ (by rfl) gb134 _ (by rfl) BK134.out _ Try.underlying59 rfl _ (by rfl) ?_) | ((with_reducible refine gate_load (t := 61) rfl ?_); refine load_box rfl 61 _ rfl gb134 rfl Try.underlying61 rfl BK134.out (by kernel_rfl) ?_) | ((with_reducible refine gate_load (t := 3) rfl ?_); refine bx_load rfl _ (by rfl) gb135 _ (by rfl) BK135.out _ Try.underlying3 rfl _ (by rfl) ?_) | ((with_reducible refine gate_load (t := 4) rfl ?_); refine bx_load rfl _ (by rfl) gb135 _ (by rfl) BK135.out _ Try.underlying4 rfl _ (by rfl) ?_) | ((with_reducible refine gate_load (t := 59) rfl ?_); refine bx_load rfl _ (by rfl) gb135 _ (by rfl) BK135.out _ Try.underlying59 rfl _ (by rfl) ?_) | ((with_reducible refine gate_load (t := 61) rfl ?_); refine load_box rfl 61 _ rfl gb135 rfl Try.underlying61 rfl BK135.out (by kernel_rfl) ?_) | ((with_reducible refine gate_st (t := 3) rfl ?_); refine bx_store rfl rfl _ _ (by rfl) gb133 _ (by rfl) BK133.out [_] (by rfl) (by kernel_rfl) (by exact Nat.le_of_ble_eq_true rfl) (by first | exact oo_1 rfl | exact oo_1 (one_of HO138.out)) ?_; intro w_ hbk_ hg_; simp only [List.take_succ_cons, List.take_zero, List.drop_succ_cons, List.drop_zero, List.cons_append, List.nil_append, List.length_cons, List.length_nil, Nat.reduceAdd] at hbk_; have hlt_ := blk_lt BK133.out; (try (have no_ := Aside0.mk (bx_row HO138.out BK133.out (by decide) hg_); clear HO138; have HO138 := no_; clear no_)); (try (have nc_ := Aside0.mk (bx_other BK134.out hg_ NB134_133.out); clear BK134; have BK134 := nc_; clear nc_)); (try (have nc_ := Aside0.mk (bx_other BK135.out hg_ NB135_133.out); clear BK135; have BK135 := nc_; clear nc_)); have nb_ := Aside0.mk hbk_; have nh_ := Aside0.mk (bx_below HB.out hg_ GE133.out hlt_); clear BK133 HB; have BK133 := nb_; have HB := nh_; clear nb_ nh_ hbk_ hg_ hlt_) | ((with_reducible refine gate_st (t := 4) rfl ?_); refine bx_store rfl rfl _ _ (by rfl) gb133 _ (by rfl) BK133.out [_] (by rfl) (by kernel_rfl) (by exact Nat.le_of_ble_eq_true rfl) (by first | exact oo_1 rfl | exact oo_1 (one_of HO138.out)) ?_; intro w_ hbk_ hg_; simp only [List.take_succ_cons, List.take_zero, List.drop_succ_cons, List.drop_zero, List.cons_append, List.nil_append, List.length_cons, List.length_nil, Nat.reduceAdd] at hbk_; have hlt_ := blk_lt BK133.out; (try (have no_ := Aside0.mk (bx_row HO138.out BK133.out (by decide) hg_); clear HO138; have HO138 := no_; clear no_)); (try (have nc_ := Aside0.mk (bx_other BK134.out hg_ NB134_133.out); clear BK134; have BK134 := nc_; clear nc_)); (try (have nc_ := Aside0.mk (bx_other BK135.out hg_ NB135_133.out); clear BK135; have BK135 := nc_; clear nc_)); have nb_ := Aside0.mk hbk_; have nh_ := Aside0.mk (bx_below HB.out hg_ GE133.out hlt_); clear BK133 HB; have BK133 := nb_; have HB := nh_; clear nb_ nh_ hbk_ hg_ hlt_) | ((with_reducible refine gate_st (t := 50) rfl ?_); refine bx_store rfl rfl _ _ (by rfl) gb133 _ (by rfl) BK133.out [_] (by rfl) (by kernel_rfl) (by exact Nat.le_of_ble_eq_true rfl) (by first | exact oo_1 rfl | exact oo_1 (one_of HO138.out)) ?_; intro w_ hbk_ hg_; simp only [List.take_succ_cons, List.take_zero, List.drop_succ_cons, List.drop_zero, List.cons_append, List.nil_append, List.length_cons, List.length_nil, Nat.reduceAdd] at hbk_; have hlt_ := blk_lt BK133.out; (try (have no_ := Aside0.mk (bx_row HO138.out BK133.out (by decide) hg_); clear HO138; have HO138 := no_; clear no_)); (try (have nc_ := Aside0.mk (bx_other BK134.out hg_ NB134_133.out); clear BK134; have BK134 := nc_; clear nc_)); (try (have nc_ := Aside0.mk (bx_other BK135.out hg_ NB135_133.out); clear BK135; have BK135 := nc_; clear nc_)); have nb_ := Aside0.mk hbk_; have nh_ := Aside0.mk (bx_below HB.out hg_ GE133.out hlt_); clear BK133 HB; have BK133 := nb_; have HB := nh_; clear nb_ nh_ hbk_ hg_ hlt_) | ((with_reducible refine gate_st (t := 52) rfl ?_); refine bx_store rfl rfl _ _ (by rfl) gb133 0 (by rfl) BK133.out _ (by rfl) (by kernel_rfl) (by exact Nat.le_of_ble_eq_true rfl) (by exact oo_7 rfl rfl rfl rfl rfl rfl rfl) ?_; intro w_ hbk_ hg_; simp only [List.take_succ_cons, List.take_zero, List.drop_succ_cons, List.drop_zero, List.cons_append, List.nil_append, List.length_cons, List.length_nil, Nat.reduceAdd] at hbk_; have hlt_ := blk_lt BK133.out; (try (have no_ := Aside0.mk (bx_row HO138.out BK133.out (by decide) hg_); clear HO138; have HO138 := no_; clear no_)); (try (have nc_ := Aside0.mk (bx_other BK134.out hg_ NB134_133.out); clear BK134; have BK134 := nc_; clear nc_)); (try (have nc_ := Aside0.mk (bx_other BK135.out hg_ NB135_133.out); clear BK135; have BK135 := nc_; clear nc_)); have nb_ := Aside0.mk hbk_; have nh_ := Aside0.mk (bx_below HB.out hg_ GE133.out hlt_); clear BK133 HB; have BK133 := nb_; have HB := nh_; clear nb_ nh_ hbk_ hg_ hlt_) | ((with_reducible refine gate_st (t := 3) rfl ?_); refine bx_store rfl rfl _ _ (by rfl) gb134 _ (by rfl) BK134.out [_] (by rfl) (by kernel_rfl) (by exact Nat.le_of_ble_eq_true rfl) (by first | exact oo_1 rfl | exact oo_1 (one_of HO138.out)) ?_; intro w_ hbk_ hg_; simp only [List.take_succ_cons, List.take_zero, List.drop_succ_cons, List.drop_zero, List.cons_append, List.nil_append, List.length_cons, List.length_nil, Nat.reduceAdd] at hbk_; have hlt_ := blk_lt BK134.out; (try (have no_ := Aside0.mk (bx_row HO138.out BK134.out (by decide) hg_); clear HO138; have HO138 := no_; clear no_)); (try (have nc_ := Aside0.mk (bx_other BK133.out hg_ NB133_134.out); clear BK133; have BK133 := nc_; clear nc_)); (try (have nc_ := Aside0.mk (bx_other BK135.out hg_ NB135_134.out); clear BK135; have BK135 := nc_; clear nc_)); have nb_ := Aside0.mk hbk_; have nh_ := Aside0.mk (bx_below HB.out hg_ GE134.out hlt_); clear BK134 HB; have BK134 := nb_; have HB := nh_; clear nb_ nh_ hbk_ hg_ hlt_) | ((with_reducible refine gate_st (t := 4) rfl ?_); refine bx_store rfl rfl _ _ (by rfl) gb134 _ (by rfl) BK134.out [_] (by rfl) (by kernel_rfl) (by exact Nat.le_of_ble_eq_true rfl) (by first | exact oo_1 rfl | exact oo_1 (one_of HO138.out)) ?_; intro w_ hbk_ hg_; simp only [List.take_succ_cons, List.take_zero, List.drop_succ_cons, List.drop_zero, List.cons_append, List.nil_append, List.length_cons, List.length_nil, Nat.reduceAdd] at hbk_; have hlt_ := blk_lt BK134.out; (try (have no_ := Aside0.mk (bx_row HO138.out BK134.out (by decide) hg_); clear HO138; have HO138 := no_; clear no_)); (try (have nc_ := Aside0.mk (bx_other BK133.out hg_ NB133_134.out); clear BK133; have BK133 := nc_; clear nc_)); (try (have nc_ := Aside0.mk (bx_other BK135.out hg_ NB135_134.out); clear BK135; have BK135 := nc_; clear nc_)); have nb_ := Aside0.mk hbk_; have nh_ := Aside0.mk (bx_below HB.out hg_ GE134.out hlt_); clear BK134 HB; have BK134 := nb_; have HB := nh_; clear nb_ nh_ hbk_ hg_ hlt_) | ((with_reducible refine gate_st (t := 59) rfl ?_); refine bx_store rfl rfl _ _ (by rfl) gb134 _ (by rfl) BK134.out [_] (by rfl) (by kernel_rfl) (by exact Nat.le_of_ble_eq_true rfl) (by first | exact oo_1 rfl | exact oo_1 (one_of HO138.out)) ?_; intro w_ hbk_ hg_; simp only [List.take_succ_cons, List.take_zero, List.drop_succ_cons, List.drop_zero, List.cons_append, List.nil_append, List.length_cons, List.length_nil, Nat.reduceAdd] at hbk_; have hlt_ := blk_lt BK134.out; (try (have no_ := Aside0.mk (bx_row HO138.out BK134.out (by decide) hg_); clear HO138; have HO138 := no_; clear no_)); (try (have nc_ := Aside0.mk (bx_other BK133.out hg_ NB133_134.out); clear BK133; have BK133 := nc_; clear nc_)); (try (have nc_ := Aside0.mk (bx_other BK135.out hg_ NB135_134.out); clear BK135; have BK135 := nc_; clear nc_)); have nb_ := Aside0.mk hbk_; have nh_ := Aside0.mk (bx_below HB.out hg_ GE134.out hlt_); clear BK134 HB; have BK134 := nb_; have HB := nh_; clear nb_ nh_ hbk_ hg_ hlt_) | ((with_reducible refine gate_st (t := 61) rfl ?_); refine bx_store rfl rfl _ _ (by rfl) gb134 0 (by rfl) BK134.out _ (by rfl) (by kernel_rfl) (by exact Nat.le_of_ble_eq_true rfl) (by exact oo_7 rfl rfl rfl rfl rfl rfl rfl) ?_; intro w_ hbk_ hg_; simp only [List.take_succ_cons, List.take_zero, List.drop_succ_cons, List.drop_zero, List.cons_append, List.nil_append, List.length_cons, List.length_nil, Nat.reduceAdd] at hbk_; have hlt_ := blk_lt BK134.out; (try (have no_ := Aside0.mk (bx_row HO138.out BK134.out (by decide) hg_); clear HO138; have HO138 := no_; clear no_)); (try (have nc_ := Aside0.mk (bx_other BK133.out hg_ NB133_134.out); clear BK133; have BK133 := nc_; clear nc_)); (try (have nc_ := Aside0.mk (bx_other BK135.out hg_ NB135_134.out); clear BK135; have BK135 := nc_; clear nc_)); have nb_ := Aside0.mk hbk_; have nh_ := Aside0.mk (bx_below HB.out hg_ GE134.out hlt_); clear BK134 HB; have BK134 := nb_; have HB := nh_; clear nb_ nh_ hbk_ hg_ hlt_) | ((with_reducible refine gate_st (t := 3) rfl ?_); refine bx_store rfl rfl _ _ (by rfl) gb135 _ (by rfl) BK135.out [_] (by rfl) (by kernel_rfl) (by exact Nat.le_of_ble_eq_true rfl) (by first | exact oo_1 rfl | exact oo_1 (one_of HO138.out)) ?_; intro w_ hbk_ hg_; simp only [List.take_succ_cons, List.take_zero, List.drop_succ_cons, List.drop_zero, List.cons_append, List.nil_append, List.length_cons, List.length_nil, Nat.reduceAdd] at hbk_; have hlt_ := blk_lt BK135.out; (try (have no_ := Aside0.mk (bx_row HO138.out BK135.out (by decide) hg_); clear HO138; have HO138 := no_; clear no_)); (try (have nc_ := Aside0.mk (bx_other BK133.out hg_ NB133_135.out); clear BK133; have BK133 := nc_; clear nc_)); (try (have nc_ := Aside0.mk (bx_other BK134.out hg_ NB134_135.out); clear BK134; have BK134 := nc_; clear nc_)); have nb_ := Aside0.mk hbk_; have nh_ := Aside0.mk (bx_below HB.out hg_ GE135.out hlt_); clear BK135 HB; have BK135 := nb_; have HB := nh_; clear nb_ nh_ hbk_ hg_ hlt_) | ((with_reducible refine gate_st (t := 4) rfl ?_); refine bx_store rfl rfl _ _ (by rfl) gb135 _ (by rfl) BK135.out [_] (by rfl) (by kernel_rfl) (by exact Nat.le_of_ble_eq_true rfl) (by first | exact oo_1 rfl | exact oo_1 (one_of HO138.out)) ?_; intro w_ hbk_ hg_; simp only [List.take_succ_cons, List.take_zero, List.drop_succ_cons, List.drop_zero, List.cons_append, List.nil_append, List.length_cons, List.length_nil, Nat.reduceAdd] at hbk_; have hlt_ := blk_lt BK135.out; (try (have no_ := Aside0.mk (bx_row HO138.out BK135.out (by decide) hg_); clear HO138; have HO138 := no_; clear no_)); (try (have nc_ := Aside0.mk (bx_other BK133.out hg_ NB133_135.out); clear BK133; have BK133 := nc_; clear nc_)); (try (have nc_ := Aside0.mk (bx_other BK134.out hg_ NB134_135.out); clear BK134; have BK134 := nc_; clear nc_)); have nb_ := Aside0.mk hbk_; have nh_ := Aside0.mk (bx_below HB.out hg_ GE135.out hlt_); clear BK135 HB; have BK135 := nb_; have HB := nh_; clear nb_ nh_ hbk_ hg_ hlt_) | ((with_reducible refine gate_st (t := 59) rfl ?_); refine bx_store rfl rfl _ _ (by rfl) gb135 _ (by rfl) BK135.out [_] (by rfl) (by kernel_rfl) (by exact Nat.le_of_ble_eq_true rfl) (by first | exact oo_1 rfl | exact oo_1 (one_of HO138.out)) ?_; intro w_ hbk_ hg_; simp only [List.take_succ_cons, List.take_zero, List.drop_succ_cons, List.drop_zero, List.cons_append, List.nil_append, List.length_cons, List.length_nil, Nat.reduceAdd] at hbk_; have hlt_ := blk_lt BK135.out; (try (have no_ := Aside0.mk (bx_row HO138.out BK135.out (by decide) hg_); clear HO138; have HO138 := no_; clear no_)); (try (have nc_ := Aside0.mk (bx_other BK133.out hg_ NB133_135.out); clear BK133; have BK133 := nc_; clear nc_)); (try (have nc_ := Aside0.mk (bx_other BK134.out hg_ NB134_135.out); clear BK134; have BK134 := nc_; clear nc_)); have nb_ := Aside0.mk hbk_; have nh_ := Aside0.mk (bx_below HB.out hg_ GE135.out hlt_); clear BK135 HB; have BK135 := nb_; have HB := nh_; clear nb_ nh_ hbk_ hg_ hlt_) | ((with_reducible refine gate_st (t := 61) rfl ?_); refine bx_store rfl rfl _ _ (by rfl) gb135 0 (by rfl) BK135.out _ (by rfl) (by kernel_rfl) (by exact Nat.le_of_ble_eq_true rfl) (by exact oo_7 rfl rfl rfl rfl rfl rfl rfl) ?_; intro w_ hbk_ hg_; simp only [List.take_succ_cons, List.take_zero, List.drop_succ_cons, List.drop_zero, List.cons_append, List.nil_append, List.length_cons, List.length_nil, Nat.reduceAdd] at hbk_; have hlt_ := blk_lt BK135.out; (try (have no_ := Aside0.mk (bx_row HO138.out BK135.out (by decide) hg_); clear HO138; have HO138 := no_; clear no_)); (try (have nc_ := Aside0.mk (bx_other BK133.out hg_ NB133_135.out); clear BK133; have BK133 := nc_; clear nc_)); (try (have nc_ := Aside0.mk (bx_other BK134.out hg_ NB134_135.out); clear BK134; have BK134 := nc_; clear nc_)); have nb_ := Aside0.mk hbk_; have nh_ := Aside0.mk (bx_below HB.out hg_ GE135.out hlt_); clear BK135 HB; have BK135 := nb_; have HB := nh_; clear nb_ nh_ hbk_ hg_ hlt_) | ((with_reducible refine gate_dst (N := 1) rfl ?_); refine box_event ?hg (N := 1) ?hd (cs := #[.int .i64 a0_0, .int .i64 a0_1, .int .i64 a0_2, .int .i64 a0_3, .int .i64 a0_4, .bool a0_5, .slice A0_6 l0_6.length c0_6]) (t := 52) ?hr ?_; (case hd => rfl); (case hg => rfl); (case hr => first | (go_simp; done) | (go_simp; rfl)); intro gb133 hg w3 hbox hb; have n0_ := Aside0.mk (below_step (by repeat (first | (with_reducible first | exact HB.out | apply below_alloc | apply pw_below_drewN | apply below_drew1) | exact HB.out)) hb); have n1_ := Aside0.mk (hbox); have n2_ := Aside0.mk ((by rw [hg]; exact (below_size (by repeat (first | (with_reducible first | exact HB.out | apply below_alloc | apply pw_below_drewN | apply below_drew1) | exact HB.out))) : w.heap.size ≤ gb133)); have n3_ := n2_; clear HB; have HB := n0_; have BK133 := n1_; have GW133 := n2_; have GE133 := n3_; clear n0_ n1_ n2_ n3_; clear hb hbox hg) | ((with_reducible refine gate_dst (N := 2) rfl ?_); refine box_event ?hg (N := 2) ?hd (cs := #[.int .i64 0, .int .i64 0, .int .i64 0, .int .i64 0, .int .i64 0, .bool false, .slice none 0 0]) (t := 61) ?hr ?_; (case hd => rfl); (case hg => rfl); (case hr => first | (go_simp; done) | (go_simp; rfl)); intro gb134 hg w4 hbox hb; have n0_ := Aside0.mk (blk_below BK133.out hb); have n1_ := Aside0.mk (below_step (by repeat (first | (with_reducible first | exact HB.out | apply below_alloc | apply pw_below_drewN | apply below_drew1 | refine below_set ?_ GE133.out) | exact HB.out)) hb); have n2_ := Aside0.mk (hbox); have n3_ := Aside0.mk ((by rw [hg]; exact (below_size (by repeat (first | (with_reducible first | exact HB.out | apply below_alloc | apply pw_below_drewN | apply below_drew1 | refine below_set ?_ GE133.out) | exact HB.out))) : w.heap.size ≤ gb134)); have n4_ := n3_; have n5_ := Aside0.mk ((by rw [hg]; exact Nat.ne_of_lt (blk_lt BK133.out) : gb133 ≠ gb134)); have n6_ := Aside0.mk ((by rw [hg]; exact Nat.ne_of_gt (blk_lt BK133.out) : gb134 ≠ gb133)); clear BK133; clear HB; have BK133 := n0_; have HB := n1_; have BK134 := n2_; have GW134 := n3_; have GE134 := n4_; have NB133_134 := n5_; have NB134_133 := n6_; clear n0_ n1_ n2_ n3_ n4_ n5_ n6_; clear hb hbox hg) | ((with_reducible refine gate_dst (N := 3) rfl ?_); refine box_event ?hg (N := 3) ?hd (cs := #[.int .i64 0, .int .i64 0, .int .i64 0, .int .i64 0, .int .i64 0, .bool false, .slice none 0 0]) (t := 61) ?hr ?_; (case hd => rfl); (case hg => rfl); (case hr => first | (go_simp; done) | (go_simp; rfl)); intro gb135 hg w5 hbox hb; have n0_ := Aside0.mk (blk_below BK133.out hb); have n1_ := Aside0.mk (blk_below BK134.out hb); have n2_ := Aside0.mk (below_step (by repeat (first | (with_reducible first | exact HB.out | apply below_alloc | apply pw_below_drewN | apply below_drew1 | refine below_set ?_ GE133.out | refine below_set ?_ GE134.out) | exact HB.out)) hb); have n3_ := Aside0.mk (hbox); have n4_ := Aside0.mk ((by rw [hg]; exact (below_size (by repeat (first | (with_reducible first | exact HB.out | apply below_alloc | apply pw_below_drewN | apply below_drew1 | refine below_set ?_ GE133.out | refine below_set ?_ GE134.out) | exact HB.out))) : w.heap.size ≤ gb135)); have n5_ := n4_; have n6_ := Aside0.mk ((by rw [hg]; exact Nat.ne_of_lt (blk_lt BK133.out) : gb133 ≠ gb135)); have n7_ := Aside0.mk ((by rw [hg]; exact Nat.ne_of_gt (blk_lt BK133.out) : gb135 ≠ gb133)); have n8_ := Aside0.mk ((by rw [hg]; exact Nat.ne_of_lt (blk_lt BK134.out) : gb134 ≠ gb135)); have n9_ := Aside0.mk ((by rw [hg]; exact Nat.ne_of_gt (blk_lt BK134.out) : gb135 ≠ gb134)); clear BK133; clear BK134; clear HB; have BK133 := n0_; have BK134 := n1_; have HB := n2_; have BK135 := n3_; have GW135 := n4_; have GE135 := n5_; have NB133_135 := n6_; have NB135_133 := n7_; have NB134_135 := n8_; have NB135_134 := n9_; clear n0_ n1_ n2_ n3_ n4_ n5_ n6_ n7_ n8_ n9_; clear hb hbox hg) | ((with_reducible refine gate_callee (f := 68) rfl ?_); refine goesL_ (some 24) rfl rfl Try.func68 (by kernel_rfl) rfl #[.slice A0_6 l0_6.length c0_6] rfl (by (try simp only [List.map_toArray, List.map_cons, List.map_nil]); first | done | rfl | (simp only [List.length_drop, List.length_take]; rfl)) ?_; (with_reducible refine (laws_toEventS.calls k _ _ l0_6 t136 _ ?side1 ?side2 A2.out).mono ?_); (case side1 => exact Kd.C_below HR0_6.out (by repeat (first | (with_reducible first | exact HB.out | apply below_alloc | apply pw_below_drewN | apply below_drew1 | refine below_set ?_ GE133.out | refine below_set ?_ GE134.out | refine below_set ?_ GE135.out) | exact HB.out))); (case side2 => exact HC0_6.out); rintro e w11 ⟨v137, rfl, ho0, hb⟩; refine ⟨_, rfl, ?_⟩; have n0_ := Aside0.mk (Kd.R_lower ho0 (below_size (by repeat (first | (with_reducible first | exact HB.out | apply below_alloc | apply pw_below_drewN | apply below_drew1 | refine below_set ?_ GE133.out | refine below_set ?_ GE134.out | refine below_set ?_ GE135.out) | exact HB.out)))); have n1_ := Aside0.mk (blk_below BK133.out hb); have n2_ := Aside0.mk (blk_below BK134.out hb); have n3_ := Aside0.mk (blk_below BK135.out hb); have n4_ := Aside0.mk (below_step (by repeat (first | (with_reducible first | exact HB.out | apply below_alloc | apply pw_below_drewN | apply below_drew1 | refine below_set ?_ GE133.out | refine below_set ?_ GE134.out | refine below_set ?_ GE135.out) | exact HB.out)) hb); clear BK133; clear BK134; clear BK135; clear HB; have HO138 := n0_; have BK133 := n1_; have BK134 := n2_; have BK135 := n3_; have HB := n4_; clear n0_ n1_ n2_ n3_ n4_; (try clear hb); (try clear hb2); (try clear hk); (try clear hi); (try clear ho0); obtain ⟨Ao12, co12, eo12⟩ := Kd.R_slice HO138.out; subst eo12))  -- boxed
  refine bodyPost_ret (results_cell_row rfl _ _ gb134 61 #[.int .i64 a0_0, .int .i64 a0_1, .int .i64 a0_2, .int .i64 a0_3, .int .i64 a0_4, .bool a0_5, .slice Ao12 t136.length co12] (0, 0) _ rfl BK134.out Try.underlying61 rfl (by kernel_rfl)) rfl ?_
  exact ⟨_, by first | rfl | (simp [errW_none, errW_some] <;> rfl) | (simp [*, errW_none, errW_some] <;> rfl), by (with_reducible repeat (first | apply Kd.R_alloc | apply Kd.R_drewN | apply Kd.R_drew)); exact Kd.R_mono HO138.out (fun _ hk => trivial), by repeat (first | (with_reducible first | exact HB.out | apply below_alloc | apply pw_below_drewN | apply below_drew1 | refine below_set ?_ GE133.out | refine below_set ?_ GE134.out | refine below_set ?_ GE135.out) | exact HB.out)⟩

/-! ### laws_toEffect: function 28 -/
def laws_toEffect.f (k : Nat) (a0_0 : Int) (a0_1 : Int) (a0_2 : Int) (a0_3 : Int) (a0_4 : Int) (a0_5 : Int) (a0_6 : Int) (a0_7 : Int) (a0_8 : Int) (a0_9 : Int) (a0_10 : Int) (a0_11 : Int) (a0_12 : Int) (a0_13 : Int) (a0_14 : Int) (a0_15 : Int) (a0_16 : Int) (a0_17 : Int) (a0_18 : Bool) (l0_19 : List (S34)) (a0_20 : Int) (a0_21 : Int) : Option (Int × Int × Int × Int × Int × Int × Int × Int × Int × Int × Int × Int × Int × Int × Int × Int × Int × Int × Bool × (List (S40)) × Int × Int) := (laws_toPat.f a0_4 a0_5 a0_6 a0_7 a0_8 a0_9 a0_10).bind fun bt142 => ((laws_toGuard.f a0_11 a0_12).bind fun bt149 => ((laws_toAct.f k a0_13 a0_14 a0_15 a0_16 a0_17 a0_18 l0_19).bind fun bt151 => (some (a0_0, a0_1, a0_2, a0_3, bt142.1, bt142.2.1, bt142.2.2.1, bt142.2.2.2.1, bt142.2.2.2.2.1, bt142.2.2.2.2.2.1, bt142.2.2.2.2.2.2, bt149.1, bt149.2, bt151.1, bt151.2.1, bt151.2.2.1, bt151.2.2.2.1, bt151.2.2.2.2.1, bt151.2.2.2.2.2.1, bt151.2.2.2.2.2.2, a0_20, a0_21))))
theorem laws_toEffect.mono : ∀ a0 a1 a2 a3 a4 a5 a6 a7 a8 a9 a10 a11 a12 a13 a14 a15 a16 a17 a18 a19 a20 a21 k, LeO (laws_toEffect.f k a0 a1 a2 a3 a4 a5 a6 a7 a8 a9 a10 a11 a12 a13 a14 a15 a16 a17 a18 a19 a20 a21) (laws_toEffect.f (k + 1) a0 a1 a2 a3 a4 a5 a6 a7 a8 a9 a10 a11 a12 a13 a14 a15 a16 a17 a18 a19 a20 a21) := by
  intro a0 a1 a2 a3 a4 a5 a6 a7 a8 a9 a10 a11 a12 a13 a14 a15 a16 a17 a18 a19 a20 a21 k
  unfold laws_toEffect.f
  repeat' first
      | (with_reducible exact laws_toAct.mono _ _ _ _ _ _ _ _)
      | (with_reducible exact LeO.refl _)
      | (with_reducible exact LeO.none _)
      | (with_reducible refine LeO.ite ?_ ?_)
      | (with_reducible refine LeO.bind ?_ (fun _ => ?_))
      | exact laws_toAct.mono _ _ _ _ _ _ _ _
      | exact LeO.none _
      | refine LeO.ite ?_ ?_
      | refine LeO.bind ?_ (fun _ => ?_)
set_option maxHeartbeats 8000000 in
set_option maxRecDepth 100000 in
theorem laws_toEffect.calls (k : Nat) (a0_0 : Int) (a0_1 : Int) (a0_2 : Int) (a0_3 : Int) (a0_4 : Int) (a0_5 : Int) (a0_6 : Int) (a0_7 : Int) (a0_8 : Int) (a0_9 : Int) (a0_10 : Int) (a0_11 : Int) (a0_12 : Int) (a0_13 : Int) (a0_14 : Int) (a0_15 : Int) (a0_16 : Int) (a0_17 : Int) (a0_18 : Bool) (A0_19 : Option Addr) (c0_19 : Nat) (l0_19 : List (S34)) (a0_20 : Int) (a0_21 : Int) (r1 : Int) (r2 : Int) (r3 : Int) (r4 : Int) (r5 : Int) (r6 : Int) (r7 : Int) (r8 : Int) (r9 : Int) (r10 : Int) (r11 : Int) (r12 : Int) (r13 : Int) (r14 : Int) (r15 : Int) (r16 : Int) (r17 : Int) (r18 : Int) (r19 : Bool) (r20 : List (S40)) (r21 : Int) (r22 : Int) (w : World) (hr0_19 : Kd.C k34 w A0_19 l0_19.length l0_19) (hc0_19 : l0_19.length ≤ c0_19) (h : laws_toEffect.f k a0_0 a0_1 a0_2 a0_3 a0_4 a0_5 a0_6 a0_7 a0_8 a0_9 a0_10 a0_11 a0_12 a0_13 a0_14 a0_15 a0_16 a0_17 a0_18 l0_19 a0_20 a0_21 = some (r1, r2, r3, r4, r5, r6, r7, r8, r9, r10, r11, r12, r13, r14, r15, r16, r17, r18, r19, r20, r21, r22)) :
    Calls Try.prog 28 #[.agg #[.int .i64 a0_0, .int .i64 a0_1, .int .i64 a0_2, .int .i64 a0_3, .int .i64 a0_4, .int .i64 a0_5, .int .i64 a0_6, .int .i64 a0_7, .int .i64 a0_8, .int .i64 a0_9, .int .i64 a0_10, .int .i64 a0_11, .int .i64 a0_12, .int .i64 a0_13, .int .i64 a0_14, .int .i64 a0_15, .int .i64 a0_16, .int .i64 a0_17, .bool a0_18, .slice A0_19 l0_19.length c0_19, .int .i64 a0_20, .int .i64 a0_21]] w fun e w' => ∃ v19_ : Value, e = .returned (.agg #[.int .i64 r1, .int .i64 r2, .int .i64 r3, .int .i64 r4, .int .i64 r5, .int .i64 r6, .int .i64 r7, .int .i64 r8, .int .i64 r9, .int .i64 r10, .int .i64 r11, .int .i64 r12, .int .i64 r13, .int .i64 r14, .int .i64 r15, .int .i64 r16, .int .i64 r17, .int .i64 r18, .bool r19, v19_, .int .i64 r21, .int .i64 r22]) ∧ Kd.R k40 40 w' w.heap.size (fun _ => True) v19_ r20 ∧ Below w.heap.size w w' := by
  have hu54 := Try.underlying54
  have hu63 := Try.underlying63
  have hu47 := Try.underlying47
  have hu57 := Try.underlying57
  have hu49 := Try.underlying49
  have hu58 := Try.underlying58
  have hu52 := Try.underlying52
  have hu61 := Try.underlying61
  have HR0_19 := Aside0.mk hr0_19
  have HC0_19 := Aside0.mk hc0_19
  clear hr0_19 hc0_19
  have HB := Aside0.mk (Below.refl w.heap.size w)
  have H : ((laws_toPat.f a0_4 a0_5 a0_6 a0_7 a0_8 a0_9 a0_10).bind fun bt142 => ((laws_toGuard.f a0_11 a0_12).bind fun bt149 => ((laws_toAct.f k a0_13 a0_14 a0_15 a0_16 a0_17 a0_18 l0_19).bind fun bt151 => (some (a0_0, a0_1, a0_2, a0_3, bt142.1, bt142.2.1, bt142.2.2.1, bt142.2.2.2.1, bt142.2.2.2.2.1, bt142.2.2.2.2.2.1, bt142.2.2.2.2.2.2, bt149.1, bt149.2, bt151.1, bt151.2.1, bt151.2.2.1, bt151.2.2.2.1, bt151.2.2.2.2.1, bt151.2.2.2.2.2.1, bt151.2.2.2.2.2.2, a0_20, a0_21))))) = some (r1, r2, r3, r4, r5, r6, r7, r8, r9, r10, r11, r12, r13, r14, r15, r16, r17, r18, r19, r20, r21, r22) := h
  clear h
  replace H := Option.bind_eq_some_iff.mp H
  obtain ⟨⟨t142, t143, t144, t145, t146, t147, t148⟩, A20, H⟩ := H
  replace H : ((laws_toGuard.f a0_11 a0_12).bind fun bt149 => ((laws_toAct.f k a0_13 a0_14 a0_15 a0_16 a0_17 a0_18 l0_19).bind fun bt151 => (some (a0_0, a0_1, a0_2, a0_3, t142, t143, t144, t145, t146, t147, t148, bt149.1, bt149.2, bt151.1, bt151.2.1, bt151.2.2.1, bt151.2.2.2.1, bt151.2.2.2.2.1, bt151.2.2.2.2.2.1, bt151.2.2.2.2.2.2, a0_20, a0_21)))) = some (r1, r2, r3, r4, r5, r6, r7, r8, r9, r10, r11, r12, r13, r14, r15, r16, r17, r18, r19, r20, r21, r22) := H
  have A2 := Aside0.mk A20
  clear A20
  replace H := Option.bind_eq_some_iff.mp H
  obtain ⟨⟨t149, t150⟩, A30, H⟩ := H
  replace H : ((laws_toAct.f k a0_13 a0_14 a0_15 a0_16 a0_17 a0_18 l0_19).bind fun bt151 => (some (a0_0, a0_1, a0_2, a0_3, t142, t143, t144, t145, t146, t147, t148, t149, t150, bt151.1, bt151.2.1, bt151.2.2.1, bt151.2.2.2.1, bt151.2.2.2.2.1, bt151.2.2.2.2.2.1, bt151.2.2.2.2.2.2, a0_20, a0_21))) = some (r1, r2, r3, r4, r5, r6, r7, r8, r9, r10, r11, r12, r13, r14, r15, r16, r17, r18, r19, r20, r21, r22) := H
  have A3 := Aside0.mk A30
  clear A30
  replace H := Option.bind_eq_some_iff.mp H
  obtain ⟨⟨t151, t152, t153, t154, t155, t156, t157⟩, A40, H⟩ := H
  replace H : (some (a0_0, a0_1, a0_2, a0_3, t142, t143, t144, t145, t146, t147, t148, t149, t150, t151, t152, t153, t154, t155, t156, t157, a0_20, a0_21)) = some (r1, r2, r3, r4, r5, r6, r7, r8, r9, r10, r11, r12, r13, r14, r15, r16, r17, r18, r19, r20, r21, r22) := H
  have A4 := Aside0.mk A40
  clear A40
  simp only [Option.some.injEq, Prod.mk.injEq] at H
  obtain ⟨rfl, rfl, rfl, rfl, rfl, rfl, rfl, rfl, rfl, rfl, rfl, rfl, rfl, rfl, rfl, rfl, rfl, rfl, rfl, rfl, rfl, rfl⟩ := H
  go_enter Try.func28, Try.ntmps28
  go_wp2_with (first | ((with_reducible refine gate_load (t := 3) rfl ?_); refine bx_load rfl _ (by rfl) gb139 _ (by rfl) BK139.out _ Try.underlying3 rfl _ (by rfl) ?_) | ((with_reducible refine gate_load (t := 4) rfl ?_); refine bx_load rfl _ (by rfl) gb139 _ (by rfl) BK139.out _ Try.underlying4 rfl _ (by rfl) ?_) | ((with_reducible refine gate_load (t := 50) rfl ?_); refine bx_load rfl _ (by rfl) gb139 _ (by rfl) BK139.out _ Try.underlying50 rfl _ (by rfl) ?_) | ((with_reducible refine gate_load (t := 47) rfl ?_); refine bx_loadn rfl _ (by rfl) gb139 4 (by rfl) BK139.out _ Try.underlying47 rfl 7 (by kernel_rfl) _ (by rfl) (by rfl) ?_) | ((with_reducible refine gate_load (t := 49) rfl ?_); refine bx_loadn rfl _ (by rfl) gb139 11 (by rfl) BK139.out _ Try.underlying49 rfl 2 (by kernel_rfl) _ (by rfl) (by rfl) ?_) | ((with_reducible refine gate_load (t := 52) rfl ?_); refine bx_loadn rfl _ (by rfl) gb139 13 (by rfl) BK139.out _ Try.underlying52 rfl 7 (by kernel_rfl) _ (by rfl) (by rfl) ?_) | ((with_reducible refine gate_load (t := 54) rfl ?_); refine load_box rfl 54 _ rfl gb139 rfl Try.underlying54 rfl BK139.out (by kernel_rfl) ?_) | ((with_reducible refine gate_load (t := 3) rfl ?_); refine bx_load rfl _ (by rfl) gb140 _ (by rfl) BK140.out _ Try.underlying3 rfl _ (by rfl) ?_) | ((with_reducible refine gate_load (t := 4) rfl ?_); refine bx_load rfl _ (by rfl) gb140 _ (by rfl) BK140.out _ Try.underlying4 rfl _ (by rfl) ?_) | ((with_reducible refine gate_load (t := 59) rfl ?_); refine bx_load rfl _ (by rfl) gb140 _ (by rfl) BK140.out _ Try.underlying59 rfl _ (by rfl) ?_) | ((with_reducible refine gate_load (t := 57) rfl ?_); refine bx_loadn rfl _ (by rfl) gb140 4 (by rfl) BK140.out _ Try.underlying57 rfl 7 (by kernel_rfl) _ (by rfl) (by rfl) ?_) | ((with_reducible refine gate_load (t := 58) rfl ?_); refine bx_loadn rfl _ (by rfl) gb140 11 (by rfl) BK140.out _ Try.underlying58 rfl 2 (by kernel_rfl) _ (by rfl) (by rfl) ?_) | ((with_reducible refine gate_load (t := 61) rfl ?_); refine bx_loadn rfl _ (by rfl) gb140 13 (by rfl) BK140.out _ Try.underlying61 rfl 7 (by kernel_rfl) _ (by rfl) (by rfl) ?_) | ((with_reducible refine gate_load (t := 63) rfl ?_); refine load_box rfl 63 _ rfl gb140 rfl Try.underlying63 rfl BK140.out (by kernel_rfl) ?_) | ((with_reducible refine gate_load (t := 3) rfl ?_); refine bx_load rfl _ (by rfl) gb141 _ (by rfl) BK141.out _ Try.underlying3 rfl _ (by rfl) ?_) | ((with_reducible refine gate_load (t := 4) rfl ?_); refine bx_load rfl _ (by rfl) gb141 _ (by rfl) BK141.out _ Try.underlying4 rfl _ (by rfl) ?_) | ((with_reducible refine gate_load (t := 59) rfl ?_); refine bx_load rfl _ (by rfl) gb141 _ (by rfl) BK141.out _ Try.underlying59 rfl _ (by rfl) ?_) | ((with_reducible refine gate_load (t := 57) rfl ?_); refine bx_loadn rfl _ (by rfl) gb141 4 (by rfl) BK141.out _ Try.underlying57 rfl 7 (by kernel_rfl) _ (by rfl) (by rfl) ?_) | ((with_reducible refine gate_load (t := 58) rfl ?_); refine bx_loadn rfl _ (by rfl) gb141 11 (by rfl) BK141.out _ Try.underlying58 rfl 2 (by kernel_rfl) _ (by rfl) (by rfl) ?_) | ((with_reducible refine gate_load (t := 61) rfl ?_); refine bx_loadn rfl _ (by rfl) gb141 13 (by rfl) BK141.out _ Try.underlying61 rfl 7 (by kernel_rfl) _ (by rfl) (by rfl) ?_) | ((with_reducible refine gate_load (t := 63) rfl ?_); refine load_box rfl 63 _ rfl gb141 rfl Try.underlying63 rfl BK141.out (by kernel_rfl) ?_) | ((with_reducible refine gate_st (t := 3) rfl ?_); refine bx_store rfl rfl _ _ (by rfl) gb139 _ (by rfl) BK139.out [_] (by rfl) (by kernel_rfl) (by exact Nat.le_of_ble_eq_true rfl) (by first | exact oo_1 rfl | exact oo_1 (one_of HO159.out)) ?_; intro w_ hbk_ hg_; simp only [List.take_succ_cons, List.take_zero, List.drop_succ_cons, List.drop_zero, List.cons_append, List.nil_append, List.length_cons, List.length_nil, Nat.reduceAdd] at hbk_; have hlt_ := blk_lt BK139.out; (try (have no_ := Aside0.mk (bx_row HO159.out BK139.out (by decide) hg_); clear HO159; have HO159 := no_; clear no_)); (try (have nc_ := Aside0.mk (bx_other BK140.out hg_ NB140_139.out); clear BK140; have BK140 := nc_; clear nc_)); (try (have nc_ := Aside0.mk (bx_other BK141.out hg_ NB141_139.out); clear BK141; have BK141 := nc_; clear nc_)); have nb_ := Aside0.mk hbk_; have nh_ := Aside0.mk (bx_below HB.out hg_ GE139.out hlt_); clear BK139 HB; have BK139 := nb_; have HB := nh_; clear nb_ nh_ hbk_ hg_ hlt_) | ((with_reducible refine gate_st (t := 4) rfl ?_); refine bx_store rfl rfl _ _ (by rfl) gb139 _ (by rfl) BK139.out [_] (by rfl) (by kernel_rfl) (by exact Nat.le_of_ble_eq_true rfl) (by first | exact oo_1 rfl | exact oo_1 (one_of HO159.out)) ?_; intro w_ hbk_ hg_; simp only [List.take_succ_cons, List.take_zero, List.drop_succ_cons, List.drop_zero, List.cons_append, List.nil_append, List.length_cons, List.length_nil, Nat.reduceAdd] at hbk_; have hlt_ := blk_lt BK139.out; (try (have no_ := Aside0.mk (bx_row HO159.out BK139.out (by decide) hg_); clear HO159; have HO159 := no_; clear no_)); (try (have nc_ := Aside0.mk (bx_other BK140.out hg_ NB140_139.out); clear BK140; have BK140 := nc_; clear nc_)); (try (have nc_ := Aside0.mk (bx_other BK141.out hg_ NB141_139.out); clear BK141; have BK141 := nc_; clear nc_)); have nb_ := Aside0.mk hbk_; have nh_ := Aside0.mk (bx_below HB.out hg_ GE139.out hlt_); clear BK139 HB; have BK139 := nb_; have HB := nh_; clear nb_ nh_ hbk_ hg_ hlt_) | ((with_reducible refine gate_st (t := 50) rfl ?_); refine bx_store rfl rfl _ _ (by rfl) gb139 _ (by rfl) BK139.out [_] (by rfl) (by kernel_rfl) (by exact Nat.le_of_ble_eq_true rfl) (by first | exact oo_1 rfl | exact oo_1 (one_of HO159.out)) ?_; intro w_ hbk_ hg_; simp only [List.take_succ_cons, List.take_zero, List.drop_succ_cons, List.drop_zero, List.cons_append, List.nil_append, List.length_cons, List.length_nil, Nat.reduceAdd] at hbk_; have hlt_ := blk_lt BK139.out; (try (have no_ := Aside0.mk (bx_row HO159.out BK139.out (by decide) hg_); clear HO159; have HO159 := no_; clear no_)); (try (have nc_ := Aside0.mk (bx_other BK140.out hg_ NB140_139.out); clear BK140; have BK140 := nc_; clear nc_)); (try (have nc_ := Aside0.mk (bx_other BK141.out hg_ NB141_139.out); clear BK141; have BK141 := nc_; clear nc_)); have nb_ := Aside0.mk hbk_; have nh_ := Aside0.mk (bx_below HB.out hg_ GE139.out hlt_); clear BK139 HB; have BK139 := nb_; have HB := nh_; clear nb_ nh_ hbk_ hg_ hlt_) | ((with_reducible refine gate_st (t := 47) rfl ?_); refine bx_store rfl rfl _ _ (by rfl) gb139 4 (by rfl) BK139.out _ (by rfl) (by kernel_rfl) (by exact Nat.le_of_ble_eq_true rfl) (by exact oo_7 rfl rfl rfl rfl rfl rfl rfl) ?_; intro w_ hbk_ hg_; simp only [List.take_succ_cons, List.take_zero, List.drop_succ_cons, List.drop_zero, List.cons_append, List.nil_append, List.length_cons, List.length_nil, Nat.reduceAdd] at hbk_; have hlt_ := blk_lt BK139.out; (try (have no_ := Aside0.mk (bx_row HO159.out BK139.out (by decide) hg_); clear HO159; have HO159 := no_; clear no_)); (try (have nc_ := Aside0.mk (bx_other BK140.out hg_ NB140_139.out); clear BK140; have BK140 := nc_; clear nc_)); (try (have nc_ := Aside0.mk (bx_other BK141.out hg_ NB141_139.out); clear BK141; have BK141 := nc_; clear nc_)); have nb_ := Aside0.mk hbk_; have nh_ := Aside0.mk (bx_below HB.out hg_ GE139.out hlt_); clear BK139 HB; have BK139 := nb_; have HB := nh_; clear nb_ nh_ hbk_ hg_ hlt_) | ((with_reducible refine gate_st (t := 49) rfl ?_); refine bx_store rfl rfl _ _ (by rfl) gb139 11 (by rfl) BK139.out _ (by rfl) (by kernel_rfl) (by exact Nat.le_of_ble_eq_true rfl) (by exact oo_2 rfl rfl) ?_; intro w_ hbk_ hg_; simp only [List.take_succ_cons, List.take_zero, List.drop_succ_cons, List.drop_zero, List.cons_append, List.nil_append, List.length_cons, List.length_nil, Nat.reduceAdd] at hbk_; have hlt_ := blk_lt BK139.out; (try (have no_ := Aside0.mk (bx_row HO159.out BK139.out (by decide) hg_); clear HO159; have HO159 := no_; clear no_)); (try (have nc_ := Aside0.mk (bx_other BK140.out hg_ NB140_139.out); clear BK140; have BK140 := nc_; clear nc_)); (try (have nc_ := Aside0.mk (bx_other BK141.out hg_ NB141_139.out); clear BK141; have BK141 := nc_; clear nc_)); have nb_ := Aside0.mk hbk_; have nh_ := Aside0.mk (bx_below HB.out hg_ GE139.out hlt_); clear BK139 HB; have BK139 := nb_; have HB := nh_; clear nb_ nh_ hbk_ hg_ hlt_) | ((with_reducible refine gate_st (t := 52) rfl ?_); refine bx_store rfl rfl _ _ (by rfl) gb139 13 (by rfl) BK139.out _ (by rfl) (by kernel_rfl) (by exact Nat.le_of_ble_eq_true rfl) (by exact oo_7 rfl rfl rfl rfl rfl rfl rfl) ?_; intro w_ hbk_ hg_; simp only [List.take_succ_cons, List.take_zero, List.drop_succ_cons, List.drop_zero, List.cons_append, List.nil_append, List.length_cons, List.length_nil, Nat.reduceAdd] at hbk_; have hlt_ := blk_lt BK139.out; (try (have no_ := Aside0.mk (bx_row HO159.out BK139.out (by decide) hg_); clear HO159; have HO159 := no_; clear no_)); (try (have nc_ := Aside0.mk (bx_other BK140.out hg_ NB140_139.out); clear BK140; have BK140 := nc_; clear nc_)); (try (have nc_ := Aside0.mk (bx_other BK141.out hg_ NB141_139.out); clear BK141; have BK141 := nc_; clear nc_)); have nb_ := Aside0.mk hbk_; have nh_ := Aside0.mk (bx_below HB.out hg_ GE139.out hlt_); clear BK139 HB; have BK139 := nb_; have HB := nh_; clear nb_ nh_ hbk_ hg_ hlt_) | ((with_reducible refine gate_st (t := 54) rfl ?_); refine bx_store rfl rfl _ _ (by rfl) gb139 0 (by rfl) BK139.out _ (by rfl) (by kernel_rfl) (by exact Nat.le_of_ble_eq_true rfl) (by exact oo_22 rfl rfl rfl rfl rfl rfl rfl rfl rfl rfl rfl rfl rfl rfl rfl rfl rfl rfl rfl rfl rfl rfl) ?_; intro w_ hbk_ hg_; simp only [List.take_succ_cons, List.take_zero, List.drop_succ_cons, List.drop_zero, List.cons_append, List.nil_append, List.length_cons, List.length_nil, Nat.reduceAdd] at hbk_; have hlt_ := blk_lt BK139.out; (try (have no_ := Aside0.mk (bx_row HO159.out BK139.out (by decide) hg_); clear HO159; have HO159 := no_; clear no_)); (try (have nc_ := Aside0.mk (bx_other BK140.out hg_ NB140_139.out); clear BK140; have BK140 := nc_; clear nc_)); (try (have nc_ := Aside0.mk (bx_other BK141.out hg_ NB141_139.out); clear BK141; have BK141 := nc_; clear nc_)); have nb_ := Aside0.mk hbk_; have nh_ := Aside0.mk (bx_below HB.out hg_ GE139.out hlt_); clear BK139 HB; have BK139 := nb_; have HB := nh_; clear nb_ nh_ hbk_ hg_ hlt_) | ((with_reducible refine gate_st (t := 3) rfl ?_); refine bx_store rfl rfl _ _ (by rfl) gb140 _ (by rfl) BK140.out [_] (by rfl) (by kernel_rfl) (by exact Nat.le_of_ble_eq_true rfl) (by first | exact oo_1 rfl | exact oo_1 (one_of HO159.out)) ?_; intro w_ hbk_ hg_; simp only [List.take_succ_cons, List.take_zero, List.drop_succ_cons, List.drop_zero, List.cons_append, List.nil_append, List.length_cons, List.length_nil, Nat.reduceAdd] at hbk_; have hlt_ := blk_lt BK140.out; (try (have no_ := Aside0.mk (bx_row HO159.out BK140.out (by decide) hg_); clear HO159; have HO159 := no_; clear no_)); (try (have nc_ := Aside0.mk (bx_other BK139.out hg_ NB139_140.out); clear BK139; have BK139 := nc_; clear nc_)); (try (have nc_ := Aside0.mk (bx_other BK141.out hg_ NB141_140.out); clear BK141; have BK141 := nc_; clear nc_)); have nb_ := Aside0.mk hbk_; have nh_ := Aside0.mk (bx_below HB.out hg_ GE140.out hlt_); clear BK140 HB; have BK140 := nb_; have HB := nh_; clear nb_ nh_ hbk_ hg_ hlt_) | ((with_reducible refine gate_st (t := 4) rfl ?_); refine bx_store rfl rfl _ _ (by rfl) gb140 _ (by rfl) BK140.out [_] (by rfl) (by kernel_rfl) (by exact Nat.le_of_ble_eq_true rfl) (by first | exact oo_1 rfl | exact oo_1 (one_of HO159.out)) ?_; intro w_ hbk_ hg_; simp only [List.take_succ_cons, List.take_zero, List.drop_succ_cons, List.drop_zero, List.cons_append, List.nil_append, List.length_cons, List.length_nil, Nat.reduceAdd] at hbk_; have hlt_ := blk_lt BK140.out; (try (have no_ := Aside0.mk (bx_row HO159.out BK140.out (by decide) hg_); clear HO159; have HO159 := no_; clear no_)); (try (have nc_ := Aside0.mk (bx_other BK139.out hg_ NB139_140.out); clear BK139; have BK139 := nc_; clear nc_)); (try (have nc_ := Aside0.mk (bx_other BK141.out hg_ NB141_140.out); clear BK141; have BK141 := nc_; clear nc_)); have nb_ := Aside0.mk hbk_; have nh_ := Aside0.mk (bx_below HB.out hg_ GE140.out hlt_); clear BK140 HB; have BK140 := nb_; have HB := nh_; clear nb_ nh_ hbk_ hg_ hlt_) | ((with_reducible refine gate_st (t := 59) rfl ?_); refine bx_store rfl rfl _ _ (by rfl) gb140 _ (by rfl) BK140.out [_] (by rfl) (by kernel_rfl) (by exact Nat.le_of_ble_eq_true rfl) (by first | exact oo_1 rfl | exact oo_1 (one_of HO159.out)) ?_; intro w_ hbk_ hg_; simp only [List.take_succ_cons, List.take_zero, List.drop_succ_cons, List.drop_zero, List.cons_append, List.nil_append, List.length_cons, List.length_nil, Nat.reduceAdd] at hbk_; have hlt_ := blk_lt BK140.out; (try (have no_ := Aside0.mk (bx_row HO159.out BK140.out (by decide) hg_); clear HO159; have HO159 := no_; clear no_)); (try (have nc_ := Aside0.mk (bx_other BK139.out hg_ NB139_140.out); clear BK139; have BK139 := nc_; clear nc_)); (try (have nc_ := Aside0.mk (bx_other BK141.out hg_ NB141_140.out); clear BK141; have BK141 := nc_; clear nc_)); have nb_ := Aside0.mk hbk_; have nh_ := Aside0.mk (bx_below HB.out hg_ GE140.out hlt_); clear BK140 HB; have BK140 := nb_; have HB := nh_; clear nb_ nh_ hbk_ hg_ hlt_) | ((with_reducible refine gate_st (t := 57) rfl ?_); refine bx_store rfl rfl _ _ (by rfl) gb140 4 (by rfl) BK140.out _ (by rfl) (by kernel_rfl) (by exact Nat.le_of_ble_eq_true rfl) (by exact oo_7 rfl rfl rfl rfl rfl rfl rfl) ?_; intro w_ hbk_ hg_; simp only [List.take_succ_cons, List.take_zero, List.drop_succ_cons, List.drop_zero, List.cons_append, List.nil_append, List.length_cons, List.length_nil, Nat.reduceAdd] at hbk_; have hlt_ := blk_lt BK140.out; (try (have no_ := Aside0.mk (bx_row HO159.out BK140.out (by decide) hg_); clear HO159; have HO159 := no_; clear no_)); (try (have nc_ := Aside0.mk (bx_other BK139.out hg_ NB139_140.out); clear BK139; have BK139 := nc_; clear nc_)); (try (have nc_ := Aside0.mk (bx_other BK141.out hg_ NB141_140.out); clear BK141; have BK141 := nc_; clear nc_)); have nb_ := Aside0.mk hbk_; have nh_ := Aside0.mk (bx_below HB.out hg_ GE140.out hlt_); clear BK140 HB; have BK140 := nb_; have HB := nh_; clear nb_ nh_ hbk_ hg_ hlt_) | ((with_reducible refine gate_st (t := 58) rfl ?_); refine bx_store rfl rfl _ _ (by rfl) gb140 11 (by rfl) BK140.out _ (by rfl) (by kernel_rfl) (by exact Nat.le_of_ble_eq_true rfl) (by exact oo_2 rfl rfl) ?_; intro w_ hbk_ hg_; simp only [List.take_succ_cons, List.take_zero, List.drop_succ_cons, List.drop_zero, List.cons_append, List.nil_append, List.length_cons, List.length_nil, Nat.reduceAdd] at hbk_; have hlt_ := blk_lt BK140.out; (try (have no_ := Aside0.mk (bx_row HO159.out BK140.out (by decide) hg_); clear HO159; have HO159 := no_; clear no_)); (try (have nc_ := Aside0.mk (bx_other BK139.out hg_ NB139_140.out); clear BK139; have BK139 := nc_; clear nc_)); (try (have nc_ := Aside0.mk (bx_other BK141.out hg_ NB141_140.out); clear BK141; have BK141 := nc_; clear nc_)); have nb_ := Aside0.mk hbk_; have nh_ := Aside0.mk (bx_below HB.out hg_ GE140.out hlt_); clear BK140 HB; have BK140 := nb_; have HB := nh_; clear nb_ nh_ hbk_ hg_ hlt_) | ((with_reducible refine gate_st (t := 61) rfl ?_); refine bx_store rfl rfl _ _ (by rfl) gb140 13 (by rfl) BK140.out _ (by rfl) (by kernel_rfl) (by exact Nat.le_of_ble_eq_true rfl) (by exact oo_7 rfl rfl rfl rfl rfl rfl rfl) ?_; intro w_ hbk_ hg_; simp only [List.take_succ_cons, List.take_zero, List.drop_succ_cons, List.drop_zero, List.cons_append, List.nil_append, List.length_cons, List.length_nil, Nat.reduceAdd] at hbk_; have hlt_ := blk_lt BK140.out; (try (have no_ := Aside0.mk (bx_row HO159.out BK140.out (by decide) hg_); clear HO159; have HO159 := no_; clear no_)); (try (have nc_ := Aside0.mk (bx_other BK139.out hg_ NB139_140.out); clear BK139; have BK139 := nc_; clear nc_)); (try (have nc_ := Aside0.mk (bx_other BK141.out hg_ NB141_140.out); clear BK141; have BK141 := nc_; clear nc_)); have nb_ := Aside0.mk hbk_; have nh_ := Aside0.mk (bx_below HB.out hg_ GE140.out hlt_); clear BK140 HB; have BK140 := nb_; have HB := nh_; clear nb_ nh_ hbk_ hg_ hlt_) | ((with_reducible refine gate_st (t := 63) rfl ?_); refine bx_store rfl rfl _ _ (by rfl) gb140 0 (by rfl) BK140.out _ (by rfl) (by kernel_rfl) (by exact Nat.le_of_ble_eq_true rfl) (by exact oo_22 rfl rfl rfl rfl rfl rfl rfl rfl rfl rfl rfl rfl rfl rfl rfl rfl rfl rfl rfl rfl rfl rfl) ?_; intro w_ hbk_ hg_; simp only [List.take_succ_cons, List.take_zero, List.drop_succ_cons, List.drop_zero, List.cons_append, List.nil_append, List.length_cons, List.length_nil, Nat.reduceAdd] at hbk_; have hlt_ := blk_lt BK140.out; (try (have no_ := Aside0.mk (bx_row HO159.out BK140.out (by decide) hg_); clear HO159; have HO159 := no_; clear no_)); (try (have nc_ := Aside0.mk (bx_other BK139.out hg_ NB139_140.out); clear BK139; have BK139 := nc_; clear nc_)); (try (have nc_ := Aside0.mk (bx_other BK141.out hg_ NB141_140.out); clear BK141; have BK141 := nc_; clear nc_)); have nb_ := Aside0.mk hbk_; have nh_ := Aside0.mk (bx_below HB.out hg_ GE140.out hlt_); clear BK140 HB; have BK140 := nb_; have HB := nh_; clear nb_ nh_ hbk_ hg_ hlt_) | ((with_reducible refine gate_st (t := 3) rfl ?_); refine bx_store rfl rfl _ _ (by rfl) gb141 _ (by rfl) BK141.out [_] (by rfl) (by kernel_rfl) (by exact Nat.le_of_ble_eq_true rfl) (by first | exact oo_1 rfl | exact oo_1 (one_of HO159.out)) ?_; intro w_ hbk_ hg_; simp only [List.take_succ_cons, List.take_zero, List.drop_succ_cons, List.drop_zero, List.cons_append, List.nil_append, List.length_cons, List.length_nil, Nat.reduceAdd] at hbk_; have hlt_ := blk_lt BK141.out; (try (have no_ := Aside0.mk (bx_row HO159.out BK141.out (by decide) hg_); clear HO159; have HO159 := no_; clear no_)); (try (have nc_ := Aside0.mk (bx_other BK139.out hg_ NB139_141.out); clear BK139; have BK139 := nc_; clear nc_)); (try (have nc_ := Aside0.mk (bx_other BK140.out hg_ NB140_141.out); clear BK140; have BK140 := nc_; clear nc_)); have nb_ := Aside0.mk hbk_; have nh_ := Aside0.mk (bx_below HB.out hg_ GE141.out hlt_); clear BK141 HB; have BK141 := nb_; have HB := nh_; clear nb_ nh_ hbk_ hg_ hlt_) | ((with_reducible refine gate_st (t := 4) rfl ?_); refine bx_store rfl rfl _ _ (by rfl) gb141 _ (by rfl) BK141.out [_] (by rfl) (by kernel_rfl) (by exact Nat.le_of_ble_eq_true rfl) (by first | exact oo_1 rfl | exact oo_1 (one_of HO159.out)) ?_; intro w_ hbk_ hg_; simp only [List.take_succ_cons, List.take_zero, List.drop_succ_cons, List.drop_zero, List.cons_append, List.nil_append, List.length_cons, List.length_nil, Nat.reduceAdd] at hbk_; have hlt_ := blk_lt BK141.out; (try (have no_ := Aside0.mk (bx_row HO159.out BK141.out (by decide) hg_); clear HO159; have HO159 := no_; clear no_)); (try (have nc_ := Aside0.mk (bx_other BK139.out hg_ NB139_141.out); clear BK139; have BK139 := nc_; clear nc_)); (try (have nc_ := Aside0.mk (bx_other BK140.out hg_ NB140_141.out); clear BK140; have BK140 := nc_; clear nc_)); have nb_ := Aside0.mk hbk_; have nh_ := Aside0.mk (bx_below HB.out hg_ GE141.out hlt_); clear BK141 HB; have BK141 := nb_; have HB := nh_; clear nb_ nh_ hbk_ hg_ hlt_) | ((with_reducible refine gate_st (t := 59) rfl ?_); refine bx_store rfl rfl _ _ (by rfl) gb141 _ (by rfl) BK141.out [_] (by rfl) (by kernel_rfl) (by exact Nat.le_of_ble_eq_true rfl) (by first | exact oo_1 rfl | exact oo_1 (one_of HO159.out)) ?_; intro w_ hbk_ hg_; simp only [List.take_succ_cons, List.take_zero, List.drop_succ_cons, List.drop_zero, List.cons_append, List.nil_append, List.length_cons, List.length_nil, Nat.reduceAdd] at hbk_; have hlt_ := blk_lt BK141.out; (try (have no_ := Aside0.mk (bx_row HO159.out BK141.out (by decide) hg_); clear HO159; have HO159 := no_; clear no_)); (try (have nc_ := Aside0.mk (bx_other BK139.out hg_ NB139_141.out); clear BK139; have BK139 := nc_; clear nc_)); (try (have nc_ := Aside0.mk (bx_other BK140.out hg_ NB140_141.out); clear BK140; have BK140 := nc_; clear nc_)); have nb_ := Aside0.mk hbk_; have nh_ := Aside0.mk (bx_below HB.out hg_ GE141.out hlt_); clear BK141 HB; have BK141 := nb_; have HB := nh_; clear nb_ nh_ hbk_ hg_ hlt_) | ((with_reducible refine gate_st (t := 57) rfl ?_); refine bx_store rfl rfl _ _ (by rfl) gb141 4 (by rfl) BK141.out _ (by rfl) (by kernel_rfl) (by exact Nat.le_of_ble_eq_true rfl) (by exact oo_7 rfl rfl rfl rfl rfl rfl rfl) ?_; intro w_ hbk_ hg_; simp only [List.take_succ_cons, List.take_zero, List.drop_succ_cons, List.drop_zero, List.cons_append, List.nil_append, List.length_cons, List.length_nil, Nat.reduceAdd] at hbk_; have hlt_ := blk_lt BK141.out; (try (have no_ := Aside0.mk (bx_row HO159.out BK141.out (by decide) hg_); clear HO159; have HO159 := no_; clear no_)); (try (have nc_ := Aside0.mk (bx_other BK139.out hg_ NB139_141.out); clear BK139; have BK139 := nc_; clear nc_)); (try (have nc_ := Aside0.mk (bx_other BK140.out hg_ NB140_141.out); clear BK140; have BK140 := nc_; clear nc_)); have nb_ := Aside0.mk hbk_; have nh_ := Aside0.mk (bx_below HB.out hg_ GE141.out hlt_); clear BK141 HB; have BK141 := nb_; have HB := nh_; clear nb_ nh_ hbk_ hg_ hlt_) | ((with_reducible refine gate_st (t := 58) rfl ?_); refine bx_store rfl rfl _ _ (by rfl) gb141 11 (by rfl) BK141.out _ (by rfl) (by kernel_rfl) (by exact Nat.le_of_ble_eq_true rfl) (by exact oo_2 rfl rfl) ?_; intro w_ hbk_ hg_; simp only [List.take_succ_cons, List.take_zero, List.drop_succ_cons, List.drop_zero, List.cons_append, List.nil_append, List.length_cons, List.length_nil, Nat.reduceAdd] at hbk_; have hlt_ := blk_lt BK141.out; (try (have no_ := Aside0.mk (bx_row HO159.out BK141.out (by decide) hg_); clear HO159; have HO159 := no_; clear no_)); (try (have nc_ := Aside0.mk (bx_other BK139.out hg_ NB139_141.out); clear BK139; have BK139 := nc_; clear nc_)); (try (have nc_ := Aside0.mk (bx_other BK140.out hg_ NB140_141.out); clear BK140; have BK140 := nc_; clear nc_)); have nb_ := Aside0.mk hbk_; have nh_ := Aside0.mk (bx_below HB.out hg_ GE141.out hlt_); clear BK141 HB; have BK141 := nb_; have HB := nh_; clear nb_ nh_ hbk_ hg_ hlt_) | ((with_reducible refine gate_st (t := 61) rfl ?_); refine bx_store rfl rfl _ _ (by rfl) gb141 13 (by rfl) BK141.out _ (by rfl) (by kernel_rfl) (by exact Nat.le_of_ble_eq_true rfl) (by exact oo_7 rfl rfl rfl rfl rfl rfl rfl) ?_; intro w_ hbk_ hg_; simp only [List.take_succ_cons, List.take_zero, List.drop_succ_cons, List.drop_zero, List.cons_append, List.nil_append, List.length_cons, List.length_nil, Nat.reduceAdd] at hbk_; have hlt_ := blk_lt BK141.out; (try (have no_ := Aside0.mk (bx_row HO159.out BK141.out (by decide) hg_); clear HO159; have HO159 := no_; clear no_)); (try (have nc_ := Aside0.mk (bx_other BK139.out hg_ NB139_141.out); clear BK139; have BK139 := nc_; clear nc_)); (try (have nc_ := Aside0.mk (bx_other BK140.out hg_ NB140_141.out); clear BK140; have BK140 := nc_; clear nc_)); have nb_ := Aside0.mk hbk_; have nh_ := Aside0.mk (bx_below HB.out hg_ GE141.out hlt_); clear BK141 HB; have BK141 := nb_; have HB := nh_; clear nb_ nh_ hbk_ hg_ hlt_) | ((with_reducible refine gate_st (t := 63) rfl ?_); refine bx_store rfl rfl _ _ (by rfl) gb141 0 (by rfl) BK141.out _ (by rfl) (by kernel_rfl) (by exact Nat.le_of_ble_eq_true rfl) (by exact oo_22 rfl rfl rfl rfl rfl rfl rfl rfl rfl rfl rfl rfl rfl rfl rfl rfl rfl rfl rfl rfl rfl rfl) ?_; intro w_ hbk_ hg_; simp only [List.take_succ_cons, List.take_zero, List.drop_succ_cons, List.drop_zero, List.cons_append, List.nil_append, List.length_cons, List.length_nil, Nat.reduceAdd] at hbk_; have hlt_ := blk_lt BK141.out; (try (have no_ := Aside0.mk (bx_row HO159.out BK141.out (by decide) hg_); clear HO159; have HO159 := no_; clear no_)); (try (have nc_ := Aside0.mk (bx_other BK139.out hg_ NB139_141.out); clear BK139; have BK139 := nc_; clear nc_)); (try (have nc_ := Aside0.mk (bx_other BK140.out hg_ NB140_141.out); clear BK140; have BK140 := nc_; clear nc_)); have nb_ := Aside0.mk hbk_; have nh_ := Aside0.mk (bx_below HB.out hg_ GE141.out hlt_); clear BK141 HB; have BK141 := nb_; have HB := nh_; clear nb_ nh_ hbk_ hg_ hlt_) | ((with_reducible refine gate_dst (N := 1) rfl ?_); refine box_event ?hg (N := 1) ?hd (cs := #[.int .i64 a0_0, .int .i64 a0_1, .int .i64 a0_2, .int .i64 a0_3, .int .i64 a0_4, .int .i64 a0_5, .int .i64 a0_6, .int .i64 a0_7, .int .i64 a0_8, .int .i64 a0_9, .int .i64 a0_10, .int .i64 a0_11, .int .i64 a0_12, .int .i64 a0_13, .int .i64 a0_14, .int .i64 a0_15, .int .i64 a0_16, .int .i64 a0_17, .bool a0_18, .slice A0_19 l0_19.length c0_19, .int .i64 a0_20, .int .i64 a0_21]) (t := 54) ?hr ?_; (case hd => rfl); (case hg => rfl); (case hr => first | (go_simp; done) | (go_simp; rfl)); intro gb139 hg w5 hbox hb; have n0_ := Aside0.mk (below_step (by repeat (first | (with_reducible first | exact HB.out | apply below_alloc | apply pw_below_drewN | apply below_drew1) | exact HB.out)) hb); have n1_ := Aside0.mk (hbox); have n2_ := Aside0.mk ((by rw [hg]; exact (below_size (by repeat (first | (with_reducible first | exact HB.out | apply below_alloc | apply pw_below_drewN | apply below_drew1) | exact HB.out))) : w.heap.size ≤ gb139)); have n3_ := n2_; clear HB; have HB := n0_; have BK139 := n1_; have GW139 := n2_; have GE139 := n3_; clear n0_ n1_ n2_ n3_; clear hb hbox hg) | ((with_reducible refine gate_dst (N := 2) rfl ?_); refine box_event ?hg (N := 2) ?hd (cs := #[.int .i64 0, .int .i64 0, .int .i64 0, .int .i64 0, .int .i64 0, .int .i64 0, .int .i64 0, .int .i64 0, .int .i64 0, .int .i64 0, .int .i64 0, .int .i64 0, .int .i64 0, .int .i64 0, .int .i64 0, .int .i64 0, .int .i64 0, .int .i64 0, .bool false, .slice none 0 0, .int .i64 0, .int .i64 0]) (t := 63) ?hr ?_; (case hd => rfl); (case hg => rfl); (case hr => first | (go_simp; done) | (go_simp; rfl)); intro gb140 hg w6 hbox hb; have n0_ := Aside0.mk (blk_below BK139.out hb); have n1_ := Aside0.mk (below_step (by repeat (first | (with_reducible first | exact HB.out | apply below_alloc | apply pw_below_drewN | apply below_drew1 | refine below_set ?_ GE139.out) | exact HB.out)) hb); have n2_ := Aside0.mk (hbox); have n3_ := Aside0.mk ((by rw [hg]; exact (below_size (by repeat (first | (with_reducible first | exact HB.out | apply below_alloc | apply pw_below_drewN | apply below_drew1 | refine below_set ?_ GE139.out) | exact HB.out))) : w.heap.size ≤ gb140)); have n4_ := n3_; have n5_ := Aside0.mk ((by rw [hg]; exact Nat.ne_of_lt (blk_lt BK139.out) : gb139 ≠ gb140)); have n6_ := Aside0.mk ((by rw [hg]; exact Nat.ne_of_gt (blk_lt BK139.out) : gb140 ≠ gb139)); clear BK139; clear HB; have BK139 := n0_; have HB := n1_; have BK140 := n2_; have GW140 := n3_; have GE140 := n4_; have NB139_140 := n5_; have NB140_139 := n6_; clear n0_ n1_ n2_ n3_ n4_ n5_ n6_; clear hb hbox hg) | ((with_reducible refine gate_dst (N := 3) rfl ?_); refine box_event ?hg (N := 3) ?hd (cs := #[.int .i64 0, .int .i64 0, .int .i64 0, .int .i64 0, .int .i64 0, .int .i64 0, .int .i64 0, .int .i64 0, .int .i64 0, .int .i64 0, .int .i64 0, .int .i64 0, .int .i64 0, .int .i64 0, .int .i64 0, .int .i64 0, .int .i64 0, .int .i64 0, .bool false, .slice none 0 0, .int .i64 0, .int .i64 0]) (t := 63) ?hr ?_; (case hd => rfl); (case hg => rfl); (case hr => first | (go_simp; done) | (go_simp; rfl)); intro gb141 hg w7 hbox hb; have n0_ := Aside0.mk (blk_below BK139.out hb); have n1_ := Aside0.mk (blk_below BK140.out hb); have n2_ := Aside0.mk (below_step (by repeat (first | (with_reducible first | exact HB.out | apply below_alloc | apply pw_below_drewN | apply below_drew1 | refine below_set ?_ GE139.out | refine below_set ?_ GE140.out) | exact HB.out)) hb); have n3_ := Aside0.mk (hbox); have n4_ := Aside0.mk ((by rw [hg]; exact (below_size (by repeat (first | (with_reducible first | exact HB.out | apply below_alloc | apply pw_below_drewN | apply below_drew1 | refine below_set ?_ GE139.out | refine below_set ?_ GE140.out) | exact HB.out))) : w.heap.size ≤ gb141)); have n5_ := n4_; have n6_ := Aside0.mk ((by rw [hg]; exact Nat.ne_of_lt (blk_lt BK139.out) : gb139 ≠ gb141)); have n7_ := Aside0.mk ((by rw [hg]; exact Nat.ne_of_gt (blk_lt BK139.out) : gb141 ≠ gb139)); have n8_ := Aside0.mk ((by rw [hg]; exact Nat.ne_of_lt (blk_lt BK140.out) : gb140 ≠ gb141)); have n9_ := Aside0.mk ((by rw [hg]; exact Nat.ne_of_gt (blk_lt BK140.out) : gb141 ≠ gb140)); clear BK139; clear BK140; clear HB; have BK139 := n0_; have BK140 := n1_; have HB := n2_; have BK141 := n3_; have GW141 := n4_; have GE141 := n5_; have NB139_141 := n6_; have NB141_139 := n7_; have NB140_141 := n8_; have NB141_140 := n9_; clear n0_ n1_ n2_ n3_ n4_ n5_ n6_ n7_ n8_ n9_; clear hb hbox hg) | ((with_reducible refine gate_callee (f := 81) rfl ?_); refine goesL_ (some 18) rfl rfl Try.func81 (by kernel_rfl) rfl #[.agg #[.int .i64 a0_4, .int .i64 a0_5, .int .i64 a0_6, .int .i64 a0_7, .int .i64 a0_8, .int .i64 a0_9, .int .i64 a0_10]] rfl (by (try simp only [List.map_toArray, List.map_cons, List.map_nil]); first | done | rfl | (simp only [List.length_drop, List.length_take]; rfl)) ?_; (with_reducible refine (laws_toPat.calls a0_4 a0_5 a0_6 a0_7 a0_8 a0_9 a0_10 t142 t143 t144 t145 t146 t147 t148 _ A2.out).mono ?_); rintro e w13 ⟨rfl, hb⟩; refine ⟨_, rfl, ?_⟩; have n0_ := Aside0.mk (blk_below BK139.out hb); have n1_ := Aside0.mk (blk_below BK140.out hb); have n2_ := Aside0.mk (blk_below BK141.out hb); have n3_ := Aside0.mk (below_step (by repeat (first | (with_reducible first | exact HB.out | apply below_alloc | apply pw_below_drewN | apply below_drew1 | refine below_set ?_ GE139.out | refine below_set ?_ GE140.out | refine below_set ?_ GE141.out) | exact HB.out)) hb); clear BK139; clear BK140; clear BK141; clear HB; have BK139 := n0_; have BK140 := n1_; have BK141 := n2_; have HB := n3_; clear n0_ n1_ n2_ n3_; (try clear hb); (try clear hb2); (try clear hk); (try clear hi)) | ((with_reducible refine gate_callee (f := 82) rfl ?_); refine goesL_ (some 22) rfl rfl Try.func82 (by kernel_rfl) rfl #[.agg #[.int .i64 a0_11, .int .i64 a0_12]] rfl (by (try simp only [List.map_toArray, List.map_cons, List.map_nil]); first | done | rfl | (simp only [List.length_drop, List.length_take]; rfl)) ?_; (with_reducible refine (laws_toGuard.calls a0_11 a0_12 t149 t150 _ A3.out).mono ?_); rintro e w16 ⟨rfl, hb⟩; refine ⟨_, rfl, ?_⟩; have n0_ := Aside0.mk (blk_below BK139.out hb); have n1_ := Aside0.mk (blk_below BK140.out hb); have n2_ := Aside0.mk (blk_below BK141.out hb); have n3_ := Aside0.mk (below_step (by repeat (first | (with_reducible first | exact HB.out | apply below_alloc | apply pw_below_drewN | apply below_drew1 | refine below_set ?_ GE139.out | refine below_set ?_ GE140.out | refine below_set ?_ GE141.out) | exact HB.out)) hb); clear BK139; clear BK140; clear BK141; clear HB; have BK139 := n0_; have BK140 := n1_; have BK141 := n2_; have HB := n3_; clear n0_ n1_ n2_ n3_; (try clear hb); (try clear hb2); (try clear hk); (try clear hi)) | ((with_reducible refine gate_callee (f := 83) rfl ?_); refine goesL_ (some 26) rfl rfl Try.func83 (by kernel_rfl) rfl #[.agg #[.int .i64 a0_13, .int .i64 a0_14, .int .i64 a0_15, .int .i64 a0_16, .int .i64 a0_17, .bool a0_18, .slice A0_19 l0_19.length c0_19]] rfl (by (try simp only [List.map_toArray, List.map_cons, List.map_nil]); first | done | rfl | (simp only [List.length_drop, List.length_take]; rfl)) ?_; (with_reducible refine (laws_toAct.calls k a0_13 a0_14 a0_15 a0_16 a0_17 a0_18 _ _ l0_19 t151 t152 t153 t154 t155 t156 t157 _ ?side1 ?side2 A4.out).mono ?_); (case side1 => exact Kd.C_below HR0_19.out (by repeat (first | (with_reducible first | exact HB.out | apply below_alloc | apply pw_below_drewN | apply below_drew1 | refine below_set ?_ GE139.out | refine below_set ?_ GE140.out | refine below_set ?_ GE141.out) | exact HB.out))); (case side2 => exact HC0_19.out); rintro e w19 ⟨v158, rfl, ho0, hb⟩; refine ⟨_, rfl, ?_⟩; have n0_ := Aside0.mk (Kd.R_lower ho0 (below_size (by repeat (first | (with_reducible first | exact HB.out | apply below_alloc | apply pw_below_drewN | apply below_drew1 | refine below_set ?_ GE139.out | refine below_set ?_ GE140.out | refine below_set ?_ GE141.out) | exact HB.out)))); have n1_ := Aside0.mk (blk_below BK139.out hb); have n2_ := Aside0.mk (blk_below BK140.out hb); have n3_ := Aside0.mk (blk_below BK141.out hb); have n4_ := Aside0.mk (below_step (by repeat (first | (with_reducible first | exact HB.out | apply below_alloc | apply pw_below_drewN | apply below_drew1 | refine below_set ?_ GE139.out | refine below_set ?_ GE140.out | refine below_set ?_ GE141.out) | exact HB.out)) hb); clear BK139; clear BK140; clear BK141; clear HB; have HO159 := n0_; have BK139 := n1_; have BK140 := n2_; have BK141 := n3_; have HB := n4_; clear n0_ n1_ n2_ n3_ n4_; (try clear hb); (try clear hb2); (try clear hk); (try clear hi); (try clear ho0); obtain ⟨Ao21, co21, eo21⟩ := Kd.R_slice HO159.out; subst eo21))  -- boxed
  refine bodyPost_ret (results_cell_row rfl _ _ gb140 63 #[.int .i64 a0_0, .int .i64 a0_1, .int .i64 a0_2, .int .i64 a0_3, .int .i64 t142, .int .i64 t143, .int .i64 t144, .int .i64 t145, .int .i64 t146, .int .i64 t147, .int .i64 t148, .int .i64 t149, .int .i64 t150, .int .i64 t151, .int .i64 t152, .int .i64 t153, .int .i64 t154, .int .i64 t155, .bool t156, .slice Ao21 t157.length co21, .int .i64 a0_20, .int .i64 a0_21] (0, 0) _ rfl BK140.out Try.underlying63 rfl (by kernel_rfl)) rfl ?_
  exact ⟨_, by first | rfl | (simp [errW_none, errW_some] <;> rfl) | (simp [*, errW_none, errW_some] <;> rfl), by (with_reducible repeat (first | apply Kd.R_alloc | apply Kd.R_drewN | apply Kd.R_drew)); exact Kd.R_mono HO159.out (fun _ hk => trivial), by repeat (first | (with_reducible first | exact HB.out | apply below_alloc | apply pw_below_drewN | apply below_drew1 | refine below_set ?_ GE139.out | refine below_set ?_ GE140.out | refine below_set ?_ GE141.out) | exact HB.out)⟩

end Go.Proofs.Ytnbmifoebaoemaa.PFnExactMostLeft
