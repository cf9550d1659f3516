/- Contracts. No condition. -/
import Derived.Test.YtahlaccdpmddbaaGreatVmCFnInBoundsP0
import Derived.Test.YtahlaccdpmddbaaGreatVmLibThree
namespace Go.Proofs.YtahlaccdpmddbaaGreat.Vm
open Go Go.Proofs.YtahlaccdpmddbaaGreat.Lib
noncomputable section
set_option maxRecDepth 100000
set_option linter.unusedVariables false
def f183g1 (r : (Ty.T y221) × (List (Ty.T y108))) : AV × Sig := (.one (.sl 33554432), [(4294967296, .box 222 ((y221.cells true r.1))), (33554432, .arr 109 y108 r.2 false)])
def E183g1 := ((E0.g ok121g1).g ok211g1)
@[reducible] def ss183g1_0 : List SP := .one (.ptr 4294967296 0) :: U2 (.one (.ptr 3 0) :: .one (.dat (.sl 109 y108) false) :: .one (.own 8) :: oI :: oI :: U16 (U4 ([])))
@[reducible] def gs183g1_0 : List (Nat × GP) := [(4294967296, .box 222 [.dat y221 true]), (3, .box 37 [.dat y36 false]), (8, .arr 109 y108 false)]
@[reducible] def V183g1_0 : Type := (List (Ty.T y108)) × Int × Int × (Ty.T y221) × (Ty.T y36) × (List (Ty.T y108)) × Unit
def e183g1_0 (v : V183g1_0) := (v211g1 v.2.2.2.2.1 (IntKind.wrap .i64 ((IntKind.wrap .i64 (v.2.1 + (1 : Int))) + (v121g1 2 v.2.2.2.1).1)) (v121g1 2 v.2.2.2.1).2)
def t183g1_0 (v : V183g1_0) {Z : Type} (κ : Nat × V183g1_0 -> Option Z) : Option Z := cond (decide (v.2.2.1 > (0 : Int))) (cond (d121g1 2 v.2.2.2.1) (cond (d211g1 v.2.2.2.2.1 (IntKind.wrap .i64 ((IntKind.wrap .i64 (v.2.1 + (1 : Int))) + (v121g1 2 v.2.2.2.1).1)) (v121g1 2 v.2.2.2.1).2) (if (v.2.2.2.2.2.1 ++ [((e183g1_0 v).1.1, (e183g1_0 v).1.2.1, (e183g1_0 v).1.2.2.1, (e183g1_0 v).1.2.2.2.1, (e183g1_0 v).1.2.2.2.2.1, (e183g1_0 v).1.2.2.2.2.2.1, ((e183g1_0 v).1.2.2.2.2.2.2.1, (e183g1_0 v).1.2.2.2.2.2.2.2.1, (e183g1_0 v).1.2.2.2.2.2.2.2.2.1, (e183g1_0 v).1.2.2.2.2.2.2.2.2.2.1, (e183g1_0 v).1.2.2.2.2.2.2.2.2.2.2.1, (e183g1_0 v).1.2.2.2.2.2.2.2.2.2.2.2, (e183g1_0 v).2.2.2), (e183g1_0 v).2.1)] : List (Ty.T y108)).length * 192 <= 140737488351232 then (κ (0, (v.1, IntKind.wrap .i64 ((IntKind.wrap .i64 (v.2.1 + (1 : Int))) + (v121g1 2 v.2.2.2.1).1), IntKind.wrap .i64 (v.2.2.1 - (1 : Int)), (e183g1_0 v).2.2.1, v.2.2.2.2.1, v.2.2.2.2.2.1 ++ [((e183g1_0 v).1.1, (e183g1_0 v).1.2.1, (e183g1_0 v).1.2.2.1, (e183g1_0 v).1.2.2.2.1, (e183g1_0 v).1.2.2.2.2.1, (e183g1_0 v).1.2.2.2.2.2.1, ((e183g1_0 v).1.2.2.2.2.2.2.1, (e183g1_0 v).1.2.2.2.2.2.2.2.1, (e183g1_0 v).1.2.2.2.2.2.2.2.2.1, (e183g1_0 v).1.2.2.2.2.2.2.2.2.2.1, (e183g1_0 v).1.2.2.2.2.2.2.2.2.2.2.1, (e183g1_0 v).1.2.2.2.2.2.2.2.2.2.2.2, (e183g1_0 v).2.2.2), (e183g1_0 v).2.1)], ()))) else none) (none)) (none)) (κ (1, (v.1, v.2.1, v.2.2.1, v.2.2.2.1, v.2.2.2.2.1, v.2.2.2.2.2.1, ())))
def s183g1_0 (v : V183g1_0) : Option (Nat × V183g1_0) := t183g1_0 v some
def n183g1_0 (v : V183g1_0) : Nat := v.1.length + v.2.1.toNat + v.2.2.1.toNat + v.2.2.2.1.1.length + v.2.2.2.2.1.1.length + v.2.2.2.2.1.2.1.length + v.2.2.2.2.2.1.length + 100
def k183g1_0 (h0 : List (Ty.T y108)) (h1 : Int) (h2 : Int) (h3 : Ty.T y221) (h4 : Ty.T y36) (h5 : List (Ty.T y108)) (c : Nat) : Bool := iK s183g1_0 n183g1_0 (h0, h1, h2, h3, h4, h5, ()) c
def w183g1_0 (h0 : List (Ty.T y108)) (h1 : Int) (h2 : Int) (h3 : Ty.T y221) (h4 : Ty.T y36) (h5 : List (Ty.T y108)) : V183g1_0 := iW s183g1_0 n183g1_0 (h0, h1, h2, h3, h4, h5, ())
def F183g1_0 (v : V183g1_0) : Ways (Ex × St) := waysOf s183g1_0 (n183g1_0 v) v (bldSt ss183g1_0 gs183g1_0) [.exit 0] 0
theorem l183g1_0 : LoopOk Tryz.prog (loopAt (pb 5 23) (bodyOf Tryz.f183)) ss183g1_0 gs183g1_0 F183g1_0 := loopOk_iter (lt := .none) E183g1.ok orders (LtOk.no _) fun n v K => Eq.trans (b := t183g1_0 v (kont _ _ _ _ _ K)) (by kernel_rfl) (show t183g1_0 v _ = (t183g1_0 v some).bind _ from (bC (bC (bC (bI rfl) rfl) rfl) rfl))
def E183g1l := E183g1.l (g := 183) (t := (ltPut (pb 5 23) (bodyOf Tryz.f183) .none (.sum ss183g1_0 gs183g1_0 F183g1_0))) (ltOk_of Tryz.func183 (LtOk.put (wf_of (by kernel_rfl)) (LtOk.no _) l183g1_0))
def t183g1 (a0 : Ty.T y36) (a1 : Ty.T y221) {Z : Type} (κ : (Ty.T y221) × (List (Ty.T y108)) -> Option Z) : Option Z := cond (d121g1 5 a1) (cond (k183g1_0 [] 0 (v121g1 5 a1).1 (v121g1 5 a1).2 a0 [] 0) (κ ((w183g1_0 [] 0 (v121g1 5 a1).1 (v121g1 5 a1).2 a0 []).2.2.2.1, (w183g1_0 [] 0 (v121g1 5 a1).1 (v121g1 5 a1).2 a0 []).2.2.2.2.2.1)) (none)) (none)
def v183g1 (a0 : Ty.T y36) (a1 : Ty.T y221) : (Ty.T y221) × (List (Ty.T y108)) := (t183g1 a0 a1 some).getD ((Ty.zero y221), [])
def d183g1 (a0 : Ty.T y36) (a1 : Ty.T y221) : Bool := (t183g1 a0 a1 some).isSome
def p183g1 : Gen := ⟨[false, false], [.one (.ptr 4294967296 0), .agg [.dat y36 false]], [(4294967296, .box 222 [.dat y221 true])], fun v => .br (d183g1 v.1 v.2.1) (.done (f183g1 (v183g1 v.1 v.2.1))) .no⟩
theorem ok183g1 : GenOk Tryz.prog 183 p183g1 := genOk_eq E183g1l.ok orders (wf_of (by kernel_rfl)) ⟨Tryz.f183, bodyOf Tryz.f183, by kernel_rfl, by kernel_rfl⟩ fun v => Eq.trans (b := (t183g1 v.1 v.2.1 (sm f183g1))) (by kernel_rfl) (run_fin (show t183g1 v.1 v.2.1 (sm f183g1) = (t183g1 v.1 v.2.1 some).bind _ from (bC (bC rfl rfl) rfl)))
def f297 (r : Bool) : AV × Sig := (.one (.bool r), [])
def E297 := (E0.p ok239)
def t297 (a0 : Ty.T y102) {Z : Type} (κ : Bool -> Z) : Z := cond (!(v239 a0.1 1 6)) (κ false) (cond (!(v239 a0.2.1 0 2)) (κ false) (cond (!(v239 a0.2.2.2.2.1 0 99)) (κ false) (cond (!(v239 a0.2.2.2.2.2.1 0 2147483647)) (κ false) (cond (!(v239 a0.2.2.1 0 99)) (κ false) (cond (!(v239 a0.2.2.2.1 0 63)) (κ false) (cond (!(v239 a0.2.2.2.2.2.2 0 4)) (κ false) (cond (a0.1 != (1 : Int)) (cond (a0.2.2.1 != (0 : Int)) (κ false) (cond (a0.2.2.2.1 != (0 : Int)) (κ false) (cond (a0.1 != (2 : Int)) (cond (a0.2.2.2.2.2.2 != (0 : Int)) (κ false) (cond (a0.1 != (3 : Int)) (cond (a0.1 != (4 : Int)) (κ true) (κ (a0.2.2.2.2.1 == (0 : Int)))) (κ (a0.2.2.2.2.1 == (0 : Int))))) (cond (a0.1 != (3 : Int)) (cond (a0.1 != (4 : Int)) (κ true) (κ (a0.2.2.2.2.1 == (0 : Int)))) (κ (a0.2.2.2.2.1 == (0 : Int))))))) (cond (a0.1 != (2 : Int)) (cond (a0.2.2.2.2.2.2 != (0 : Int)) (κ false) (cond (a0.1 != (3 : Int)) (cond (a0.1 != (4 : Int)) (κ true) (κ (a0.2.2.2.2.1 == (0 : Int)))) (κ (a0.2.2.2.2.1 == (0 : Int))))) (cond (a0.1 != (3 : Int)) (cond (a0.1 != (4 : Int)) (κ true) (κ (a0.2.2.2.2.1 == (0 : Int)))) (κ (a0.2.2.2.2.1 == (0 : Int))))))))))))
def v297 (a0 : Ty.T y102) : Bool := t297 a0 fun r => r
def p297 : Prim := ⟨[.agg [.dat y102 true]], fun v => .done (f297 (v297 v.1))⟩
theorem ok297 : PO 297 p297 := pK E297 fun v => Eq.trans (b := (t297 v.1 (sm f297))) (by kernel_rfl) (show t297 v.1 (sm f297) = some (f297 (t297 v.1 fun r => r)) from (tC rfl (tC rfl (tC rfl (tC rfl (tC rfl (tC rfl (tC rfl (tC (tC rfl (tC rfl (tC (tC rfl (tC (tC rfl rfl) rfl)) (tC (tC rfl rfl) rfl)))) (tC (tC rfl (tC (tC rfl rfl) rfl)) (tC (tC rfl rfl) rfl)))))))))))
def f298 (r : Bool) : AV × Sig := (.one (.bool r), [])
def E298 := (E0.p ok239)
def t298 (a0 : Ty.T y104) {Z : Type} (κ : Bool -> Z) : Z := cond (a0.1 == (0 : Int)) (cond (a0.1 == (0 : Int)) (κ (a0.2 == (0 : Int))) (cond (a0.1 == (1 : Int)) (κ (v239 a0.2 (-2147483647) 2147483647)) (cond (a0.1 == (2 : Int)) (κ (v239 a0.2 0 8)) (cond (a0.1 == (4 : Int)) (κ (v239 a0.2 0 8)) (κ false))))) (cond (a0.1 == (3 : Int)) (κ (a0.2 == (0 : Int))) (cond (a0.1 == (1 : Int)) (κ (v239 a0.2 (-2147483647) 2147483647)) (cond (a0.1 == (2 : Int)) (κ (v239 a0.2 0 8)) (cond (a0.1 == (4 : Int)) (κ (v239 a0.2 0 8)) (κ false)))))
def v298 (a0 : Ty.T y104) : Bool := t298 a0 fun r => r
def p298 : Prim := ⟨[.agg [.dat y104 true]], fun v => .done (f298 (v298 v.1))⟩
theorem ok298 : PO 298 p298 := pK E298 fun v => Eq.trans (b := (t298 v.1 (sm f298))) (by kernel_rfl) (show t298 v.1 (sm f298) = some (f298 (t298 v.1 fun r => r)) from (tC (tC rfl (tC rfl (tC rfl (tC rfl rfl)))) (tC rfl (tC rfl (tC rfl (tC rfl rfl))))))
def f327 (r : Bool) : AV × Sig := (.one (.bool r), [])
def E327 := E0
def u327 (a0 : Ty.T y106) : Option (AV × Sig) := cond (a0.2.2.1 == (0 : Int)) (cond (a0.2.2.2.1 == (-1 : Int)) (cond (a0.2.2.2.2.1 == (0 : Int)) (cond (!a0.2.2.2.2.2.1) (some (.one (.bool (((a0.2.2.2.2.2.2).length : Int) == (0 : Int))), [])) (some (.one (.bool false), []))) (some (.one (.bool false), []))) (some (.one (.bool false), []))) (some (.one (.bool false), []))
def v327 (a0 : Ty.T y106) : Bool := cond (a0.2.2.1 == (0 : Int)) (cond (a0.2.2.2.1 == (-1 : Int)) (cond (a0.2.2.2.2.1 == (0 : Int)) (cond (!a0.2.2.2.2.2.1) ((((a0.2.2.2.2.2.2).length : Int) == (0 : Int))) (false)) (false)) (false)) (false)
theorem o327 (a0 : Ty.T y106) : u327 a0 = some (f327 (v327 a0)) := (tC (tC (tC (tC rfl rfl) rfl) rfl) rfl)
def p327 : Prim := ⟨[.agg [.dat y106 true]], fun v => .done (f327 (v327 v.1))⟩
theorem ok327 : PO 327 p327 := pK E327 fun v => Eq.trans (b := u327 v.1) (by kernel_rfl) (o327 v.1)
def f157 (r : Bool) : AV × Sig := (.one (.bool r), [])
def E157 := (E0.p ok239)
def t157 (a0 : Ty.T y27) {Z : Type} (κ : Bool -> Z) : Z := cond (v239 a0.2.2.1 1 99) (cond (a0.2.2.1 == (0 : Int)) (cond (!(v239 a0.2.2.2.2.1 0 2147483647)) (κ false) (cond (a0.1 == (1 : Int)) (cond (v239 a0.2.1 1 99) (cond (a0.2.2.2.1 == (-1 : Int)) (cond (a0.2.2.2.2.2.1 == (0 : Int)) (κ (!a0.2.2.2.2.2.2)) (κ false)) (cond (v239 a0.2.2.2.1 0 2) (cond (a0.2.2.2.2.2.1 == (0 : Int)) (κ (!a0.2.2.2.2.2.2)) (κ false)) (κ false))) (κ false)) (cond (a0.1 == (2 : Int)) (cond (a0.2.1 == (0 : Int)) (cond (a0.2.2.2.1 == (-1 : Int)) (cond (v239 a0.2.2.2.2.2.1 1 4) (cond (decide (a0.2.2.2.2.1 <= (99 : Int))) (cond (a0.2.2.2.2.2.1 == (2 : Int)) (κ true) (cond (a0.2.2.2.2.1 == (0 : Int)) (κ (!a0.2.2.2.2.2.2)) (κ false))) (κ false)) (κ false)) (κ false)) (κ false)) (cond (a0.1 == (3 : Int)) (cond (a0.1 == (3 : Int)) (cond (a0.2.1 == (0 : Int)) (cond (v239 a0.2.2.2.1 0 2) (cond (a0.2.2.2.2.2.1 == (0 : Int)) (κ (!a0.2.2.2.2.2.2)) (κ false)) (κ false)) (κ false)) (cond (a0.1 == (5 : Int)) (cond (a0.1 == (5 : Int)) (cond (a0.2.1 == (0 : Int)) (cond (a0.2.2.2.1 == (-1 : Int)) (cond (a0.2.2.2.2.2.1 == (0 : Int)) (κ (!a0.2.2.2.2.2.2)) (κ false)) (κ false)) (κ false)) (κ false)) (cond (a0.1 == (6 : Int)) (cond (a0.2.1 == (0 : Int)) (cond (a0.2.2.2.1 == (-1 : Int)) (cond (a0.2.2.2.2.2.1 == (0 : Int)) (κ (!a0.2.2.2.2.2.2)) (κ false)) (κ false)) (κ false)) (κ false)))) (cond (a0.1 == (4 : Int)) (cond (a0.2.1 == (0 : Int)) (cond (v239 a0.2.2.2.1 0 2) (cond (a0.2.2.2.2.2.1 == (0 : Int)) (κ (!a0.2.2.2.2.2.2)) (κ false)) (κ false)) (κ false)) (cond (a0.1 == (5 : Int)) (cond (a0.1 == (5 : Int)) (cond (a0.2.1 == (0 : Int)) (cond (a0.2.2.2.1 == (-1 : Int)) (cond (a0.2.2.2.2.2.1 == (0 : Int)) (κ (!a0.2.2.2.2.2.2)) (κ false)) (κ false)) (κ false)) (κ false)) (cond (a0.1 == (6 : Int)) (cond (a0.2.1 == (0 : Int)) (cond (a0.2.2.2.1 == (-1 : Int)) (cond (a0.2.2.2.2.2.1 == (0 : Int)) (κ (!a0.2.2.2.2.2.2)) (κ false)) (κ false)) (κ false)) (κ false)))))))) (cond (!(v239 a0.2.2.2.2.1 0 2147483647)) (κ false) (cond (a0.1 == (1 : Int)) (cond (v239 a0.2.1 1 99) (cond (a0.2.2.2.1 == (-1 : Int)) (cond (a0.2.2.2.2.2.1 == (0 : Int)) (κ (!a0.2.2.2.2.2.2)) (κ false)) (κ false)) (κ false)) (cond (a0.1 == (2 : Int)) (cond (a0.2.1 == (0 : Int)) (cond (a0.2.2.2.1 == (-1 : Int)) (cond (v239 a0.2.2.2.2.2.1 1 4) (cond (decide (a0.2.2.2.2.1 <= (99 : Int))) (cond (a0.2.2.2.2.2.1 == (2 : Int)) (κ true) (cond (a0.2.2.2.2.1 == (0 : Int)) (κ (!a0.2.2.2.2.2.2)) (κ false))) (κ false)) (κ false)) (κ false)) (κ false)) (cond (a0.1 == (3 : Int)) (cond (a0.1 == (3 : Int)) (cond (a0.2.1 == (0 : Int)) (κ false) (κ false)) (cond (a0.1 == (5 : Int)) (cond (a0.1 == (5 : Int)) (cond (a0.2.1 == (0 : Int)) (cond (a0.2.2.2.1 == (-1 : Int)) (cond (a0.2.2.2.2.2.1 == (0 : Int)) (κ (!a0.2.2.2.2.2.2)) (κ false)) (κ false)) (κ false)) (κ false)) (cond (a0.1 == (6 : Int)) (cond (a0.2.1 == (0 : Int)) (cond (a0.2.2.2.1 == (-1 : Int)) (cond (a0.2.2.2.2.2.1 == (0 : Int)) (κ (!a0.2.2.2.2.2.2)) (κ false)) (κ false)) (κ false)) (κ false)))) (cond (a0.1 == (4 : Int)) (cond (a0.2.1 == (0 : Int)) (κ false) (κ false)) (cond (a0.1 == (5 : Int)) (cond (a0.1 == (5 : Int)) (cond (a0.2.1 == (0 : Int)) (cond (a0.2.2.2.1 == (-1 : Int)) (cond (a0.2.2.2.2.2.1 == (0 : Int)) (κ (!a0.2.2.2.2.2.2)) (κ false)) (κ false)) (κ false)) (κ false)) (cond (a0.1 == (6 : Int)) (cond (a0.2.1 == (0 : Int)) (cond (a0.2.2.2.1 == (-1 : Int)) (cond (a0.2.2.2.2.2.1 == (0 : Int)) (κ (!a0.2.2.2.2.2.2)) (κ false)) (κ false)) (κ false)) (κ false))))))))) (cond (a0.2.2.1 == (0 : Int)) (cond (!(v239 a0.2.2.2.2.1 0 2147483647)) (κ false) (cond (a0.1 == (1 : Int)) (cond (v239 a0.2.1 1 99) (cond (v239 a0.2.2.2.1 0 2) (cond (a0.2.2.2.2.2.1 == (0 : Int)) (κ (!a0.2.2.2.2.2.2)) (κ false)) (κ false)) (κ false)) (cond (a0.1 == (2 : Int)) (cond (a0.2.1 == (0 : Int)) (κ false) (κ false)) (cond (a0.1 == (3 : Int)) (cond (a0.1 == (3 : Int)) (cond (a0.2.1 == (0 : Int)) (cond (v239 a0.2.2.2.1 0 2) (cond (a0.2.2.2.2.2.1 == (0 : Int)) (κ (!a0.2.2.2.2.2.2)) (κ false)) (κ false)) (κ false)) (cond (a0.1 == (5 : Int)) (cond (a0.1 == (5 : Int)) (cond (a0.2.1 == (0 : Int)) (κ false) (κ false)) (κ false)) (cond (a0.1 == (6 : Int)) (cond (a0.2.1 == (0 : Int)) (κ false) (κ false)) (κ false)))) (cond (a0.1 == (4 : Int)) (cond (a0.2.1 == (0 : Int)) (cond (v239 a0.2.2.2.1 0 2) (cond (a0.2.2.2.2.2.1 == (0 : Int)) (κ (!a0.2.2.2.2.2.2)) (κ false)) (κ false)) (κ false)) (cond (a0.1 == (5 : Int)) (cond (a0.1 == (5 : Int)) (cond (a0.2.1 == (0 : Int)) (κ false) (κ false)) (κ false)) (cond (a0.1 == (6 : Int)) (cond (a0.2.1 == (0 : Int)) (κ false) (κ false)) (κ false)))))))) (cond (!(v239 a0.2.2.2.2.1 0 2147483647)) (κ false) (cond (a0.1 == (1 : Int)) (cond (v239 a0.2.1 1 99) (κ false) (κ false)) (cond (a0.1 == (2 : Int)) (cond (a0.2.1 == (0 : Int)) (κ false) (κ false)) (cond (a0.1 == (3 : Int)) (cond (a0.1 == (3 : Int)) (cond (a0.2.1 == (0 : Int)) (κ false) (κ false)) (cond (a0.1 == (5 : Int)) (cond (a0.1 == (5 : Int)) (cond (a0.2.1 == (0 : Int)) (κ false) (κ false)) (κ false)) (cond (a0.1 == (6 : Int)) (cond (a0.2.1 == (0 : Int)) (κ false) (κ false)) (κ false)))) (cond (a0.1 == (4 : Int)) (cond (a0.2.1 == (0 : Int)) (κ false) (κ false)) (cond (a0.1 == (5 : Int)) (cond (a0.1 == (5 : Int)) (cond (a0.2.1 == (0 : Int)) (κ false) (κ false)) (κ false)) (cond (a0.1 == (6 : Int)) (cond (a0.2.1 == (0 : Int)) (κ false) (κ false)) (κ false)))))))))
def v157 (a0 : Ty.T y27) : Bool := t157 a0 fun r => r
def p157 : Prim := ⟨[.agg [.dat y27 true]], fun v => .done (f157 (v157 v.1))⟩
theorem ok157 : PO 157 p157 := pK E157 fun v => Eq.trans (b := (t157 v.1 (sm f157))) (by kernel_rfl) (show t157 v.1 (sm f157) = some (f157 (t157 v.1 fun r => r)) from (tC (tC (tC rfl (tC (tC (tC (tC rfl rfl) (tC (tC rfl rfl) rfl)) rfl) (tC (tC (tC (tC (tC (tC rfl (tC rfl rfl)) rfl) rfl) rfl) rfl) (tC (tC (tC (tC (tC rfl rfl) rfl) rfl) (tC (tC (tC (tC (tC rfl rfl) rfl) rfl) rfl) (tC (tC (tC (tC rfl rfl) rfl) rfl) rfl))) (tC (tC (tC (tC rfl rfl) rfl) rfl) (tC (tC (tC (tC (tC rfl rfl) rfl) rfl) rfl) (tC (tC (tC (tC rfl rfl) rfl) rfl) rfl))))))) (tC rfl (tC (tC (tC (tC rfl rfl) rfl) rfl) (tC (tC (tC (tC (tC (tC rfl (tC rfl rfl)) rfl) rfl) rfl) rfl) (tC (tC (tC rfl rfl) (tC (tC (tC (tC (tC rfl rfl) rfl) rfl) rfl) (tC (tC (tC (tC rfl rfl) rfl) rfl) rfl))) (tC (tC rfl rfl) (tC (tC (tC (tC (tC rfl rfl) rfl) rfl) rfl) (tC (tC (tC (tC rfl rfl) rfl) rfl) rfl)))))))) (tC (tC rfl (tC (tC (tC (tC rfl rfl) rfl) rfl) (tC (tC rfl rfl) (tC (tC (tC (tC (tC rfl rfl) rfl) rfl) (tC (tC (tC rfl rfl) rfl) (tC (tC rfl rfl) rfl))) (tC (tC (tC (tC rfl rfl) rfl) rfl) (tC (tC (tC rfl rfl) rfl) (tC (tC rfl rfl) rfl))))))) (tC rfl (tC (tC rfl rfl) (tC (tC rfl rfl) (tC (tC (tC rfl rfl) (tC (tC (tC rfl rfl) rfl) (tC (tC rfl rfl) rfl))) (tC (tC rfl rfl) (tC (tC (tC rfl rfl) rfl) (tC (tC rfl rfl) rfl))))))))))
def f328 (r : Bool) : AV × Sig := (.one (.bool r), [])
def E328 := (E0.p ok157)
def u328 (a0 : Ty.T y27) : Option (AV × Sig) := cond (a0.2.2.2.2.1 == (-1 : Int)) (cond (a0.1 != (2 : Int)) (some (.one (.bool (v157 (a0.1, a0.2.1, a0.2.2.1, a0.2.2.2.1, 0, a0.2.2.2.2.2))), [])) (some (.one (.bool (v157 a0)), []))) (some (.one (.bool (v157 a0)), []))
def v328 (a0 : Ty.T y27) : Bool := cond (a0.2.2.2.2.1 == (-1 : Int)) (cond (a0.1 != (2 : Int)) ((v157 (a0.1, a0.2.1, a0.2.2.1, a0.2.2.2.1, 0, a0.2.2.2.2.2))) ((v157 a0))) ((v157 a0))
theorem o328 (a0 : Ty.T y27) : u328 a0 = some (f328 (v328 a0)) := (tC (tC rfl rfl) rfl)
def p328 : Prim := ⟨[.agg [.dat y27 true]], fun v => .done (f328 (v328 v.1))⟩
theorem ok328 : PO 328 p328 := pK E328 fun v => Eq.trans (b := u328 v.1) (by kernel_rfl) (o328 v.1)
def f299 (r : Bool) : AV × Sig := (.one (.bool r), [])
def E299 := (((E0.p ok239).p ok327).p ok328)
@[reducible] def ss299_0 : List SP := .und :: .one (.ptr 1 0) :: .one (.dat .bool true) :: U2 (oI :: .one (.dat .bool true) :: U64 (U64 (U32 (U2 (.und :: [])))))
@[reducible] def gs299_0 : List (Nat × GP) := [(1, .box 107 [.dat y106 true])]
@[reducible] def V299_0 : Type := Bool × Int × Bool × (Ty.T y106) × Unit
def f299_0 (v : V299_0) (r : Bool) : Ex × St := (.normal, bldSt ss299_0 gs299_0 (v.1, v.2.1, r, v.2.2.2.1, ()))
def t299_0 (v : V299_0) {Z : Type} (κ : Bool -> Z) : Z := cond v.2.2.1 (κ v.2.2.1) (cond (v.2.1 == (2 : Int)) (κ (v.2.1 == (2 : Int))) (cond (v.2.1 == (4 : Int)) (κ (v.2.1 == (4 : Int))) (κ (v.2.1 == (5 : Int)))))
def c299_0 (v : V299_0) : Bool := t299_0 v id
def F299_0 (v : V299_0) : Ways (Ex × St) := .done (f299_0 v (c299_0 v))
theorem l299_0 : CodeOk Tryz.prog (pieceAt (pb 5 21) (bodyOf Tryz.f299)) ss299_0 gs299_0 F299_0 := codeOk_eq (lt := .none) (sx := ss299_0) (gx := gs299_0) E299.ok orders (LtOk.no _) fun v => Eq.trans (b := t299_0 v (sm (f299_0 v))) (by kernel_rfl) (show t299_0 v (sm (f299_0 v)) = some (f299_0 v (t299_0 v id)) from (tC rfl (tC rfl (tC rfl rfl))))
@[reducible] def ss299_1 : List SP := .und :: .one (.ptr 1 0) :: .one (.dat .bool true) :: U64 (U64 (U32 (U4 (U2 (.und :: [])))))
@[reducible] def V299_1 : Type := Bool × (Ty.T y106) × Unit
@[reducible] def sx299_1 : List SP := U2 (.one (.dat .bool true) :: U64 (U64 (U32 (U4 (U2 (.und :: []))))))
def f299_1 (v : V299_1) (r : Bool) : Ex × St := (.normal, bldSt sx299_1 gs116_0 (r, ()))
def t299_1 (v : V299_1) {Z : Type} (κ : Bool -> Z) : Z := cond (v327 v.2.1) (κ (v.2.1.2.1 == (0 : Int))) (κ false)
def c299_1 (v : V299_1) : Bool := t299_1 v id
def F299_1 (v : V299_1) : Ways (Ex × St) := .done (f299_1 v (c299_1 v))
theorem l299_1 : CodeOk Tryz.prog (pieceAt (pb 6 13) (bodyOf Tryz.f299)) ss299_1 gs299_0 F299_1 := codeOk_eq (lt := .none) (sx := sx299_1) (gx := gs116_0) E299.ok orders (LtOk.no _) fun v => Eq.trans (b := t299_1 v (sm (f299_1 v))) (by kernel_rfl) (show t299_1 v (sm (f299_1 v)) = some (f299_1 v (t299_1 v id)) from (tC rfl rfl))
def f299_2 (v : V299_1) (r : Bool) : Ex × St := (.normal, bldSt sx299_1 gs116_0 (r, ()))
def t299_2 (v : V299_1) {Z : Type} (κ : Bool -> Z) : Z := cond (v327 v.2.1) (κ (v239 v.2.1.2.1 1 2147483647)) (κ false)
def c299_2 (v : V299_1) : Bool := t299_2 v id
def F299_2 (v : V299_1) : Ways (Ex × St) := .done (f299_2 v (c299_2 v))
theorem l299_2 : CodeOk Tryz.prog (pieceAt (pb 8 61) (bodyOf Tryz.f299)) ss299_1 gs299_0 F299_2 := codeOk_eq (lt := .none) (sx := sx299_1) (gx := gs116_0) E299.ok orders (LtOk.no _) fun v => Eq.trans (b := t299_2 v (sm (f299_2 v))) (by kernel_rfl) (show t299_2 v (sm (f299_2 v)) = some (f299_2 v (t299_2 v id)) from (tC rfl rfl))
def f299_3 (v : V299_1) (r : Bool) : Ex × St := (.normal, bldSt sx299_1 gs116_0 (r, ()))
def t299_3 (v : V299_1) {Z : Type} (κ : Bool -> Z) : Z := cond (v.2.1.2.1 == (0 : Int)) (cond (v.2.1.2.2.2.2.1 == (0 : Int)) (cond (!v.2.1.2.2.2.2.2.1) (cond (((v.2.1.2.2.2.2.2.2).length : Int) == (0 : Int)) (cond (v239 v.2.1.2.2.1 1 99) (cond (v.2.1.2.2.2.1 == (-1 : Int)) (κ true) (cond (v.2.1.2.2.1 == (0 : Int)) (κ (v239 v.2.1.2.2.2.1 0 2)) (κ false))) (cond (v.2.1.2.2.1 == (0 : Int)) (κ (v239 v.2.1.2.2.2.1 0 2)) (κ false))) (κ false)) (κ false)) (κ false)) (κ false)
def c299_3 (v : V299_1) : Bool := t299_3 v id
def F299_3 (v : V299_1) : Ways (Ex × St) := .done (f299_3 v (c299_3 v))
theorem l299_3 : CodeOk Tryz.prog (pieceAt (pb 10 253) (bodyOf Tryz.f299)) ss299_1 gs299_0 F299_3 := codeOk_eq (lt := .none) (sx := sx299_1) (gx := gs116_0) E299.ok orders (LtOk.no _) fun v => Eq.trans (b := t299_3 v (sm (f299_3 v))) (by kernel_rfl) (show t299_3 v (sm (f299_3 v)) = some (f299_3 v (t299_3 v id)) from (tC (tC (tC (tC (tC (tC rfl (tC rfl rfl)) (tC rfl rfl)) rfl) rfl) rfl) rfl))
def f299_4 (v : V299_1) (r : Bool) : Ex × St := (.normal, bldSt sx299_1 gs116_0 (r, ()))
def t299_4 (v : V299_1) {Z : Type} (κ : Bool -> Z) : Z := cond (v.2.1.2.1 == (0 : Int)) (cond (v.2.1.2.2.1 == (0 : Int)) (cond (v.2.1.2.2.2.1 == (-1 : Int)) (cond (!v.2.1.2.2.2.2.2.1) (cond (((v.2.1.2.2.2.2.2.2).length : Int) == (0 : Int)) (κ (v239 v.2.1.2.2.2.2.1 1 4)) (κ false)) (κ false)) (κ false)) (κ false)) (κ false)
def c299_4 (v : V299_1) : Bool := t299_4 v id
def F299_4 (v : V299_1) : Ways (Ex × St) := .done (f299_4 v (c299_4 v))
theorem l299_4 : CodeOk Tryz.prog (pieceAt (pb 12 1021) (bodyOf Tryz.f299)) ss299_1 gs299_0 F299_4 := codeOk_eq (lt := .none) (sx := sx299_1) (gx := gs116_0) E299.ok orders (LtOk.no _) fun v => Eq.trans (b := t299_4 v (sm (f299_4 v))) (by kernel_rfl) (show t299_4 v (sm (f299_4 v)) = some (f299_4 v (t299_4 v id)) from (tC (tC (tC (tC (tC rfl rfl) rfl) rfl) rfl) rfl))
def f299_5 (v : V299_1) (r : Bool) : Ex × St := (.normal, bldSt sx299_1 gs116_0 (r, ()))
def t299_5 (v : V299_1) {Z : Type} (κ : Bool -> Z) : Z := cond (v239 v.2.1.2.1 0 99) (cond (v.2.1.2.2.1 == (0 : Int)) (cond (v.2.1.2.2.2.1 == (-1 : Int)) (cond (v.2.1.2.2.2.2.1 == (0 : Int)) (κ (((v.2.1.2.2.2.2.2.2).length : Int) == (0 : Int))) (κ false)) (κ false)) (κ false)) (κ false)
def c299_5 (v : V299_1) : Bool := t299_5 v id
def F299_5 (v : V299_1) : Ways (Ex × St) := .done (f299_5 v (c299_5 v))
theorem l299_5 : CodeOk Tryz.prog (pieceAt (pb 14 4093) (bodyOf Tryz.f299)) ss299_1 gs299_0 F299_5 := codeOk_eq (lt := .none) (sx := sx299_1) (gx := gs116_0) E299.ok orders (LtOk.no _) fun v => Eq.trans (b := t299_5 v (sm (f299_5 v))) (by kernel_rfl) (show t299_5 v (sm (f299_5 v)) = some (f299_5 v (t299_5 v id)) from (tC (tC (tC (tC rfl rfl) rfl) rfl) rfl))
@[reducible] def ss299_6 : List SP := .und :: .one (.ptr 1 0) :: .one (.dat .bool true) :: oI :: U64 (U64 (U32 (U4 (U2 ([])))))
@[reducible] def V299_6 : Type := Bool × Int × (Ty.T y106) × Unit
def t299_6 (v : V299_6) {Z : Type} (κ : Nat × V299_6 -> Option Z) : Option Z := cond (decide (v.2.1 < ((v.2.2.1.2.2.2.2.2.2).length : Int))) (if 0 <= v.2.1 then (optC ((v.2.2.1.2.2.2.2.2.2)[(v.2.1).toNat]?) (fun x1 => cond (!(v328 x1)) (κ (1, (false, v.2.1, v.2.2.1, ()))) (κ (0, (v.1, IntKind.wrap .i64 (v.2.1 + (1 : Int)), v.2.2.1, ()))))) else none) (κ (2, (v.1, v.2.1, v.2.2.1, ())))
def s299_6 (v : V299_6) : Option (Nat × V299_6) := t299_6 v some
def n299_6 (v : V299_6) : Nat := v.2.1.toNat + v.2.2.1.2.2.2.2.2.2.length + 100
def k299_6 (h0 : Bool) (h1 : Int) (h2 : Ty.T y106) (c : Nat) : Bool := iK s299_6 n299_6 (h0, h1, h2, ()) c
def w299_6 (h0 : Bool) (h1 : Int) (h2 : Ty.T y106) : V299_6 := iW s299_6 n299_6 (h0, h1, h2, ())
def F299_6 (v : V299_6) : Ways (Ex × St) := waysOf s299_6 (n299_6 v) v (bldSt ss299_6 gs299_0) [.ret, .exit 1] 0
theorem l299_6 : LoopOk Tryz.prog (loopAt (pb 17 81917) (bodyOf Tryz.f299)) ss299_6 gs299_0 F299_6 := loopOk_iter (lt := .none) E299.ok orders (LtOk.no _) fun n v K => Eq.trans (b := t299_6 v (kont _ _ _ _ _ K)) (by kernel_rfl) (show t299_6 v _ = (t299_6 v some).bind _ from (bC (bI (bO fun x1 => (bC rfl rfl))) rfl))
def f299_7 (v : V299_1) (r : Bool) : Ex × St := (.normal, bldSt sx299_1 gs116_0 (r, ()))
def t299_7 (v : V299_1) {Z : Type} (κ : Bool -> Z) : Z := cond (v.2.1.2.1 == (0 : Int)) (cond (v.2.1.2.2.1 == (0 : Int)) (cond (v.2.1.2.2.2.1 == (-1 : Int)) (cond (v.2.1.2.2.2.2.1 == (0 : Int)) (cond (!v.2.1.2.2.2.2.2.1) (κ (v239 ((v.2.1.2.2.2.2.2.2).length : Int) 1 3)) (κ false)) (κ false)) (κ false)) (κ false)) (κ false)
def c299_7 (v : V299_1) : Bool := t299_7 v id
def F299_7 (v : V299_1) : Ways (Ex × St) := .done (f299_7 v (c299_7 v))
theorem l299_7 : CodeOk Tryz.prog (pieceAt (pb 17 49149) (bodyOf Tryz.f299)) ss299_1 gs299_0 F299_7 := codeOk_eq (lt := .none) (sx := sx299_1) (gx := gs116_0) E299.ok orders (LtOk.no _) fun v => Eq.trans (b := t299_7 v (sm (f299_7 v))) (by kernel_rfl) (show t299_7 v (sm (f299_7 v)) = some (f299_7 v (t299_7 v id)) from (tC (tC (tC (tC (tC rfl rfl) rfl) rfl) rfl) rfl))
def E299l := E299.l (g := 299) (t := (ltPutC (pb 17 49149) (bodyOf Tryz.f299) (ltPutC (pb 17 81917) (bodyOf Tryz.f299) (ltPutC (pb 14 4093) (bodyOf Tryz.f299) (ltPutC (pb 12 1021) (bodyOf Tryz.f299) (ltPutC (pb 10 253) (bodyOf Tryz.f299) (ltPutC (pb 8 61) (bodyOf Tryz.f299) (ltPutC (pb 6 13) (bodyOf Tryz.f299) (ltPutC (pb 5 21) (bodyOf Tryz.f299) .none (.sum ss299_0 gs299_0 F299_0)) (.sum ss299_1 gs299_0 F299_1)) (.sum ss299_1 gs299_0 F299_2)) (.sum ss299_1 gs299_0 F299_3)) (.sum ss299_1 gs299_0 F299_4)) (.sum ss299_1 gs299_0 F299_5)) (.sum ss299_6 gs299_0 F299_6)) (.sum ss299_1 gs299_0 F299_7))) (ltOk_of Tryz.func299 (LtOk.putC (wf_of (by kernel_rfl)) (LtOk.putL (by kernel_rfl) (wf_of (by kernel_rfl)) (LtOk.putC (wf_of (by kernel_rfl)) (LtOk.putC (wf_of (by kernel_rfl)) (LtOk.putC (wf_of (by kernel_rfl)) (LtOk.putC (wf_of (by kernel_rfl)) (LtOk.putC (wf_of (by kernel_rfl)) (LtOk.putC (wf_of (by kernel_rfl)) (LtOk.no _) l299_0) l299_1) l299_2) l299_3) l299_4) l299_5) l299_6) l299_7))
def t299 (a0 : Ty.T y106) {Z : Type} (κ : Bool -> Option Z) : Option Z := cond (c299_0 (false, a0.1, (a0.1 == (1 : Int)), a0, ())) (κ (c299_1 (false, a0, ()))) (cond (a0.1 == (3 : Int)) (κ (c299_2 (false, a0, ()))) (cond (a0.1 == (6 : Int)) (κ (c299_3 (false, a0, ()))) (cond (a0.1 == (7 : Int)) (κ (c299_4 (false, a0, ()))) (cond (a0.1 == (8 : Int)) (κ (c299_5 (false, a0, ()))) (cond (a0.1 == (9 : Int)) (cond (k299_6 false 0 a0 0) (κ (w299_6 false 0 a0).1) (cond (k299_6 false 0 a0 1) (κ (c299_7 ((w299_6 false 0 a0).1, (w299_6 false 0 a0).2.2.1, ()))) (none))) (κ false))))))
def v299 (a0 : Ty.T y106) : Bool := (t299 a0 some).getD false
def d299 (a0 : Ty.T y106) : Bool := (t299 a0 some).isSome
def p299 : Prim := ⟨[.agg [.dat y106 true]], fun v => .br (d299 v.1) (.done (f299 (v299 v.1))) .no⟩
theorem ok299 : PO 299 p299 := pK E299l fun v => Eq.trans (b := (t299 v.1 (sm f299))) (by kernel_rfl) (run_fin (show t299 v.1 (sm f299) = (t299 v.1 some).bind _ from by unfold t299; simp only [bb]))
def f242 (r : Bool) : AV × Sig := (.one (.bool r), [])
def E242 := (((((E0.p ok239).p ok271).p ok297).p ok298).p ok299)
def t242 (a0 : Ty.T y108) {Z : Type} (κ : Bool -> Option Z) : Option Z := cond (!(v239 a0.1 1 99)) (κ false) (cond (!(v239 a0.2.1 0 2)) (κ false) (cond (!(v239 a0.2.2.1 0 99)) (κ false) (cond (!(v239 a0.2.2.2.1 0 4)) (κ false) (cond (!(v239 a0.2.2.2.2.2.2.2.1 (-1) 9999)) (κ false) (cond (!(v239 a0.2.2.2.2.2.2.2.2 (-1) 2147483647)) (κ false) (cond (a0.2.2.2.1 == (0 : Int)) (cond (a0.2.2.1 == (0 : Int)) (κ false) (cond (a0.2.2.2.2.2.2.1.1 == (2 : Int)) (cond (decide (a0.2.2.2.2.2.2.2.2 < (0 : Int))) (κ false) (cond (v297 a0.2.2.2.2.1) (cond (v298 a0.2.2.2.2.2.1) (cond (d299 a0.2.2.2.2.2.2.1) (cond (v299 a0.2.2.2.2.2.2.1) (κ (v271 a0.2.2.2.2.2.2.1 a0.2.2.2.2.1.1)) (κ false)) (none)) (κ false)) (κ false))) (cond (v297 a0.2.2.2.2.1) (cond (v298 a0.2.2.2.2.2.1) (cond (d299 a0.2.2.2.2.2.2.1) (cond (v299 a0.2.2.2.2.2.2.1) (κ (v271 a0.2.2.2.2.2.2.1 a0.2.2.2.2.1.1)) (κ false)) (none)) (κ false)) (κ false)))) (cond (a0.2.2.2.2.2.2.1.1 == (2 : Int)) (cond (decide (a0.2.2.2.2.2.2.2.2 < (0 : Int))) (κ false) (cond (v297 a0.2.2.2.2.1) (cond (v298 a0.2.2.2.2.2.1) (cond (d299 a0.2.2.2.2.2.2.1) (cond (v299 a0.2.2.2.2.2.2.1) (κ (v271 a0.2.2.2.2.2.2.1 a0.2.2.2.2.1.1)) (κ false)) (none)) (κ false)) (κ false))) (cond (v297 a0.2.2.2.2.1) (cond (v298 a0.2.2.2.2.2.1) (cond (d299 a0.2.2.2.2.2.2.1) (cond (v299 a0.2.2.2.2.2.2.1) (κ (v271 a0.2.2.2.2.2.2.1 a0.2.2.2.2.1.1)) (κ false)) (none)) (κ false)) (κ false)))))))))
def v242 (a0 : Ty.T y108) : Bool := (t242 a0 some).getD false
def d242 (a0 : Ty.T y108) : Bool := (t242 a0 some).isSome
def p242 : Prim := ⟨[.agg [.dat y108 true]], fun v => .br (d242 v.1) (.done (f242 (v242 v.1))) .no⟩
theorem ok242 : PO 242 p242 := pK E242 fun v => Eq.trans (b := (t242 v.1 (sm f242))) (by kernel_rfl) (run_fin (show t242 v.1 (sm f242) = (t242 v.1 some).bind _ from by unfold t242; simp only [bb]))
def f309 (r : Bool) : AV × Sig := (.one (.bool r), [])
def E309 := E0
def u309 (a0 : Ty.T y108) (a1 : Int) : Option (AV × Sig) := cond (a0.2.2.2.2.2.2.2.2 != (0 : Int)) (cond (a0.2.2.2.2.2.2.2.1 == (-1 : Int)) (some (.one (.bool true), [])) (some (.one (.bool (decide (a0.2.2.2.2.2.2.2.1 ≥ a1))), []))) (some (.one (.bool false), []))
def v309 (a0 : Ty.T y108) (a1 : Int) : Bool := cond (a0.2.2.2.2.2.2.2.2 != (0 : Int)) (cond (a0.2.2.2.2.2.2.2.1 == (-1 : Int)) (true) (decide (a0.2.2.2.2.2.2.2.1 ≥ a1))) (false)
theorem o309 (a0 : Ty.T y108) (a1 : Int) : u309 a0 a1 = some (f309 (v309 a0 a1)) := (tC (tC rfl rfl) rfl)
def p309 : Prim := ⟨[.agg [.dat y108 true], oI], fun v => .done (f309 (v309 v.1 v.2.1))⟩
theorem ok309 : PO 309 p309 := pK E309 fun v => Eq.trans (b := u309 v.1 v.2.1) (by kernel_rfl) (o309 v.1 v.2.1)
def f310 (r : Bool) : AV × Sig := (.one (.bool r), [])
def E310 := E0
def u310 (a0 : Ty.T y108) (a1 : Ty.T y27) : Option (AV × Sig) := cond (a0.2.2.2.1 != (0 : Int)) (some (.one (.bool true), [])) (cond (a0.2.2.1 == a1.2.1) (some (.one (.bool true), [])) (some (.one (.bool (a0.2.2.1 == a1.2.2.1)), [])))
def v310 (a0 : Ty.T y108) (a1 : Ty.T y27) : Bool := cond (a0.2.2.2.1 != (0 : Int)) (true) (cond (a0.2.2.1 == a1.2.1) (true) ((a0.2.2.1 == a1.2.2.1)))
theorem o310 (a0 : Ty.T y108) (a1 : Ty.T y27) : u310 a0 a1 = some (f310 (v310 a0 a1)) := (tC rfl (tC rfl rfl))
def p310 : Prim := ⟨[.agg [.dat y108 true], .agg [.dat y27 true]], fun v => .done (f310 (v310 v.1 v.2.1))⟩
theorem ok310 : PO 310 p310 := pK E310 fun v => Eq.trans (b := u310 v.1 v.2.1) (by kernel_rfl) (o310 v.1 v.2.1)
def f331 (r : Int) : AV × Sig := (.one (.int .i64 r), [])
def E331 := E0
@[reducible] def ss331_0 : List SP := .und :: oI :: .one (.ptr 2 0) :: .und :: oI :: oI :: oI :: U16 (U8 (U2 (.und :: [])))
@[reducible] def gs331_0 : List (Nat × GP) := [(2, .box 37 [.dat y36 true])]
@[reducible] def V331_0 : Type := Int × Int × Int × Int × (Ty.T y36) × Unit
def t331_0 (v : V331_0) {Z : Type} (κ : Nat × V331_0 -> Option Z) : Option Z := cond (decide (v.2.2.2.1 < ((v.2.2.2.2.1.1).length : Int))) (if 0 <= v.2.2.2.1 then (optC ((v.2.2.2.2.1.1)[(v.2.2.2.1).toNat]?) (fun x1 => cond (x1.2.2.2.1 == (2 : Int)) (if 0 <= v.2.2.2.1 then (optC ((v.2.2.2.2.1.1)[(v.2.2.2.1).toNat]?) (fun x2 => cond (x2.2.2.1 == v.1) (κ (0, (v.1, v.2.1, IntKind.wrap .i64 (v.2.2.1 + (1 : Int)), IntKind.wrap .i64 (v.2.2.2.1 + (1 : Int)), v.2.2.2.2.1, ()))) (κ (0, (v.1, v.2.1, v.2.2.1, IntKind.wrap .i64 (v.2.2.2.1 + (1 : Int)), v.2.2.2.2.1, ()))))) else none) (κ (0, (v.1, v.2.1, v.2.2.1, IntKind.wrap .i64 (v.2.2.2.1 + (1 : Int)), v.2.2.2.2.1, ()))))) else none) (κ (1, (v.1, v.2.1, v.2.2.1, v.2.2.2.1, v.2.2.2.2.1, ())))
def s331_0 (v : V331_0) : Option (Nat × V331_0) := t331_0 v some
def n331_0 (v : V331_0) : Nat := v.1.toNat + v.2.1.toNat + v.2.2.1.toNat + v.2.2.2.1.toNat + v.2.2.2.2.1.1.length + v.2.2.2.2.1.2.1.length + 100
def k331_0 (h0 : Int) (h1 : Int) (h2 : Int) (h3 : Int) (h4 : Ty.T y36) (c : Nat) : Bool := iK s331_0 n331_0 (h0, h1, h2, h3, h4, ()) c
def w331_0 (h0 : Int) (h1 : Int) (h2 : Int) (h3 : Int) (h4 : Ty.T y36) : V331_0 := iW s331_0 n331_0 (h0, h1, h2, h3, h4, ())
def F331_0 (v : V331_0) : Ways (Ex × St) := waysOf s331_0 (n331_0 v) v (bldSt ss331_0 gs331_0) [.exit 0] 0
theorem l331_0 : LoopOk Tryz.prog (loopAt (pb 4 11) (bodyOf Tryz.f331)) ss331_0 gs331_0 F331_0 := loopOk_iter (lt := .none) E331.ok orders (LtOk.no _) fun n v K => Eq.trans (b := t331_0 v (kont _ _ _ _ _ K)) (by kernel_rfl) (show t331_0 v _ = (t331_0 v some).bind _ from (bC (bI (bO fun x1 => (bC (bI (bO fun x2 => (bC rfl rfl))) rfl))) rfl))
def E331l := E331.l (g := 331) (t := (ltPut (pb 4 11) (bodyOf Tryz.f331) .none (.sum ss331_0 gs331_0 F331_0))) (ltOk_of Tryz.func331 (LtOk.put (wf_of (by kernel_rfl)) (LtOk.no _) l331_0))
def u331 (a0 : Ty.T y36) (a1 : Int) : Option (AV × Sig) := cond (k331_0 a1 0 0 0 a0 0) (some (.one (.int .i64 (w331_0 a1 0 0 0 a0).2.2.1), [])) (none)
def v331 (a0 : Ty.T y36) (a1 : Int) : Int := cond (k331_0 a1 0 0 0 a0 0) ((w331_0 a1 0 0 0 a0).2.2.1) (0)
def d331 (a0 : Ty.T y36) (a1 : Int) : Bool := cond (k331_0 a1 0 0 0 a0 0) (true) (false)
theorem o331 (a0 : Ty.T y36) (a1 : Int) : u331 a0 a1 = cond (d331 a0 a1) (some (f331 (v331 a0 a1))) none := (pC (pS _) (pN _))
def p331 : Prim := ⟨[.agg [.dat y36 true], oI], fun v => .br (d331 v.1 v.2.1) (.done (f331 (v331 v.1 v.2.1))) .no⟩
theorem ok331 : PO 331 p331 := pK E331l fun v => Eq.trans (b := u331 v.1 v.2.1) (by kernel_rfl) (o331 v.1 v.2.1)
def f332 (r : Int) : AV × Sig := (.one (.int .i64 r), [])
def E332 := E0
@[reducible] def ss332_0 : List SP := .und :: oI :: .one (.ptr 2 0) :: .und :: oI :: oI :: oI :: U32 (U2 (.und :: []))
def t332_0 (v : V331_0) {Z : Type} (κ : Nat × V331_0 -> Option Z) : Option Z := cond (decide (v.2.2.2.1 < ((v.2.2.2.2.1.1).length : Int))) (if 0 <= v.2.2.2.1 then (optC ((v.2.2.2.2.1.1)[(v.2.2.2.1).toNat]?) (fun x1 => cond (x1.2.2.2.1 == (2 : Int)) (if 0 <= v.2.2.2.1 then (optC ((v.2.2.2.2.1.1)[(v.2.2.2.1).toNat]?) (fun x2 => cond (x2.2.2.1 == v.1) (if 0 <= v.2.2.2.1 then (optC ((v.2.2.2.2.1.1)[(v.2.2.2.1).toNat]?) (fun x3 => cond x3.2.2.2.2.2.2.2.2.2.2.2.2 (κ (0, (v.1, v.2.1, IntKind.wrap .i64 (v.2.2.1 + (1 : Int)), IntKind.wrap .i64 (v.2.2.2.1 + (1 : Int)), v.2.2.2.2.1, ()))) (κ (0, (v.1, v.2.1, v.2.2.1, IntKind.wrap .i64 (v.2.2.2.1 + (1 : Int)), v.2.2.2.2.1, ()))))) else none) (κ (0, (v.1, v.2.1, v.2.2.1, IntKind.wrap .i64 (v.2.2.2.1 + (1 : Int)), v.2.2.2.2.1, ()))))) else none) (κ (0, (v.1, v.2.1, v.2.2.1, IntKind.wrap .i64 (v.2.2.2.1 + (1 : Int)), v.2.2.2.2.1, ()))))) else none) (κ (1, (v.1, v.2.1, v.2.2.1, v.2.2.2.1, v.2.2.2.2.1, ())))
def s332_0 (v : V331_0) : Option (Nat × V331_0) := t332_0 v some
def n332_0 (v : V331_0) : Nat := v.1.toNat + v.2.1.toNat + v.2.2.1.toNat + v.2.2.2.1.toNat + v.2.2.2.2.1.1.length + v.2.2.2.2.1.2.1.length + 100
def k332_0 (h0 : Int) (h1 : Int) (h2 : Int) (h3 : Int) (h4 : Ty.T y36) (c : Nat) : Bool := iK s332_0 n332_0 (h0, h1, h2, h3, h4, ()) c
def w332_0 (h0 : Int) (h1 : Int) (h2 : Int) (h3 : Int) (h4 : Ty.T y36) : V331_0 := iW s332_0 n332_0 (h0, h1, h2, h3, h4, ())
def F332_0 (v : V331_0) : Ways (Ex × St) := waysOf s332_0 (n332_0 v) v (bldSt ss332_0 gs331_0) [.exit 0] 0
theorem l332_0 : LoopOk Tryz.prog (loopAt (pb 4 11) (bodyOf Tryz.f332)) ss332_0 gs331_0 F332_0 := loopOk_iter (lt := .none) E332.ok orders (LtOk.no _) fun n v K => Eq.trans (b := t332_0 v (kont _ _ _ _ _ K)) (by kernel_rfl) (show t332_0 v _ = (t332_0 v some).bind _ from (bC (bI (bO fun x1 => (bC (bI (bO fun x2 => (bC (bI (bO fun x3 => (bC rfl rfl))) rfl))) rfl))) rfl))
def E332l := E332.l (g := 332) (t := (ltPut (pb 4 11) (bodyOf Tryz.f332) .none (.sum ss332_0 gs331_0 F332_0))) (ltOk_of Tryz.func332 (LtOk.put (wf_of (by kernel_rfl)) (LtOk.no _) l332_0))
def u332 (a0 : Ty.T y36) (a1 : Int) : Option (AV × Sig) := cond (k332_0 a1 0 0 0 a0 0) (some (.one (.int .i64 (w332_0 a1 0 0 0 a0).2.2.1), [])) (none)
def v332 (a0 : Ty.T y36) (a1 : Int) : Int := cond (k332_0 a1 0 0 0 a0 0) ((w332_0 a1 0 0 0 a0).2.2.1) (0)
def d332 (a0 : Ty.T y36) (a1 : Int) : Bool := cond (k332_0 a1 0 0 0 a0 0) (true) (false)
theorem o332 (a0 : Ty.T y36) (a1 : Int) : u332 a0 a1 = cond (d332 a0 a1) (some (f332 (v332 a0 a1))) none := (pC (pS _) (pN _))
def p332 : Prim := ⟨[.agg [.dat y36 true], oI], fun v => .br (d332 v.1 v.2.1) (.done (f332 (v332 v.1 v.2.1))) .no⟩
theorem ok332 : PO 332 p332 := pK E332l fun v => Eq.trans (b := u332 v.1 v.2.1) (by kernel_rfl) (o332 v.1 v.2.1)
def f311 (r : Bool) : AV × Sig := (.one (.bool r), [])
def E311 := ((((E0.p ok239).p ok298).p ok331).p ok332)
def t311 (a0 : Ty.T y36) (a1 : Int) (a2 : Ty.T y104) {Z : Type} (κ : Bool -> Option Z) : Option Z := cond (!(v298 a2)) (κ false) (cond (!(v239 a1 0 (IntKind.wrap .i64 (((a0.2.1).length : Int) - (1 : Int))))) (κ false) (cond (a2.1 == (1 : Int)) (if 0 <= a1 then (optC ((a0.2.1)[(a1).toNat]?) (fun x1 => κ (decide (x1.1 <= a2.2)))) else none) (cond (a2.1 == (2 : Int)) (cond (d331 a0 a1) (κ (decide ((v331 a0 a1) ≥ a2.2))) (none)) (cond (a2.1 == (3 : Int)) (κ (a0.2.2.1 == a1)) (cond (a2.1 == (4 : Int)) (cond (d332 a0 a1) (κ (decide ((v332 a0 a1) ≥ a2.2))) (none)) (κ true))))))
def v311 (a0 : Ty.T y36) (a1 : Int) (a2 : Ty.T y104) : Bool := (t311 a0 a1 a2 some).getD false
def d311 (a0 : Ty.T y36) (a1 : Int) (a2 : Ty.T y104) : Bool := (t311 a0 a1 a2 some).isSome
def p311 : Prim := ⟨[.agg [.dat y36 true], oI, .agg [.dat y104 true]], fun v => .br (d311 v.1 v.2.1 v.2.2.1) (.done (f311 (v311 v.1 v.2.1 v.2.2.1))) .no⟩
theorem ok311 : PO 311 p311 := pK E311 fun v => Eq.trans (b := (t311 v.1 v.2.1 v.2.2.1 (sm f311))) (by kernel_rfl) (run_fin (show t311 v.1 v.2.1 v.2.2.1 (sm f311) = (t311 v.1 v.2.1 v.2.2.1 some).bind _ from by unfold t311; simp only [bb]))
def f279 (r : Int) : AV × Sig := (.one (.int .i64 r), [])
def E279 := E0
@[reducible] def ss279_0 : List SP := .und :: oI :: .one (.ptr 2 0) :: .und :: oI :: oI :: U16 ([])
@[reducible] def V279_0 : Type := Int × Int × Int × (Ty.T y36) × Unit
def t279_0 (v : V279_0) {Z : Type} (κ : Nat × V279_0 -> Option Z) : Option Z := cond (decide (v.2.2.1 < ((v.2.2.2.1.1).length : Int))) (if 0 <= v.2.2.1 then (optC ((v.2.2.2.1.1)[(v.2.2.1).toNat]?) (fun x1 => cond (x1.1 == v.1) (κ (1, (v.1, v.2.2.1, v.2.2.1, v.2.2.2.1, ()))) (κ (0, (v.1, v.2.1, IntKind.wrap .i64 (v.2.2.1 + (1 : Int)), v.2.2.2.1, ()))))) else none) (κ (2, (v.1, v.2.1, v.2.2.1, v.2.2.2.1, ())))
def s279_0 (v : V279_0) : Option (Nat × V279_0) := t279_0 v some
def n279_0 (v : V279_0) : Nat := v.1.toNat + v.2.1.toNat + v.2.2.1.toNat + v.2.2.2.1.1.length + v.2.2.2.1.2.1.length + 100
def k279_0 (h0 : Int) (h1 : Int) (h2 : Int) (h3 : Ty.T y36) (c : Nat) : Bool := iK s279_0 n279_0 (h0, h1, h2, h3, ()) c
def w279_0 (h0 : Int) (h1 : Int) (h2 : Int) (h3 : Ty.T y36) : V279_0 := iW s279_0 n279_0 (h0, h1, h2, h3, ())
def F279_0 (v : V279_0) : Ways (Ex × St) := waysOf s279_0 (n279_0 v) v (bldSt ss279_0 gs331_0) [.ret, .exit 0] 0
theorem l279_0 : LoopOk Tryz.prog (loopAt (pb 3 5) (bodyOf Tryz.f279)) ss279_0 gs331_0 F279_0 := loopOk_iter (lt := .none) E279.ok orders (LtOk.no _) fun n v K => Eq.trans (b := t279_0 v (kont _ _ _ _ _ K)) (by kernel_rfl) (show t279_0 v _ = (t279_0 v some).bind _ from (bC (bI (bO fun x1 => (bC rfl rfl))) rfl))
def E279l := E279.l (g := 279) (t := (ltPut (pb 3 5) (bodyOf Tryz.f279) .none (.sum ss279_0 gs331_0 F279_0))) (ltOk_of Tryz.func279 (LtOk.put (wf_of (by kernel_rfl)) (LtOk.no _) l279_0))
def u279 (a0 : Ty.T y36) (a1 : Int) : Option (AV × Sig) := cond (k279_0 a1 0 0 a0 0) (some (.one (.int .i64 (w279_0 a1 0 0 a0).2.1), [])) (cond (k279_0 a1 0 0 a0 1) (some (.one (.int .i64 (-1)), [])) (none))
def v279 (a0 : Ty.T y36) (a1 : Int) : Int := cond (k279_0 a1 0 0 a0 0) ((w279_0 a1 0 0 a0).2.1) (cond (k279_0 a1 0 0 a0 1) ((-1)) (0))
def d279 (a0 : Ty.T y36) (a1 : Int) : Bool := cond (k279_0 a1 0 0 a0 0) (true) (cond (k279_0 a1 0 0 a0 1) (true) (false))
theorem o279 (a0 : Ty.T y36) (a1 : Int) : u279 a0 a1 = cond (d279 a0 a1) (some (f279 (v279 a0 a1))) none := (pC (pS _) (pC (pS _) (pN _)))
def p279 : Prim := ⟨[.agg [.dat y36 true], oI], fun v => .br (d279 v.1 v.2.1) (.done (f279 (v279 v.1 v.2.1))) .no⟩
theorem ok279 : PO 279 p279 := pK E279l fun v => Eq.trans (b := u279 v.1 v.2.1) (by kernel_rfl) (o279 v.1 v.2.1)
def f270 (r : Int) : AV × Sig := (.one (.int .i64 r), [])
def E270 := ((E0.p ok239).p ok279)
def u270 (a0 : Ty.T y36) (a1 : Ty.T y27) : Option (AV × Sig) := cond (a1.2.2.1 == (0 : Int)) (cond (!(v239 a1.2.2.2.1 0 (IntKind.wrap .i64 (((a0.2.1).length : Int) - (1 : Int))))) (some (.one (.int .i64 (-1)), [])) (some (.one (.int .i64 a1.2.2.2.1), []))) (cond (d279 a0 a1.2.2.1) (cond (decide ((v279 a0 a1.2.2.1) < (0 : Int))) (some (.one (.int .i64 (-1)), [])) (if 0 <= (v279 a0 a1.2.2.1) then (optC ((a0.1)[(v279 a0 a1.2.2.1).toNat]?) (fun x1 => some (.one (.int .i64 x1.2.2.1), []))) else none)) (none))
def v270 (a0 : Ty.T y36) (a1 : Ty.T y27) : Int := cond (a1.2.2.1 == (0 : Int)) (cond (!(v239 a1.2.2.2.1 0 (IntKind.wrap .i64 (((a0.2.1).length : Int) - (1 : Int))))) ((-1)) (a1.2.2.2.1)) (cond (d279 a0 a1.2.2.1) (cond (decide ((v279 a0 a1.2.2.1) < (0 : Int))) ((-1)) (optV ((a0.1)[(v279 a0 a1.2.2.1).toNat]?) 0 (fun x1 => x1.2.2.1))) (0))
def d270 (a0 : Ty.T y36) (a1 : Ty.T y27) : Bool := cond (a1.2.2.1 == (0 : Int)) (cond (!(v239 a1.2.2.2.1 0 (IntKind.wrap .i64 (((a0.2.1).length : Int) - (1 : Int))))) (true) (true)) (cond (d279 a0 a1.2.2.1) (cond (decide ((v279 a0 a1.2.2.1) < (0 : Int))) (true) (decide (0 <= (v279 a0 a1.2.2.1)) && (optD ((a0.1)[(v279 a0 a1.2.2.1).toNat]?) (fun x1 => true)))) (false))
theorem o270 (a0 : Ty.T y36) (a1 : Ty.T y27) : u270 a0 a1 = cond (d270 a0 a1) (some (f270 (v270 a0 a1))) none := (pC (pC (pS _) (pS _)) (pC (pC (pS _) (pI (pO fun x1 => (pS _)))) (pN _)))
def p270 : Prim := ⟨[.agg [.dat y36 true], .agg [.dat y27 true]], fun v => .br (d270 v.1 v.2.1) (.done (f270 (v270 v.1 v.2.1))) .no⟩
theorem ok270 : PO 270 p270 := pK E270 fun v => Eq.trans (b := u270 v.1 v.2.1) (by kernel_rfl) (o270 v.1 v.2.1)
def f333 (r : Bool) : AV × Sig := (.one (.bool r), [])
def E333 := (E0.p ok270)
def t333 (a0 : Ty.T y36) (a1 : Int) (a2 : Ty.T y102) (a3 : Ty.T y27) {Z : Type} (κ : Bool -> Option Z) : Option Z := cond (d270 a0 a3) (cond ((v270 a0 a3) == (-1 : Int)) (κ false) (cond (a2.2.1 == (1 : Int)) (cond ((v270 a0 a3) != a1) (κ false) (cond (a2.2.1 == (2 : Int)) (cond ((v270 a0 a3) == a1) (κ false) (cond (a2.2.2.2.2.1 == (0 : Int)) (κ true) (κ (a2.2.2.2.2.1 == a3.2.2.1)))) (cond (a2.2.2.2.2.1 == (0 : Int)) (κ true) (κ (a2.2.2.2.2.1 == a3.2.2.1))))) (cond (a2.2.1 == (2 : Int)) (cond ((v270 a0 a3) == a1) (κ false) (cond (a2.2.2.2.2.1 == (0 : Int)) (κ true) (κ (a2.2.2.2.2.1 == a3.2.2.1)))) (cond (a2.2.2.2.2.1 == (0 : Int)) (κ true) (κ (a2.2.2.2.2.1 == a3.2.2.1)))))) (none)
def v333 (a0 : Ty.T y36) (a1 : Int) (a2 : Ty.T y102) (a3 : Ty.T y27) : Bool := (t333 a0 a1 a2 a3 some).getD false
def d333 (a0 : Ty.T y36) (a1 : Int) (a2 : Ty.T y102) (a3 : Ty.T y27) : Bool := (t333 a0 a1 a2 a3 some).isSome
def p333 : Prim := ⟨[.agg [.dat y36 true], oI, .agg [.dat y102 true], .agg [.dat y27 true]], fun v => .br (d333 v.1 v.2.1 v.2.2.1 v.2.2.2.1) (.done (f333 (v333 v.1 v.2.1 v.2.2.1 v.2.2.2.1))) .no⟩
theorem ok333 : PO 333 p333 := pK E333 fun v => Eq.trans (b := (t333 v.1 v.2.1 v.2.2.1 v.2.2.2.1 (sm f333))) (by kernel_rfl) (run_fin (show t333 v.1 v.2.1 v.2.2.1 v.2.2.2.1 (sm f333) = (t333 v.1 v.2.1 v.2.2.1 v.2.2.2.1 some).bind _ from by unfold t333; simp only [bb]))
def f315 (r : (Ty.T y63)) : AV × Sig := (.agg (y63.cells false r), [])
def E315 := (E0.p ok279)
def t315 (a0 : Ty.T y36) (a1 : Ty.T y27) {Z : Type} (κ : (Ty.T y63) -> Option Z) : Option Z := cond (d279 a0 a1.2.1) (cond (a1.1 != (1 : Int)) (κ (0, 0, 0, 0, 0, 0, 0, 0, 0, 0, 0, false, false)) (cond (decide ((v279 a0 a1.2.1) < (0 : Int))) (κ (0, 0, 0, 0, 0, 0, 0, 0, 0, 0, 0, false, false)) (if 0 <= (v279 a0 a1.2.1) then (optC ((a0.1)[(v279 a0 a1.2.1).toNat]?) (fun x1 => κ x1)) else none))) (none)
def v315 (a0 : Ty.T y36) (a1 : Ty.T y27) : (Ty.T y63) := (t315 a0 a1 some).getD (Ty.zero y63)
def d315 (a0 : Ty.T y36) (a1 : Ty.T y27) : Bool := (t315 a0 a1 some).isSome
def p315 : Prim := ⟨[.agg [.dat y36 true], .agg [.dat y27 true]], fun v => .br (d315 v.1 v.2.1) (.done (f315 (v315 v.1 v.2.1))) .no⟩
theorem ok315 : PO 315 p315 := pK E315 fun v => Eq.trans (b := (t315 v.1 v.2.1 (sm f315))) (by kernel_rfl) (run_fin (show t315 v.1 v.2.1 (sm f315) = (t315 v.1 v.2.1 some).bind _ from (bC (bC rfl (bC rfl (bI (bO fun x1 => rfl)))) rfl)))
def f334 (r : Bool) : AV × Sig := (.one (.bool r), [])
def E334 := (E0.p ok315)
def u334 (a0 : Ty.T y36) (a1 : Ty.T y102) (a2 : Ty.T y27) : Option (AV × Sig) := cond (a1.2.2.1 == (0 : Int)) (cond (d315 a0 a2) (some (.one (.bool ((IntKind.wrap .i64 ((BitVec.ofInt (IntKind.bits .i64) (v315 a0 a2).2.2.2.2.2.2.2.1 &&& BitVec.ofInt (IntKind.bits .i64) a1.2.2.2.1).toNat : Int)) == a1.2.2.2.1)), [])) (none)) (cond (a1.2.2.1 == a2.2.1) (cond (d315 a0 a2) (some (.one (.bool ((IntKind.wrap .i64 ((BitVec.ofInt (IntKind.bits .i64) (v315 a0 a2).2.2.2.2.2.2.2.1 &&& BitVec.ofInt (IntKind.bits .i64) a1.2.2.2.1).toNat : Int)) == a1.2.2.2.1)), [])) (none)) (some (.one (.bool false), [])))
def v334 (a0 : Ty.T y36) (a1 : Ty.T y102) (a2 : Ty.T y27) : Bool := cond (a1.2.2.1 == (0 : Int)) (cond (d315 a0 a2) (((IntKind.wrap .i64 ((BitVec.ofInt (IntKind.bits .i64) (v315 a0 a2).2.2.2.2.2.2.2.1 &&& BitVec.ofInt (IntKind.bits .i64) a1.2.2.2.1).toNat : Int)) == a1.2.2.2.1)) (false)) (cond (a1.2.2.1 == a2.2.1) (cond (d315 a0 a2) (((IntKind.wrap .i64 ((BitVec.ofInt (IntKind.bits .i64) (v315 a0 a2).2.2.2.2.2.2.2.1 &&& BitVec.ofInt (IntKind.bits .i64) a1.2.2.2.1).toNat : Int)) == a1.2.2.2.1)) (false)) (false))
def d334 (a0 : Ty.T y36) (a1 : Ty.T y102) (a2 : Ty.T y27) : Bool := cond (a1.2.2.1 == (0 : Int)) (cond (d315 a0 a2) (true) (false)) (cond (a1.2.2.1 == a2.2.1) (cond (d315 a0 a2) (true) (false)) (true))
theorem o334 (a0 : Ty.T y36) (a1 : Ty.T y102) (a2 : Ty.T y27) : u334 a0 a1 a2 = cond (d334 a0 a1 a2) (some (f334 (v334 a0 a1 a2))) none := (pC (pC (pS _) (pN _)) (pC (pC (pS _) (pN _)) (pS _)))
def p334 : Prim := ⟨[.agg [.dat y36 true], .agg [.dat y102 true], .agg [.dat y27 true]], fun v => .br (d334 v.1 v.2.1 v.2.2.1) (.done (f334 (v334 v.1 v.2.1 v.2.2.1))) .no⟩
theorem ok334 : PO 334 p334 := pK E334 fun v => Eq.trans (b := u334 v.1 v.2.1 v.2.2.1) (by kernel_rfl) (o334 v.1 v.2.1 v.2.2.1)
def f312 (r : Bool) : AV × Sig := (.one (.bool r), [])
def E312 := ((((E0.p ok157).p ok297).p ok333).p ok334)
def u312 (a0 : Ty.T y36) (a1 : Int) (a2 : Ty.T y102) (a3 : Ty.T y27) : Option (AV × Sig) := cond (v297 a2) (cond (v157 a3) (cond (a2.1 == a3.1) (cond (d333 a0 a1 a2 a3) (cond (v333 a0 a1 a2 a3) (cond (d334 a0 a2 a3) (cond (v334 a0 a2 a3) (cond (decide (a3.2.2.2.2.1 ≥ a2.2.2.2.2.2.1)) (cond (a2.2.2.2.2.2.2 == (0 : Int)) (some (.one (.bool true), [])) (some (.one (.bool (a2.2.2.2.2.2.2 == a3.2.2.2.2.2.1)), []))) (some (.one (.bool false), []))) (some (.one (.bool false), []))) (none)) (some (.one (.bool false), []))) (none)) (some (.one (.bool false), []))) (some (.one (.bool false), []))) (some (.one (.bool false), []))
def v312 (a0 : Ty.T y36) (a1 : Int) (a2 : Ty.T y102) (a3 : Ty.T y27) : Bool := cond (v297 a2) (cond (v157 a3) (cond (a2.1 == a3.1) (cond (d333 a0 a1 a2 a3) (cond (v333 a0 a1 a2 a3) (cond (d334 a0 a2 a3) (cond (v334 a0 a2 a3) (cond (decide (a3.2.2.2.2.1 ≥ a2.2.2.2.2.2.1)) (cond (a2.2.2.2.2.2.2 == (0 : Int)) (true) ((a2.2.2.2.2.2.2 == a3.2.2.2.2.2.1))) (false)) (false)) (false)) (false)) (false)) (false)) (false)) (false)
def d312 (a0 : Ty.T y36) (a1 : Int) (a2 : Ty.T y102) (a3 : Ty.T y27) : Bool := cond (v297 a2) (cond (v157 a3) (cond (a2.1 == a3.1) (cond (d333 a0 a1 a2 a3) (cond (v333 a0 a1 a2 a3) (cond (d334 a0 a2 a3) (cond (v334 a0 a2 a3) (cond (decide (a3.2.2.2.2.1 ≥ a2.2.2.2.2.2.1)) (cond (a2.2.2.2.2.2.2 == (0 : Int)) (true) (true)) (true)) (true)) (false)) (true)) (false)) (true)) (true)) (true)
theorem o312 (a0 : Ty.T y36) (a1 : Int) (a2 : Ty.T y102) (a3 : Ty.T y27) : u312 a0 a1 a2 a3 = cond (d312 a0 a1 a2 a3) (some (f312 (v312 a0 a1 a2 a3))) none := (pC (pC (pC (pC (pC (pC (pC (pC (pC (pS _) (pS _)) (pS _)) (pS _)) (pN _)) (pS _)) (pN _)) (pS _)) (pS _)) (pS _))
def p312 : Prim := ⟨[.agg [.dat y36 true], oI, .agg [.dat y102 true], .agg [.dat y27 true]], fun v => .br (d312 v.1 v.2.1 v.2.2.1 v.2.2.2.1) (.done (f312 (v312 v.1 v.2.1 v.2.2.1 v.2.2.2.1))) .no⟩
theorem ok312 : PO 312 p312 := pK E312 fun v => Eq.trans (b := u312 v.1 v.2.1 v.2.2.1 v.2.2.2.1) (by kernel_rfl) (o312 v.1 v.2.1 v.2.2.1 v.2.2.2.1)
def f269 (r : Bool) : AV × Sig := (.one (.bool r), [])
def E269 := (((((E0.p ok242).p ok309).p ok310).p ok311).p ok312)
def u269 (a0 : Ty.T y36) (a1 : Ty.T y108) (a2 : Ty.T y27) : Option (AV × Sig) := cond (d242 a1) (cond (v242 a1) (cond (v309 a1 a0.2.2.2) (cond (v310 a1 a2) (cond (d311 a0 a1.2.1 a1.2.2.2.2.2.1) (cond (v311 a0 a1.2.1 a1.2.2.2.2.2.1) (cond (d312 a0 a1.2.1 a1.2.2.2.2.1 a2) (some (.one (.bool (v312 a0 a1.2.1 a1.2.2.2.2.1 a2)), [])) (none)) (some (.one (.bool false), []))) (none)) (some (.one (.bool false), []))) (some (.one (.bool false), []))) (some (.one (.bool false), []))) (none)
def v269 (a0 : Ty.T y36) (a1 : Ty.T y108) (a2 : Ty.T y27) : Bool := cond (d242 a1) (cond (v242 a1) (cond (v309 a1 a0.2.2.2) (cond (v310 a1 a2) (cond (d311 a0 a1.2.1 a1.2.2.2.2.2.1) (cond (v311 a0 a1.2.1 a1.2.2.2.2.2.1) (cond (d312 a0 a1.2.1 a1.2.2.2.2.1 a2) ((v312 a0 a1.2.1 a1.2.2.2.2.1 a2)) (false)) (false)) (false)) (false)) (false)) (false)) (false)
def d269 (a0 : Ty.T y36) (a1 : Ty.T y108) (a2 : Ty.T y27) : Bool := cond (d242 a1) (cond (v242 a1) (cond (v309 a1 a0.2.2.2) (cond (v310 a1 a2) (cond (d311 a0 a1.2.1 a1.2.2.2.2.2.1) (cond (v311 a0 a1.2.1 a1.2.2.2.2.2.1) (cond (d312 a0 a1.2.1 a1.2.2.2.2.1 a2) (true) (false)) (true)) (false)) (true)) (true)) (true)) (false)
theorem o269 (a0 : Ty.T y36) (a1 : Ty.T y108) (a2 : Ty.T y27) : u269 a0 a1 a2 = cond (d269 a0 a1 a2) (some (f269 (v269 a0 a1 a2))) none := (pC (pC (pC (pC (pC (pC (pC (pS _) (pN _)) (pS _)) (pN _)) (pS _)) (pS _)) (pS _)) (pN _))
def p269 : Prim := ⟨[.agg [.dat y36 true], .agg [.dat y108 true], .agg [.dat y27 true]], fun v => .br (d269 v.1 v.2.1 v.2.2.1) (.done (f269 (v269 v.1 v.2.1 v.2.2.1))) .no⟩
theorem ok269 : PO 269 p269 := pK E269 fun v => Eq.trans (b := u269 v.1 v.2.1 v.2.2.1) (by kernel_rfl) (o269 v.1 v.2.1 v.2.2.1)
def f212g1 (r : (Ty.T y27) × (Ty.T y221)) : AV × Sig := (.agg (y27.cells false r.1), [(4294967296, .box 222 ((y221.cells true r.2)))])
def E212g1 := ((E0.g ok237g1).p ok269)
@[reducible] def ss212g1_1 : List SP := .one (.ptr 4294967296 0) :: .und :: .one (.dat (.sl 109 y108) false) :: .und :: .one (.ptr 4 0) :: .und :: .one (.ptr 6 0) :: .one (.ptr 7 0) :: oI :: oI :: U2 (.und :: oI :: .one (.dat .bool true) :: U16 (U4 ([])))
@[reducible] def gs212g1_1 : List (Nat × GP) := [(4294967296, .box 222 [.dat y221 true]), (4, .box 37 [.dat y36 false]), (6, .box 41 [.dat y27 false]), (7, .box 41 [.dat y27 false])]
@[reducible] def V212g1_1 : Type := (List (Ty.T y108)) × Int × Int × Int × Bool × (Ty.T y221) × (Ty.T y36) × (Ty.T y27) × (Ty.T y27) × Unit
def t212g1_1 (v : V212g1_1) {Z : Type} (κ : Nat × V212g1_1 -> Option Z) : Option Z := cond (decide (v.2.2.1 < ((v.1).length : Int))) (if 0 <= v.2.2.1 then (optC ((v.1)[(v.2.2.1).toNat]?) (fun x1 => cond (d269 v.2.2.2.2.2.2.1 x1 v.2.2.2.2.2.2.2.2.1) (cond (v269 v.2.2.2.2.2.2.1 x1 v.2.2.2.2.2.2.2.2.1) (κ (1, (v.1, v.2.1, v.2.2.1, v.2.2.2.1, v.2.2.2.2.1, v.2.2.2.2.2.1, v.2.2.2.2.2.2.1, v.2.2.2.2.2.2.2.2.1, v.2.2.2.2.2.2.2.2.1, ()))) (κ (0, (v.1, v.2.1, IntKind.wrap .i64 (v.2.2.1 + (1 : Int)), v.2.2.2.1, v.2.2.2.2.1, v.2.2.2.2.2.1, v.2.2.2.2.2.2.1, v.2.2.2.2.2.2.2.1, v.2.2.2.2.2.2.2.2.1, ())))) (none))) else none) (κ (2, (v.1, v.2.1, v.2.2.1, v.2.2.2.1, v.2.2.2.2.1, v.2.2.2.2.2.1, v.2.2.2.2.2.2.1, v.2.2.2.2.2.2.2.1, v.2.2.2.2.2.2.2.2.1, ())))
def s212g1_1 (v : V212g1_1) : Option (Nat × V212g1_1) := t212g1_1 v some
def n212g1_1 (v : V212g1_1) : Nat := v.1.length + v.2.1.toNat + v.2.2.1.toNat + v.2.2.2.1.toNat + v.2.2.2.2.2.1.1.length + v.2.2.2.2.2.2.1.1.length + v.2.2.2.2.2.2.1.2.1.length + 100
def k212g1_1 (h0 : List (Ty.T y108)) (h1 : Int) (h2 : Int) (h3 : Int) (h4 : Bool) (h5 : Ty.T y221) (h6 : Ty.T y36) (h7 : Ty.T y27) (h8 : Ty.T y27) (c : Nat) : Bool := iK s212g1_1 n212g1_1 (h0, h1, h2, h3, h4, h5, h6, h7, h8, ()) c
def w212g1_1 (h0 : List (Ty.T y108)) (h1 : Int) (h2 : Int) (h3 : Int) (h4 : Bool) (h5 : Ty.T y221) (h6 : Ty.T y36) (h7 : Ty.T y27) (h8 : Ty.T y27) : V212g1_1 := iW s212g1_1 n212g1_1 (h0, h1, h2, h3, h4, h5, h6, h7, h8, ())
def F212g1_1 (v : V212g1_1) : Ways (Ex × St) := waysOf s212g1_1 (n212g1_1 v) v (bldSt ss212g1_1 gs212g1_1) [.ret, .exit 2] 0
theorem l212g1_1 : LoopOk Tryz.prog (loopAt [true, false, false, true] (loopAt (pb 4 11) (bodyOf Tryz.f212))) ss212g1_1 gs212g1_1 F212g1_1 := loopOk_iter (lt := .none) E212g1.ok orders (LtOk.no _) fun n v K => Eq.trans (b := t212g1_1 v (kont _ _ _ _ _ K)) (by kernel_rfl) (show t212g1_1 v _ = (t212g1_1 v some).bind _ from (bC (bI (bO fun x1 => (bC (bC rfl rfl) rfl))) rfl))
@[reducible] def ss212g1_0 : List SP := .one (.ptr 4294967296 0) :: .und :: .one (.dat (.sl 109 y108) false) :: .und :: .one (.ptr 4 0) :: .und :: .one (.ptr 6 0) :: .one (.ptr 7 0) :: oI :: U16 (U8 (U2 ([])))
@[reducible] def V212g1_0 : Type := (List (Ty.T y108)) × Int × (Ty.T y221) × (Ty.T y36) × (Ty.T y27) × (Ty.T y27) × Unit
def t212g1_0 (v : V212g1_0) {Z : Type} (κ : Nat × V212g1_0 -> Option Z) : Option Z := cond (decide (v.2.1 < (5 : Int))) (cond (k212g1_1 v.1 v.2.1 0 v.2.1 (decide (v.2.1 < (5 : Int))) v.2.2.1 v.2.2.2.1 v.2.2.2.2.1 v.2.2.2.2.2.1 0) (κ (1, ((w212g1_1 v.1 v.2.1 0 v.2.1 (decide (v.2.1 < (5 : Int))) v.2.2.1 v.2.2.2.1 v.2.2.2.2.1 v.2.2.2.2.2.1).1, (w212g1_1 v.1 v.2.1 0 v.2.1 (decide (v.2.1 < (5 : Int))) v.2.2.1 v.2.2.2.1 v.2.2.2.2.1 v.2.2.2.2.2.1).2.1, (w212g1_1 v.1 v.2.1 0 v.2.1 (decide (v.2.1 < (5 : Int))) v.2.2.1 v.2.2.2.1 v.2.2.2.2.1 v.2.2.2.2.2.1).2.2.2.2.2.1, (w212g1_1 v.1 v.2.1 0 v.2.1 (decide (v.2.1 < (5 : Int))) v.2.2.1 v.2.2.2.1 v.2.2.2.2.1 v.2.2.2.2.2.1).2.2.2.2.2.2.1, (w212g1_1 v.1 v.2.1 0 v.2.1 (decide (v.2.1 < (5 : Int))) v.2.2.1 v.2.2.2.1 v.2.2.2.2.1 v.2.2.2.2.2.1).2.2.2.2.2.2.2.1, (w212g1_1 v.1 v.2.1 0 v.2.1 (decide (v.2.1 < (5 : Int))) v.2.2.1 v.2.2.2.1 v.2.2.2.2.1 v.2.2.2.2.2.1).2.2.2.2.2.2.2.2.1, ()))) (cond (k212g1_1 v.1 v.2.1 0 v.2.1 (decide (v.2.1 < (5 : Int))) v.2.2.1 v.2.2.2.1 v.2.2.2.2.1 v.2.2.2.2.2.1 1) (cond (d237g1 (w212g1_1 v.1 v.2.1 0 v.2.1 (decide (v.2.1 < (5 : Int))) v.2.2.1 v.2.2.2.1 v.2.2.2.2.1 v.2.2.2.2.2.1).2.2.2.2.2.2.1 (w212g1_1 v.1 v.2.1 0 v.2.1 (decide (v.2.1 < (5 : Int))) v.2.2.1 v.2.2.2.1 v.2.2.2.2.1 v.2.2.2.2.2.1).2.2.2.2.2.1) (κ (0, ((w212g1_1 v.1 v.2.1 0 v.2.1 (decide (v.2.1 < (5 : Int))) v.2.2.1 v.2.2.2.1 v.2.2.2.2.1 v.2.2.2.2.2.1).1, IntKind.wrap .i64 ((w212g1_1 v.1 v.2.1 0 v.2.1 (decide (v.2.1 < (5 : Int))) v.2.2.1 v.2.2.2.1 v.2.2.2.2.1 v.2.2.2.2.2.1).2.1 + (1 : Int)), (v237g1 (w212g1_1 v.1 v.2.1 0 v.2.1 (decide (v.2.1 < (5 : Int))) v.2.2.1 v.2.2.2.1 v.2.2.2.2.1 v.2.2.2.2.2.1).2.2.2.2.2.2.1 (w212g1_1 v.1 v.2.1 0 v.2.1 (decide (v.2.1 < (5 : Int))) v.2.2.1 v.2.2.2.1 v.2.2.2.2.1 v.2.2.2.2.2.1).2.2.2.2.2.1).2, (w212g1_1 v.1 v.2.1 0 v.2.1 (decide (v.2.1 < (5 : Int))) v.2.2.1 v.2.2.2.1 v.2.2.2.2.1 v.2.2.2.2.2.1).2.2.2.2.2.2.1, (w212g1_1 v.1 v.2.1 0 v.2.1 (decide (v.2.1 < (5 : Int))) v.2.2.1 v.2.2.2.1 v.2.2.2.2.1 v.2.2.2.2.2.1).2.2.2.2.2.2.2.1, (v237g1 (w212g1_1 v.1 v.2.1 0 v.2.1 (decide (v.2.1 < (5 : Int))) v.2.2.1 v.2.2.2.1 v.2.2.2.2.1 v.2.2.2.2.2.1).2.2.2.2.2.2.1 (w212g1_1 v.1 v.2.1 0 v.2.1 (decide (v.2.1 < (5 : Int))) v.2.2.1 v.2.2.2.1 v.2.2.2.2.1 v.2.2.2.2.2.1).2.2.2.2.2.1).1, ()))) (none)) (none))) (κ (2, (v.1, v.2.1, v.2.2.1, v.2.2.2.1, v.2.2.2.2.1, v.2.2.2.2.2.1, ())))
def s212g1_0 (v : V212g1_0) : Option (Nat × V212g1_0) := t212g1_0 v some
def n212g1_0 (v : V212g1_0) : Nat := v.1.length + v.2.1.toNat + v.2.2.1.1.length + v.2.2.2.1.1.length + v.2.2.2.1.2.1.length + 100
def k212g1_0 (h0 : List (Ty.T y108)) (h1 : Int) (h2 : Ty.T y221) (h3 : Ty.T y36) (h4 : Ty.T y27) (h5 : Ty.T y27) (c : Nat) : Bool := iK s212g1_0 n212g1_0 (h0, h1, h2, h3, h4, h5, ()) c
def w212g1_0 (h0 : List (Ty.T y108)) (h1 : Int) (h2 : Ty.T y221) (h3 : Ty.T y36) (h4 : Ty.T y27) (h5 : Ty.T y27) : V212g1_0 := iW s212g1_0 n212g1_0 (h0, h1, h2, h3, h4, h5, ())
def F212g1_0 (v : V212g1_0) : Ways (Ex × St) := waysOf s212g1_0 (n212g1_0 v) v (bldSt ss212g1_0 gs212g1_1) [.ret, .exit 0] 0
theorem l212g1_0 : LoopOk Tryz.prog (loopAt (pb 4 11) (bodyOf Tryz.f212)) ss212g1_0 gs212g1_1 F212g1_0 := loopOk_iter (lt := (ltPut [true, false, false, true] (loopAt (pb 4 11) (bodyOf Tryz.f212)) .none (.sum ss212g1_1 gs212g1_1 F212g1_1))) E212g1.ok orders (LtOk.put (wf_of (by kernel_rfl)) (LtOk.no _) l212g1_1) fun n v K => Eq.trans (b := t212g1_0 v (kont _ _ _ _ _ K)) (by kernel_rfl) (show t212g1_0 v _ = (t212g1_0 v some).bind _ from (bC (bC rfl (bC (bC rfl rfl) rfl)) rfl))
def E212g1l := E212g1.l (g := 212) (t := (ltPut (pb 4 11) (bodyOf Tryz.f212) .none (.sum ss212g1_0 gs212g1_1 F212g1_0))) (ltOk_of Tryz.func212 (LtOk.put (wf_of (by kernel_rfl)) (LtOk.no _) l212g1_0))
def t212g1 (a0 : Ty.T y36) (a1 : List (Ty.T y108)) (a2 : Ty.T y221) {Z : Type} (κ : (Ty.T y27) × (Ty.T y221) -> Option Z) : Option Z := cond (d237g1 a0 a2) (cond (k212g1_0 a1 0 (v237g1 a0 a2).2 a0 (0, 0, 0, 0, 0, 0, false) (v237g1 a0 a2).1 0) (κ ((w212g1_0 a1 0 (v237g1 a0 a2).2 a0 (0, 0, 0, 0, 0, 0, false) (v237g1 a0 a2).1).2.2.2.2.1, (w212g1_0 a1 0 (v237g1 a0 a2).2 a0 (0, 0, 0, 0, 0, 0, false) (v237g1 a0 a2).1).2.2.1)) (cond (k212g1_0 a1 0 (v237g1 a0 a2).2 a0 (0, 0, 0, 0, 0, 0, false) (v237g1 a0 a2).1 1) (κ ((w212g1_0 a1 0 (v237g1 a0 a2).2 a0 (0, 0, 0, 0, 0, 0, false) (v237g1 a0 a2).1).2.2.2.2.2.1, (w212g1_0 a1 0 (v237g1 a0 a2).2 a0 (0, 0, 0, 0, 0, 0, false) (v237g1 a0 a2).1).2.2.1)) (none))) (none)
def v212g1 (a0 : Ty.T y36) (a1 : List (Ty.T y108)) (a2 : Ty.T y221) : (Ty.T y27) × (Ty.T y221) := (t212g1 a0 a1 a2 some).getD ((Ty.zero y27), (Ty.zero y221))
def d212g1 (a0 : Ty.T y36) (a1 : List (Ty.T y108)) (a2 : Ty.T y221) : Bool := (t212g1 a0 a1 a2 some).isSome
def p212g1 : Gen := ⟨[false, false, false], [.one (.ptr 4294967296 0), .agg [.dat y36 false], .one (.dat (.sl 109 y108) false)], [(4294967296, .box 222 [.dat y221 true])], fun v => .br (d212g1 v.1 v.2.1 v.2.2.1) (.done (f212g1 (v212g1 v.1 v.2.1 v.2.2.1))) .no⟩
theorem ok212g1 : GenOk Tryz.prog 212 p212g1 := genOk_eq E212g1l.ok orders (wf_of (by kernel_rfl)) ⟨Tryz.f212, bodyOf Tryz.f212, by kernel_rfl, by kernel_rfl⟩ fun v => Eq.trans (b := (t212g1 v.1 v.2.1 v.2.2.1 (sm f212g1))) (by kernel_rfl) (run_fin (show t212g1 v.1 v.2.1 v.2.2.1 (sm f212g1) = (t212g1 v.1 v.2.1 v.2.2.1 some).bind _ from (bC (bC rfl (bC rfl rfl)) rfl)))
def f143g1 (r : (Ty.T y221) × (List (Ty.T (.int .i64)))) : AV × Sig := (.one (.sl 33554432), [(4294967296, .box 222 ((y221.cells true r.1))), (33554432, .arr 3 (.int .i64) r.2 false)])
def E143g1 := ((E0.g ok121g1).g ok209g1)
@[reducible] def ss143g1_0 : List SP := .one (.ptr 4294967296 0) :: .und :: .one (.dat (.sl 3 (.int .i64)) false) :: .one (.own 5) :: oI :: U8 (U4 (U2 ([])))
@[reducible] def gs143g1_0 : List (Nat × GP) := [(4294967296, .box 222 [.dat y221 true]), (5, .arr 3 (.int .i64) false)]
@[reducible] def V143g1_0 : Type := (List (Ty.T (.int .i64))) × Int × (Ty.T y221) × (List (Ty.T (.int .i64))) × Unit
def t143g1_0 (v : V143g1_0) {Z : Type} (κ : Nat × V143g1_0 -> Option Z) : Option Z := cond (decide (v.2.1 > (0 : Int))) (cond (d209g1 [0, 1, 2, 1, 3, 5, (-1)] v.2.2.1) (if (v.2.2.2.1 ++ [(v209g1 [0, 1, 2, 1, 3, 5, (-1)] v.2.2.1).1] : List (Ty.T (.int .i64))).length * 8 <= 140737488351232 then (κ (0, (v.1, IntKind.wrap .i64 (v.2.1 - (1 : Int)), (v209g1 [0, 1, 2, 1, 3, 5, (-1)] v.2.2.1).2, v.2.2.2.1 ++ [(v209g1 [0, 1, 2, 1, 3, 5, (-1)] v.2.2.1).1], ()))) else none) (none)) (κ (1, (v.1, v.2.1, v.2.2.1, v.2.2.2.1, ())))
def s143g1_0 (v : V143g1_0) : Option (Nat × V143g1_0) := t143g1_0 v some
def n143g1_0 (v : V143g1_0) : Nat := v.1.length + v.2.1.toNat + v.2.2.1.1.length + v.2.2.2.1.length + 100
def k143g1_0 (h0 : List (Ty.T (.int .i64))) (h1 : Int) (h2 : Ty.T y221) (h3 : List (Ty.T (.int .i64))) (c : Nat) : Bool := iK s143g1_0 n143g1_0 (h0, h1, h2, h3, ()) c
def w143g1_0 (h0 : List (Ty.T (.int .i64))) (h1 : Int) (h2 : Ty.T y221) (h3 : List (Ty.T (.int .i64))) : V143g1_0 := iW s143g1_0 n143g1_0 (h0, h1, h2, h3, ())
def F143g1_0 (v : V143g1_0) : Ways (Ex × St) := waysOf s143g1_0 (n143g1_0 v) v (bldSt ss143g1_0 gs143g1_0) [.exit 0] 0
theorem l143g1_0 : LoopOk Tryz.prog (loopAt (pb 4 11) (bodyOf Tryz.f143)) ss143g1_0 gs143g1_0 F143g1_0 := loopOk_iter (lt := .none) E143g1.ok orders (LtOk.no _) fun n v K => Eq.trans (b := t143g1_0 v (kont _ _ _ _ _ K)) (by kernel_rfl) (show t143g1_0 v _ = (t143g1_0 v some).bind _ from (bC (bC (bI rfl) rfl) rfl))
def E143g1l := E143g1.l (g := 143) (t := (ltPut (pb 4 11) (bodyOf Tryz.f143) .none (.sum ss143g1_0 gs143g1_0 F143g1_0))) (ltOk_of Tryz.func143 (LtOk.put (wf_of (by kernel_rfl)) (LtOk.no _) l143g1_0))
def t143g1 (a0 : Ty.T y221) {Z : Type} (κ : (Ty.T y221) × (List (Ty.T (.int .i64))) -> Option Z) : Option Z := cond (d121g1 8 a0) (cond (k143g1_0 [] (v121g1 8 a0).1 (v121g1 8 a0).2 [] 0) (κ ((w143g1_0 [] (v121g1 8 a0).1 (v121g1 8 a0).2 []).2.2.1, (w143g1_0 [] (v121g1 8 a0).1 (v121g1 8 a0).2 []).2.2.2.1)) (none)) (none)
def v143g1 (a0 : Ty.T y221) : (Ty.T y221) × (List (Ty.T (.int .i64))) := (t143g1 a0 some).getD ((Ty.zero y221), [])
def d143g1 (a0 : Ty.T y221) : Bool := (t143g1 a0 some).isSome
def p143g1 : Gen := ⟨[false], [.one (.ptr 4294967296 0)], [(4294967296, .box 222 [.dat y221 true])], fun v => .br (d143g1 v.1) (.done (f143g1 (v143g1 v.1))) .no⟩
theorem ok143g1 : GenOk Tryz.prog 143 p143g1 := genOk_eq E143g1l.ok orders (wf_of (by kernel_rfl)) ⟨Tryz.f143, bodyOf Tryz.f143, by kernel_rfl, by kernel_rfl⟩ fun v => Eq.trans (b := (t143g1 v.1 (sm f143g1))) (by kernel_rfl) (run_fin (show t143g1 v.1 (sm f143g1) = (t143g1 v.1 some).bind _ from (bC (bC rfl rfl) rfl)))
def f133g1 (r : (Ty.T y36) × (List (Ty.T y108)) × (Ty.T y27) × (Ty.T y221) × (List (Ty.T (.int .i64)))) : AV × Sig := (.tup [(true, (y36.cells false r.1)), (false, ([.emb 109 y108 r.2.1 false])), (true, (y27.cells false r.2.2.1)), (false, ([.sl 33603584]))], [(4294967296, .box 222 ((y221.cells true r.2.2.2.1))), (33603584, .arr 3 (.int .i64) r.2.2.2.2 false)])
def E133g1 := ((((E0.g ok119g1).g ok143g1).g ok183g1).g ok212g1)
@[reducible] def ss133g1_0 : List SP := .one (.ptr 4294967296 0) :: .und :: .one (.ptr 2 0) :: .one (.dat (.sl 109 y108) false) :: .one (.ptr 4 0) :: .one (.dat (.sl 3 (.int .i64)) false) :: .one (.ptr 6 0) :: .one (.dat (.sl 109 y108) false) :: .one (.ptr 8 0) :: U8 (U4 (U2 ([])))
@[reducible] def gs133g1_0 : List (Nat × GP) := [(4294967296, .box 222 [.dat y221 true]), (2, .box 37 [.dat y36 false]), (4, .box 41 [.dat y27 false]), (6, .box 37 [.dat y36 false]), (8, .box 41 [.dat y27 false])]
@[reducible] def V133g1_0 : Type := (List (Ty.T y108)) × (List (Ty.T (.int .i64))) × (List (Ty.T y108)) × (Ty.T y221) × (Ty.T y36) × (Ty.T y27) × (Ty.T y36) × (Ty.T y27) × Unit
@[reducible] def sx133g1_0 : List SP := U2 (.one (.ptr 2 0) :: .one (.dat (.sl 109 y108) false) :: .one (.ptr 4 0) :: .one (.own 33554454) :: U16 (.und :: []))
@[reducible] def gx133g1_0 : List (Nat × GP) := [(2, .box 37 [.dat y36 false]), (4, .box 41 [.dat y27 false]), (4294967296, .box 222 [.dat y221 true]), (33554454, .arr 3 (.int .i64) false)]
def f133g1_0 (v : V133g1_0) (r : Unit) : Ex × St := (.normal, bldSt sx133g1_0 gx133g1_0 (v.2.2.1, v.2.2.2.2.2.2.1, v.2.2.2.2.2.2.2.1, (v143g1 v.2.2.2.1).1, (v143g1 v.2.2.2.1).2, ()))
def t133g1_0 (v : V133g1_0) {Z : Type} (κ : Unit -> Option Z) : Option Z := cond (d143g1 v.2.2.2.1) (κ ()) (none)
def c133g1_0 (v : V133g1_0) : Unit := (t133g1_0 v some).getD ()
def g133g1_0 (v : V133g1_0) : Bool := (t133g1_0 v some).isSome
def F133g1_0 (v : V133g1_0) : Ways (Ex × St) := .br (g133g1_0 v) (.done (f133g1_0 v (c133g1_0 v))) .no
theorem l133g1_0 : CodeOk Tryz.prog (pieceAt (pb 5 15) (bodyOf Tryz.f133)) ss133g1_0 gs133g1_0 F133g1_0 := codeOk_drawn (by kernel_rfl) (sx := sx133g1_0) (gx := gx133g1_0) E133g1.ok orders (by kernel_rfl) 6 fun v => Eq.trans (b := List.replicate 6 (t133g1_0 v (sm (f133g1_0 v)))) (by kernel_rfl) (congrArg (List.replicate 6) (run_fin (show t133g1_0 v (sm (f133g1_0 v)) = (t133g1_0 v some).bind _ from (bC rfl rfl))))
def E133g1l := E133g1.l (g := 133) (t := (ltPutC (pb 5 15) (bodyOf Tryz.f133) .none (.sum ss133g1_0 gs133g1_0 F133g1_0))) (ltOk_of Tryz.func133 (LtOk.putC (wf_of (by kernel_rfl)) (LtOk.no _) l133g1_0))
def t133g1 (a0 : Ty.T y221) {Z : Type} (κ : (Ty.T y36) × (List (Ty.T y108)) × (Ty.T y27) × (Ty.T y221) × (List (Ty.T (.int .i64))) -> Option Z) : Option Z := cond (d119g1 a0) (cond (d183g1 ((v119g1 a0).2.2.1, (v119g1 a0).2.2.2, (v119g1 a0).1) (v119g1 a0).2.1) (cond (d212g1 ((v119g1 a0).2.2.1, (v119g1 a0).2.2.2, (v119g1 a0).1) (v183g1 ((v119g1 a0).2.2.1, (v119g1 a0).2.2.2, (v119g1 a0).1) (v119g1 a0).2.1).2 (v183g1 ((v119g1 a0).2.2.1, (v119g1 a0).2.2.2, (v119g1 a0).1) (v119g1 a0).2.1).1) (cond (g133g1_0 ([], [], (v183g1 ((v119g1 a0).2.2.1, (v119g1 a0).2.2.2, (v119g1 a0).1) (v119g1 a0).2.1).2, (v212g1 ((v119g1 a0).2.2.1, (v119g1 a0).2.2.2, (v119g1 a0).1) (v183g1 ((v119g1 a0).2.2.1, (v119g1 a0).2.2.2, (v119g1 a0).1) (v119g1 a0).2.1).2 (v183g1 ((v119g1 a0).2.2.1, (v119g1 a0).2.2.2, (v119g1 a0).1) (v119g1 a0).2.1).1).2, ([], [], 0, 0), (0, 0, 0, 0, 0, 0, false), ((v119g1 a0).2.2.1, (v119g1 a0).2.2.2, (v119g1 a0).1), (v212g1 ((v119g1 a0).2.2.1, (v119g1 a0).2.2.2, (v119g1 a0).1) (v183g1 ((v119g1 a0).2.2.1, (v119g1 a0).2.2.2, (v119g1 a0).1) (v119g1 a0).2.1).2 (v183g1 ((v119g1 a0).2.2.1, (v119g1 a0).2.2.2, (v119g1 a0).1) (v119g1 a0).2.1).1).1, ())) (κ (((v119g1 a0).2.2.1, (v119g1 a0).2.2.2, (v119g1 a0).1), (v183g1 ((v119g1 a0).2.2.1, (v119g1 a0).2.2.2, (v119g1 a0).1) (v119g1 a0).2.1).2, (v212g1 ((v119g1 a0).2.2.1, (v119g1 a0).2.2.2, (v119g1 a0).1) (v183g1 ((v119g1 a0).2.2.1, (v119g1 a0).2.2.2, (v119g1 a0).1) (v119g1 a0).2.1).2 (v183g1 ((v119g1 a0).2.2.1, (v119g1 a0).2.2.2, (v119g1 a0).1) (v119g1 a0).2.1).1).1, (v143g1 (v212g1 ((v119g1 a0).2.2.1, (v119g1 a0).2.2.2, (v119g1 a0).1) (v183g1 ((v119g1 a0).2.2.1, (v119g1 a0).2.2.2, (v119g1 a0).1) (v119g1 a0).2.1).2 (v183g1 ((v119g1 a0).2.2.1, (v119g1 a0).2.2.2, (v119g1 a0).1) (v119g1 a0).2.1).1).2).1, (v143g1 (v212g1 ((v119g1 a0).2.2.1, (v119g1 a0).2.2.2, (v119g1 a0).1) (v183g1 ((v119g1 a0).2.2.1, (v119g1 a0).2.2.2, (v119g1 a0).1) (v119g1 a0).2.1).2 (v183g1 ((v119g1 a0).2.2.1, (v119g1 a0).2.2.2, (v119g1 a0).1) (v119g1 a0).2.1).1).2).2)) (none)) (none)) (none)) (none)
def v133g1 (a0 : Ty.T y221) : (Ty.T y36) × (List (Ty.T y108)) × (Ty.T y27) × (Ty.T y221) × (List (Ty.T (.int .i64))) := (t133g1 a0 some).getD ((Ty.zero y36), [], (Ty.zero y27), (Ty.zero y221), [])
def d133g1 (a0 : Ty.T y221) : Bool := (t133g1 a0 some).isSome
def p133g1 : Gen := ⟨[false], [.one (.ptr 4294967296 0)], [(4294967296, .box 222 [.dat y221 true])], fun v => .br (d133g1 v.1) (.done (f133g1 (v133g1 v.1))) .no⟩
theorem ok133g1 : GenOk Tryz.prog 133 p133g1 := genOk_eq E133g1l.ok orders (wf_of (by kernel_rfl)) ⟨Tryz.f133, bodyOf Tryz.f133, by kernel_rfl, by kernel_rfl⟩ fun v => Eq.trans (b := (t133g1 v.1 (sm f133g1))) (by kernel_rfl) (run_fin (show t133g1 v.1 (sm f133g1) = (t133g1 v.1 some).bind _ from (bC (bC (bC (bC rfl rfl) rfl) rfl) rfl)))
def f41 (r : (Ty.T y36) × (List (Ty.T y108)) × (Ty.T y27) × (List (Ty.T (.int .i64)))) : AV × Sig := (.tup [(true, (y36.cells false r.1)), (false, ([.emb 109 y108 r.2.1 false])), (true, (y27.cells false r.2.2.1)), (false, ([.sl 53248]))], [(53248, .arr 3 (.int .i64) r.2.2.2 false)])
def E41 := ((E0.g ok133g1).p ok116)
def t41 (a0 : List (Ty.T (.int .u8))) {Z : Type} (κ : (Ty.T y36) × (List (Ty.T y108)) × (Ty.T y27) × (List (Ty.T (.int .i64))) -> Option Z) : Option Z := cond (d116 a0) (cond (d133g1 (v116 a0)) (κ ((v133g1 (v116 a0)).1, (v133g1 (v116 a0)).2.1, (v133g1 (v116 a0)).2.2.1, (v133g1 (v116 a0)).2.2.2.2)) (none)) (none)
def v41 (a0 : List (Ty.T (.int .u8))) : (Ty.T y36) × (List (Ty.T y108)) × (Ty.T y27) × (List (Ty.T (.int .i64))) := (t41 a0 some).getD ((Ty.zero y36), [], (Ty.zero y27), [])
def d41 (a0 : List (Ty.T (.int .u8))) : Bool := (t41 a0 some).isSome
def p41 : Prim := ⟨[.one (.dat (.sl 5 (.int .u8)) true)], fun v => .br (d41 v.1) (.done (f41 (v41 v.1))) .no⟩
theorem ok41 : PO 41 p41 := pK E41 fun v => Eq.trans (b := (t41 v.1 (sm f41))) (by kernel_rfl) (run_fin (show t41 v.1 (sm f41) = (t41 v.1 some).bind _ from (bC (bC rfl rfl) rfl)))
def f165 (r : Bool) : AV × Sig := (.one (.bool r), [])
def E165 := E0
def u165 (a0 : Int) (a1 : Int) (a2 : Int) : Option (AV × Sig) := cond (decide (a0 ≥ a1)) (some (.one (.bool (decide (a0 <= a2))), [])) (some (.one (.bool false), []))
def v165 (a0 : Int) (a1 : Int) (a2 : Int) : Bool := cond (decide (a0 ≥ a1)) (decide (a0 <= a2)) (false)
theorem o165 (a0 : Int) (a1 : Int) (a2 : Int) : u165 a0 a1 a2 = some (f165 (v165 a0 a1 a2)) := (tC rfl rfl)
def p165 : Prim := ⟨[oI, oI, oI], fun v => .done (f165 (v165 v.1 v.2.1 v.2.2.1))⟩
theorem ok165 : PO 165 p165 := pK E165 fun v => Eq.trans (b := u165 v.1 v.2.1 v.2.2.1) (by kernel_rfl) (o165 v.1 v.2.1 v.2.2.1)
def f159 (r : Bool) : AV × Sig := (.one (.bool r), [])
def E159 := (E0.p ok165)
def u159 (a0 : Int) : Option (AV × Sig) := some (.one (.bool (v165 a0 0 2147483647)), [])
def v159 (a0 : Int) : Bool := (v165 a0 0 2147483647)
theorem o159 (a0 : Int) : u159 a0 = some (f159 (v159 a0)) := rfl
def p159 : Prim := ⟨[oI], fun v => .done (f159 (v159 v.1))⟩
theorem ok159 : PO 159 p159 := pK E159 fun v => Eq.trans (b := u159 v.1) (by kernel_rfl) (o159 v.1)
def f160 (r : Bool) : AV × Sig := (.one (.bool r), [])
def E160 := (E0.p ok165)
def u160 (a0 : Int) : Option (AV × Sig) := some (.one (.bool (v165 a0 1 99)), [])
def v160 (a0 : Int) : Bool := (v165 a0 1 99)
theorem o160 (a0 : Int) : u160 a0 = some (f160 (v160 a0)) := rfl
def p160 : Prim := ⟨[oI], fun v => .done (f160 (v160 v.1))⟩
theorem ok160 : PO 160 p160 := pK E160 fun v => Eq.trans (b := u160 v.1) (by kernel_rfl) (o160 v.1)
def f161 (r : Bool) : AV × Sig := (.one (.bool r), [])
def E161 := (E0.p ok160)
def u161 (a0 : Ty.T y27) : Option (AV × Sig) := cond (v160 a0.2.2.1) (some (.one (.bool (a0.2.2.2.1 == (-1 : Int))), [])) (some (.one (.bool false), []))
def v161 (a0 : Ty.T y27) : Bool := cond (v160 a0.2.2.1) ((a0.2.2.2.1 == (-1 : Int))) (false)
theorem o161 (a0 : Ty.T y27) : u161 a0 = some (f161 (v161 a0)) := (tC rfl rfl)
def p161 : Prim := ⟨[.agg [.dat y27 true]], fun v => .done (f161 (v161 v.1))⟩
theorem ok161 : PO 161 p161 := pK E161 fun v => Eq.trans (b := u161 v.1) (by kernel_rfl) (o161 v.1)
def f164 (r : Bool) : AV × Sig := (.one (.bool r), [])
def E164 := (E0.p ok165)
def u164 (a0 : Int) : Option (AV × Sig) := some (.one (.bool (v165 a0 0 2)), [])
def v164 (a0 : Int) : Bool := (v165 a0 0 2)
theorem o164 (a0 : Int) : u164 a0 = some (f164 (v164 a0)) := rfl
def p164 : Prim := ⟨[oI], fun v => .done (f164 (v164 v.1))⟩
theorem ok164 : PO 164 p164 := pK E164 fun v => Eq.trans (b := u164 v.1) (by kernel_rfl) (o164 v.1)
def f162 (r : Bool) : AV × Sig := (.one (.bool r), [])
def E162 := (E0.p ok164)
def u162 (a0 : Ty.T y27) : Option (AV × Sig) := cond (a0.2.2.1 == (0 : Int)) (some (.one (.bool (v164 a0.2.2.2.1)), [])) (some (.one (.bool false), []))
def v162 (a0 : Ty.T y27) : Bool := cond (a0.2.2.1 == (0 : Int)) ((v164 a0.2.2.2.1)) (false)
theorem o162 (a0 : Ty.T y27) : u162 a0 = some (f162 (v162 a0)) := (tC rfl rfl)
def p162 : Prim := ⟨[.agg [.dat y27 true]], fun v => .done (f162 (v162 v.1))⟩
theorem ok162 : PO 162 p162 := pK E162 fun v => Eq.trans (b := u162 v.1) (by kernel_rfl) (o162 v.1)
def f163 (r : Bool) : AV × Sig := (.one (.bool r), [])
def E163 := (E0.p ok165)
def u163 (a0 : Int) : Option (AV × Sig) := some (.one (.bool (v165 a0 1 4)), [])
def v163 (a0 : Int) : Bool := (v165 a0 1 4)
theorem o163 (a0 : Int) : u163 a0 = some (f163 (v163 a0)) := rfl
def p163 : Prim := ⟨[oI], fun v => .done (f163 (v163 v.1))⟩
theorem ok163 : PO 163 p163 := pK E163 fun v => Eq.trans (b := u163 v.1) (by kernel_rfl) (o163 v.1)
def f53 (r : Bool) : AV × Sig := (.one (.bool r), [])
def E53 := (((((E0.p ok159).p ok160).p ok161).p ok162).p ok163)
def t53 (a0 : Ty.T y27) {Z : Type} (κ : Bool -> Z) : Z := cond (!(v159 a0.2.2.2.2.1)) (κ false) (cond (a0.1 != (1 : Int)) (cond (a0.2.1 != (0 : Int)) (κ false) (cond (a0.1 != (2 : Int)) (cond (a0.2.2.2.2.2.1 != (0 : Int)) (κ false) (cond a0.2.2.2.2.2.2 (κ false) (cond (a0.1 == (1 : Int)) (cond (v160 a0.2.1) (cond (v161 a0) (κ true) (κ (v162 a0))) (κ false)) (cond (a0.1 == (2 : Int)) (cond (a0.2.2.2.2.2.1 == (2 : Int)) (cond (v161 a0) (κ (decide (a0.2.2.2.2.1 <= (99 : Int)))) (κ false)) (cond (v161 a0) (cond (v163 a0.2.2.2.2.2.1) (cond (a0.2.2.2.2.1 == (0 : Int)) (κ (!a0.2.2.2.2.2.2)) (κ false)) (κ false)) (κ false))) (cond (a0.1 == (3 : Int)) (cond (a0.1 == (3 : Int)) (κ (v162 a0)) (cond (a0.1 == (5 : Int)) (cond (a0.1 == (5 : Int)) (κ (v161 a0)) (κ false)) (cond (a0.1 == (6 : Int)) (κ (v161 a0)) (κ false)))) (cond (a0.1 == (4 : Int)) (κ (v162 a0)) (cond (a0.1 == (5 : Int)) (cond (a0.1 == (5 : Int)) (κ (v161 a0)) (κ false)) (cond (a0.1 == (6 : Int)) (κ (v161 a0)) (κ false))))))))) (cond (a0.1 == (1 : Int)) (cond (v160 a0.2.1) (cond (v161 a0) (κ true) (κ (v162 a0))) (κ false)) (cond (a0.1 == (2 : Int)) (cond (a0.2.2.2.2.2.1 == (2 : Int)) (cond (v161 a0) (κ (decide (a0.2.2.2.2.1 <= (99 : Int)))) (κ false)) (cond (v161 a0) (cond (v163 a0.2.2.2.2.2.1) (cond (a0.2.2.2.2.1 == (0 : Int)) (κ (!a0.2.2.2.2.2.2)) (κ false)) (κ false)) (κ false))) (cond (a0.1 == (3 : Int)) (cond (a0.1 == (3 : Int)) (κ (v162 a0)) (cond (a0.1 == (5 : Int)) (cond (a0.1 == (5 : Int)) (κ (v161 a0)) (κ false)) (cond (a0.1 == (6 : Int)) (κ (v161 a0)) (κ false)))) (cond (a0.1 == (4 : Int)) (κ (v162 a0)) (cond (a0.1 == (5 : Int)) (cond (a0.1 == (5 : Int)) (κ (v161 a0)) (κ false)) (cond (a0.1 == (6 : Int)) (κ (v161 a0)) (κ false))))))))) (cond (a0.1 != (2 : Int)) (cond (a0.2.2.2.2.2.1 != (0 : Int)) (κ false) (cond a0.2.2.2.2.2.2 (κ false) (cond (a0.1 == (1 : Int)) (cond (v160 a0.2.1) (cond (v161 a0) (κ true) (κ (v162 a0))) (κ false)) (cond (a0.1 == (2 : Int)) (cond (a0.2.2.2.2.2.1 == (2 : Int)) (cond (v161 a0) (κ (decide (a0.2.2.2.2.1 <= (99 : Int)))) (κ false)) (cond (v161 a0) (cond (v163 a0.2.2.2.2.2.1) (cond (a0.2.2.2.2.1 == (0 : Int)) (κ (!a0.2.2.2.2.2.2)) (κ false)) (κ false)) (κ false))) (cond (a0.1 == (3 : Int)) (cond (a0.1 == (3 : Int)) (κ (v162 a0)) (cond (a0.1 == (5 : Int)) (cond (a0.1 == (5 : Int)) (κ (v161 a0)) (κ false)) (cond (a0.1 == (6 : Int)) (κ (v161 a0)) (κ false)))) (cond (a0.1 == (4 : Int)) (κ (v162 a0)) (cond (a0.1 == (5 : Int)) (cond (a0.1 == (5 : Int)) (κ (v161 a0)) (κ false)) (cond (a0.1 == (6 : Int)) (κ (v161 a0)) (κ false))))))))) (cond (a0.1 == (1 : Int)) (cond (v160 a0.2.1) (cond (v161 a0) (κ true) (κ (v162 a0))) (κ false)) (cond (a0.1 == (2 : Int)) (cond (a0.2.2.2.2.2.1 == (2 : Int)) (cond (v161 a0) (κ (decide (a0.2.2.2.2.1 <= (99 : Int)))) (κ false)) (cond (v161 a0) (cond (v163 a0.2.2.2.2.2.1) (cond (a0.2.2.2.2.1 == (0 : Int)) (κ (!a0.2.2.2.2.2.2)) (κ false)) (κ false)) (κ false))) (cond (a0.1 == (3 : Int)) (cond (a0.1 == (3 : Int)) (κ (v162 a0)) (cond (a0.1 == (5 : Int)) (cond (a0.1 == (5 : Int)) (κ (v161 a0)) (κ false)) (cond (a0.1 == (6 : Int)) (κ (v161 a0)) (κ false)))) (cond (a0.1 == (4 : Int)) (κ (v162 a0)) (cond (a0.1 == (5 : Int)) (cond (a0.1 == (5 : Int)) (κ (v161 a0)) (κ false)) (cond (a0.1 == (6 : Int)) (κ (v161 a0)) (κ false)))))))))
def v53 (a0 : Ty.T y27) : Bool := t53 a0 fun r => r
def p53 : Prim := ⟨[.agg [.dat y27 true]], fun v => .done (f53 (v53 v.1))⟩
theorem ok53 : PO 53 p53 := pK E53 fun v => Eq.trans (b := (t53 v.1 (sm f53))) (by kernel_rfl) (show t53 v.1 (sm f53) = some (f53 (t53 v.1 fun r => r)) from (tC rfl (tC (tC rfl (tC (tC rfl (tC rfl (tC (tC (tC rfl rfl) rfl) (tC (tC (tC rfl rfl) (tC (tC (tC rfl rfl) rfl) rfl)) (tC (tC rfl (tC (tC rfl rfl) (tC rfl rfl))) (tC rfl (tC (tC rfl rfl) (tC rfl rfl)))))))) (tC (tC (tC rfl rfl) rfl) (tC (tC (tC rfl rfl) (tC (tC (tC rfl rfl) rfl) rfl)) (tC (tC rfl (tC (tC rfl rfl) (tC rfl rfl))) (tC rfl (tC (tC rfl rfl) (tC rfl rfl)))))))) (tC (tC rfl (tC rfl (tC (tC (tC rfl rfl) rfl) (tC (tC (tC rfl rfl) (tC (tC (tC rfl rfl) rfl) rfl)) (tC (tC rfl (tC (tC rfl rfl) (tC rfl rfl))) (tC rfl (tC (tC rfl rfl) (tC rfl rfl)))))))) (tC (tC (tC rfl rfl) rfl) (tC (tC (tC rfl rfl) (tC (tC (tC rfl rfl) rfl) rfl)) (tC (tC rfl (tC (tC rfl rfl) (tC rfl rfl))) (tC rfl (tC (tC rfl rfl) (tC rfl rfl))))))))))
def f168 (r : Bool) : AV × Sig := (.one (.bool r), [])
def E168 := (E0.p ok165)
def u168 (a0 : Ty.T y36) (a1 : Int) : Option (AV × Sig) := some (.one (.bool (v165 a1 0 (IntKind.wrap .i64 (((a0.2.1).length : Int) - (1 : Int))))), [])
def v168 (a0 : Ty.T y36) (a1 : Int) : Bool := (v165 a1 0 (IntKind.wrap .i64 (((a0.2.1).length : Int) - (1 : Int))))
theorem o168 (a0 : Ty.T y36) (a1 : Int) : u168 a0 a1 = some (f168 (v168 a0 a1)) := rfl
def p168 : Prim := ⟨[.agg [.dat y36 true], oI], fun v => .done (f168 (v168 v.1 v.2.1))⟩
theorem ok168 : PO 168 p168 := pK E168 fun v => Eq.trans (b := u168 v.1 v.2.1) (by kernel_rfl) (o168 v.1 v.2.1)
def f169 (r : Bool) : AV × Sig := (.one (.bool r), [])
def E169 := (E0.p ok165)
def u169 (a0 : Int) : Option (AV × Sig) := some (.one (.bool (v165 a0 0 9999)), [])
def v169 (a0 : Int) : Bool := (v165 a0 0 9999)
theorem o169 (a0 : Int) : u169 a0 = some (f169 (v169 a0)) := rfl
def p169 : Prim := ⟨[oI], fun v => .done (f169 (v169 v.1))⟩
theorem ok169 : PO 169 p169 := pK E169 fun v => Eq.trans (b := u169 v.1) (by kernel_rfl) (o169 v.1)
def f250 (r : Bool) : AV × Sig := (.one (.bool r), [])
def E250 := (E0.p ok165)
def u250 (a0 : Int) : Option (AV × Sig) := some (.one (.bool (v165 a0 0 63)), [])
def v250 (a0 : Int) : Bool := (v165 a0 0 63)
theorem o250 (a0 : Int) : u250 a0 = some (f250 (v250 a0)) := rfl
def p250 : Prim := ⟨[oI], fun v => .done (f250 (v250 v.1))⟩
theorem ok250 : PO 250 p250 := pK E250 fun v => Eq.trans (b := u250 v.1) (by kernel_rfl) (o250 v.1)
def f170 (r : Bool) : AV × Sig := (.one (.bool r), [])
def E170 := (((((((E0.p ok159).p ok160).p ok163).p ok164).p ok165).p ok169).p ok250)
def t170 (a0 : Ty.T y63) {Z : Type} (κ : Bool -> Z) : Z := cond (!(v160 a0.1)) (κ false) (cond (!(v164 a0.2.1)) (κ false) (cond (!(v164 a0.2.2.1)) (κ false) (cond (!(v163 a0.2.2.2.1)) (κ false) (cond (!(v169 a0.2.2.2.2.1)) (κ false) (cond (!(v165 a0.2.2.2.2.2.1 0 999)) (κ false) (cond (!(v165 a0.2.2.2.2.2.2.1 0 999)) (κ false) (cond (!(v250 a0.2.2.2.2.2.2.2.1)) (κ false) (cond (a0.2.2.2.1 != (2 : Int)) (cond (a0.2.2.1 == a0.2.1) (cond (a0.2.2.2.2.2.2.2.2.1 == (0 : Int)) (cond (a0.2.2.2.2.2.2.2.2.2.1 == (0 : Int)) (cond (a0.2.2.2.2.2.2.2.2.2.2.1 == (0 : Int)) (cond (!a0.2.2.2.2.2.2.2.2.2.2.2.1) (κ (!a0.2.2.2.2.2.2.2.2.2.2.2.2)) (κ false)) (κ false)) (κ false)) (κ false)) (κ false)) (cond (v159 a0.2.2.2.2.2.2.2.2.1) (cond (v159 a0.2.2.2.2.2.2.2.2.2.1) (κ (v159 a0.2.2.2.2.2.2.2.2.2.2.1)) (κ false)) (κ false))))))))))
def v170 (a0 : Ty.T y63) : Bool := t170 a0 fun r => r
def p170 : Prim := ⟨[.agg [.dat y63 true]], fun v => .done (f170 (v170 v.1))⟩
theorem ok170 : PO 170 p170 := pK E170 fun v => Eq.trans (b := (t170 v.1 (sm f170))) (by kernel_rfl) (show t170 v.1 (sm f170) = some (f170 (t170 v.1 fun r => r)) from (tC rfl (tC rfl (tC rfl (tC rfl (tC rfl (tC rfl (tC rfl (tC rfl (tC (tC (tC (tC (tC (tC rfl rfl) rfl) rfl) rfl) rfl) (tC (tC rfl rfl) rfl)))))))))))
def f173 (r : Int) : AV × Sig := (.one (.int .i64 r), [])
def E173 := E0
def u173 (a0 : Int) : Option (AV × Sig) := some (.one (.int .i64 (if (if (2147483647 : Int) < a0 then 2147483647 else a0) > (-2147483647 : Int) then if (2147483647 : Int) < a0 then 2147483647 else a0 else (-2147483647))), [])
def v173 (a0 : Int) : Int := if (if (2147483647 : Int) < a0 then 2147483647 else a0) > (-2147483647 : Int) then if (2147483647 : Int) < a0 then 2147483647 else a0 else (-2147483647)
theorem o173 (a0 : Int) : u173 a0 = some (f173 (v173 a0)) := rfl
def p173 : Prim := ⟨[oI], fun v => .done (f173 (v173 v.1))⟩
theorem ok173 : PO 173 p173 := pK E173 fun v => Eq.trans (b := u173 v.1) (by kernel_rfl) (o173 v.1)
def f172 (r : Bool) : AV × Sig := (.one (.bool r), [])
def E172 := ((E0.p ok159).p ok173)
def u172 (a0 : Ty.T y190) : Option (AV × Sig) := cond ((v173 a0.1) != a0.1) (some (.one (.bool true), [])) (some (.one (.bool (!(v159 a0.2.1))), []))
def v172 (a0 : Ty.T y190) : Bool := cond ((v173 a0.1) != a0.1) (true) (!(v159 a0.2.1))
theorem o172 (a0 : Ty.T y190) : u172 a0 = some (f172 (v172 a0)) := (tC rfl rfl)
def p172 : Prim := ⟨[.agg [.dat y190 true]], fun v => .done (f172 (v172 v.1))⟩
theorem ok172 : PO 172 p172 := pK E172 fun v => Eq.trans (b := u172 v.1) (by kernel_rfl) (o172 v.1)
def f251c1 (r : Int) : AV × Sig := (.one (.int .i64 r), [])
def E251c1 := (E0.p ok172)
@[reducible] def ss251c1_0 : List SP := .one (.dat (.sl 191 y190) true) :: .one (.fnc 172 []) :: U2 (oI :: U2 (oI :: oI :: U8 (U2 ([]))))
@[reducible] def V251c1_0 : Type := (List (Ty.T y190)) × Int × Int × Int × Unit
def t251c1_0 (v : V251c1_0) {Z : Type} (κ : Nat × V251c1_0 -> Option Z) : Option Z := cond (decide (v.2.2.2.1 < v.2.2.1)) (if 0 <= v.2.2.2.1 then (optC ((v.1)[(v.2.2.2.1).toNat]?) (fun x1 => cond (v172 x1) (κ (1, (v.1, v.2.2.2.1, v.2.2.1, v.2.2.2.1, ()))) (κ (0, (v.1, v.2.1, v.2.2.1, IntKind.wrap .i64 (v.2.2.2.1 + (1 : Int)), ()))))) else none) (κ (2, (v.1, v.2.1, v.2.2.1, v.2.2.2.1, ())))
def s251c1_0 (v : V251c1_0) : Option (Nat × V251c1_0) := t251c1_0 v some
def n251c1_0 (v : V251c1_0) : Nat := v.1.length + v.2.1.toNat + v.2.2.1.toNat + v.2.2.2.1.toNat + 100
def k251c1_0 (h0 : List (Ty.T y190)) (h1 : Int) (h2 : Int) (h3 : Int) (c : Nat) : Bool := iK s251c1_0 n251c1_0 (h0, h1, h2, h3, ()) c
def w251c1_0 (h0 : List (Ty.T y190)) (h1 : Int) (h2 : Int) (h3 : Int) : V251c1_0 := iW s251c1_0 n251c1_0 (h0, h1, h2, h3, ())
def F251c1_0 (v : V251c1_0) : Ways (Ex × St) := waysOf s251c1_0 (n251c1_0 v) v (bldSt ss251c1_0 gs116_0) [.ret, .exit 0] 0
theorem l251c1_0 : LoopOk Tryz.prog (loopAt (pb 3 5) (bodyOf Tryz.f251)) ss251c1_0 gs116_0 F251c1_0 := loopOk_iter (lt := .none) E251c1.ok orders (LtOk.no _) fun n v K => Eq.trans (b := t251c1_0 v (kont _ _ _ _ _ K)) (by kernel_rfl) (show t251c1_0 v _ = (t251c1_0 v some).bind _ from (bC (bI (bO fun x1 => (bC rfl rfl))) rfl))
def E251c1l := E251c1.l (g := 251) (t := (ltPut (pb 3 5) (bodyOf Tryz.f251) .none (.sum ss251c1_0 gs116_0 F251c1_0))) (ltOk_of Tryz.func251 (LtOk.put (wf_of (by kernel_rfl)) (LtOk.no _) l251c1_0))
def u251c1 (a0 : List (Ty.T y190)) : Option (AV × Sig) := cond (k251c1_0 a0 0 ((a0).length : Int) 0 0) (some (.one (.int .i64 (w251c1_0 a0 0 ((a0).length : Int) 0).2.1), [])) (cond (k251c1_0 a0 0 ((a0).length : Int) 0 1) (some (.one (.int .i64 (-1)), [])) (none))
def v251c1 (a0 : List (Ty.T y190)) : Int := cond (k251c1_0 a0 0 ((a0).length : Int) 0 0) ((w251c1_0 a0 0 ((a0).length : Int) 0).2.1) (cond (k251c1_0 a0 0 ((a0).length : Int) 0 1) ((-1)) (0))
def d251c1 (a0 : List (Ty.T y190)) : Bool := cond (k251c1_0 a0 0 ((a0).length : Int) 0 0) (true) (cond (k251c1_0 a0 0 ((a0).length : Int) 0 1) (true) (false))
theorem o251c1 (a0 : List (Ty.T y190)) : u251c1 a0 = cond (d251c1 a0) (some (f251c1 (v251c1 a0))) none := (pC (pS _) (pC (pS _) (pN _)))
def p251c1 : Prim := ⟨[.one (.dat (.sl 191 y190) true), .one (.fnc 172 [])], fun v => .br (d251c1 v.1) (.done (f251c1 (v251c1 v.1))) .no⟩
theorem ok251c1 : PO 251 p251c1 := pK E251c1l fun v => Eq.trans (b := u251c1 v.1) (by kernel_rfl) (o251c1 v.1)
def f171c1 (r : Bool) : AV × Sig := (.one (.bool r), [])
def E171c1 := (E0.p ok251c1)
def u171c1 (a0 : List (Ty.T y190)) : Option (AV × Sig) := cond (d251c1 a0) (some (.one (.bool (decide ((v251c1 a0) ≥ (0 : Int)))), [])) (none)
def v171c1 (a0 : List (Ty.T y190)) : Bool := cond (d251c1 a0) (decide ((v251c1 a0) ≥ (0 : Int))) (false)
def d171c1 (a0 : List (Ty.T y190)) : Bool := cond (d251c1 a0) (true) (false)
theorem o171c1 (a0 : List (Ty.T y190)) : u171c1 a0 = cond (d171c1 a0) (some (f171c1 (v171c1 a0))) none := (pC (pS _) (pN _))
def p171c1 : Prim := ⟨[.one (.dat (.sl 191 y190) true), .one (.fnc 172 [])], fun v => .br (d171c1 v.1) (.done (f171c1 (v171c1 v.1))) .no⟩
theorem ok171c1 : PO 171 p171c1 := pK E171c1 fun v => Eq.trans (b := u171c1 v.1) (by kernel_rfl) (o171c1 v.1)
def f56 (r : Bool) : AV × Sig := (.one (.bool r), [])
def E56 := (((((E0.p ok171c1).p ok165).p ok168).p ok169).p ok170)
@[reducible] def ss56_0 : List SP := .und :: .one (.ptr 1 0) :: .one (.dat .bool true) :: U16 (U8 (U2 (.und :: .one (.dat (.sl 64 y63) true) :: oI :: oI :: U32 (U16 (.und :: [])))))
@[reducible] def gs56_0 : List (Nat × GP) := [(1, .box 37 [.dat y36 true])]
@[reducible] def V56_0 : Type := Bool × (List (Ty.T y63)) × Int × Int × (Ty.T y36) × Unit
def t56_0 (v : V56_0) {Z : Type} (κ : Nat × V56_0 -> Option Z) : Option Z := cond (decide (v.2.2.2.1 < v.2.2.1)) (if 0 <= v.2.2.2.1 then (optC ((v.2.1)[(v.2.2.2.1).toNat]?) (fun x1 => cond (!(v170 x1)) (κ (1, (false, v.2.1, v.2.2.1, v.2.2.2.1, v.2.2.2.2.1, ()))) (cond (!(v168 v.2.2.2.2.1 x1.2.1)) (κ (1, (false, v.2.1, v.2.2.1, v.2.2.2.1, v.2.2.2.2.1, ()))) (cond (!(v168 v.2.2.2.2.1 x1.2.2.1)) (κ (1, (false, v.2.1, v.2.2.1, v.2.2.2.1, v.2.2.2.2.1, ()))) (cond (decide (x1.2.2.2.2.1 > v.2.2.2.2.1.2.2.2)) (κ (1, (false, v.2.1, v.2.2.1, v.2.2.2.1, v.2.2.2.2.1, ()))) (cond (decide (v.2.2.2.1 > (0 : Int))) (if 0 <= (IntKind.wrap .i64 (v.2.2.2.1 - (1 : Int))) then (optC ((v.2.2.2.2.1.1)[(IntKind.wrap .i64 (v.2.2.2.1 - (1 : Int))).toNat]?) (fun x2 => cond (decide (x2.1 ≥ x1.1)) (κ (1, (false, v.2.1, v.2.2.1, v.2.2.2.1, v.2.2.2.2.1, ()))) (κ (0, (v.1, v.2.1, v.2.2.1, IntKind.wrap .i64 (v.2.2.2.1 + (1 : Int)), v.2.2.2.2.1, ()))))) else none) (κ (0, (v.1, v.2.1, v.2.2.1, IntKind.wrap .i64 (v.2.2.2.1 + (1 : Int)), v.2.2.2.2.1, ()))))))))) else none) (κ (2, (v.1, v.2.1, v.2.2.1, v.2.2.2.1, v.2.2.2.2.1, ())))
def s56_0 (v : V56_0) : Option (Nat × V56_0) := t56_0 v some
def n56_0 (v : V56_0) : Nat := v.2.1.length + v.2.2.1.toNat + v.2.2.2.1.toNat + v.2.2.2.2.1.1.length + v.2.2.2.2.1.2.1.length + 100
def k56_0 (h0 : Bool) (h1 : List (Ty.T y63)) (h2 : Int) (h3 : Int) (h4 : Ty.T y36) (c : Nat) : Bool := iK s56_0 n56_0 (h0, h1, h2, h3, h4, ()) c
def w56_0 (h0 : Bool) (h1 : List (Ty.T y63)) (h2 : Int) (h3 : Int) (h4 : Ty.T y36) : V56_0 := iW s56_0 n56_0 (h0, h1, h2, h3, h4, ())
def F56_0 (v : V56_0) : Ways (Ex × St) := waysOf s56_0 (n56_0 v) v (bldSt ss56_0 gs56_0) [.ret, .exit 0] 0
theorem l56_0 : LoopOk Tryz.prog (loopAt (pb 4 11) (bodyOf Tryz.f56)) ss56_0 gs56_0 F56_0 := loopOk_iter (lt := .none) E56.ok orders (LtOk.no _) fun n v K => Eq.trans (b := t56_0 v (kont _ _ _ _ _ K)) (by kernel_rfl) (show t56_0 v _ = (t56_0 v some).bind _ from (bC (bI (bO fun x1 => (bC rfl (bC rfl (bC rfl (bC rfl (bC (bI (bO fun x2 => (bC rfl rfl))) rfl))))))) rfl))
def E56l := E56.l (g := 56) (t := (ltPut (pb 4 11) (bodyOf Tryz.f56) .none (.sum ss56_0 gs56_0 F56_0))) (ltOk_of Tryz.func56 (LtOk.put (wf_of (by kernel_rfl)) (LtOk.no _) l56_0))
def t56 (a0 : Ty.T y36) {Z : Type} (κ : Bool -> Option Z) : Option Z := cond (decide (((a0.1).length : Int) > (8 : Int))) (κ false) (cond (!(v165 ((a0.2.1).length : Int) 2 3)) (κ false) (cond (!(v168 a0 a0.2.2.1)) (κ false) (cond (!(v169 a0.2.2.2)) (κ false) (cond (k56_0 false a0.1 ((a0.1).length : Int) 0 a0 0) (κ (w56_0 false a0.1 ((a0.1).length : Int) 0 a0).1) (cond (k56_0 false a0.1 ((a0.1).length : Int) 0 a0 1) (cond (d171c1 (w56_0 false a0.1 ((a0.1).length : Int) 0 a0).2.2.2.2.1.2.1) (κ (!(v171c1 (w56_0 false a0.1 ((a0.1).length : Int) 0 a0).2.2.2.2.1.2.1))) (none)) (none))))))
def v56 (a0 : Ty.T y36) : Bool := (t56 a0 some).getD false
def d56 (a0 : Ty.T y36) : Bool := (t56 a0 some).isSome
def p56 : Prim := ⟨[.agg [.dat y36 true]], fun v => .br (d56 v.1) (.done (f56 (v56 v.1))) .no⟩
theorem ok56 : PO 56 p56 := pK E56l fun v => Eq.trans (b := (t56 v.1 (sm f56))) (by kernel_rfl) (run_fin (show t56 v.1 (sm f56) = (t56 v.1 some).bind _ from by unfold t56; simp only [bb]))
def f177 (r : List (Ty.T y27)) : AV × Sig := (.one (.sl 4096), [(4096, .arr 41 y27 r false)])
def v177 (a0 : List (Ty.T y27)) : List (Ty.T y27) := a0
def d177 (a0 : List (Ty.T y27)) : Bool := decide (List.length a0 * 56 <= 140737488351232)
def p177 : Prim := ⟨[.one (.dat (.sl 41 y27) true)], fun v => .br (d177 v.1) (.done (f177 (v177 v.1))) .no⟩
theorem ok177 : PO 177 p177 := cloneOk (t := 55) (tb := 4) (e := 41) hEt Tryz.func177 (by kernel_rfl) (by kernel_rfl) (by kernel_rfl) (by kernel_rfl) rfl rfl (by decide) (by kernel_rfl)
def f226 (r : (Ty.T q1) × (Ty.T y104) × (List (Ty.T y27))) : AV × Sig := (.agg ((q1.cells false r.1) ++ [.sl 81920] ++ (y104.cells false r.2.1)), [(81920, .arr 41 y27 r.2.2 false)])
def E226 := (E0.p ok177)
def t226 (a0 : Ty.T y108) {Z : Type} (κ : (Ty.T q1) × (Ty.T y104) × (List (Ty.T y27)) -> Option Z) : Option Z := cond (d177 a0.2.2.2.2.2.2.1.2.2.2.2.2.2) (κ ((a0.1, a0.2.1, a0.2.2.1, a0.2.2.2.1, a0.2.2.2.2.1, a0.2.2.2.2.2.1, a0.2.2.2.2.2.2.1.1, a0.2.2.2.2.2.2.1.2.1, a0.2.2.2.2.2.2.1.2.2.1, a0.2.2.2.2.2.2.1.2.2.2.1, a0.2.2.2.2.2.2.1.2.2.2.2.1, a0.2.2.2.2.2.2.1.2.2.2.2.2.1), a0.2.2.2.2.2.2.2, (v177 a0.2.2.2.2.2.2.1.2.2.2.2.2.2))) (none)
def v226 (a0 : Ty.T y108) : (Ty.T q1) × (Ty.T y104) × (List (Ty.T y27)) := (t226 a0 some).getD ((Ty.zero q1), (Ty.zero y104), [])
def d226 (a0 : Ty.T y108) : Bool := (t226 a0 some).isSome
def p226 : Prim := ⟨[.agg [.dat y108 true]], fun v => .br (d226 v.1) (.done (f226 (v226 v.1))) .no⟩
theorem ok226 : PO 226 p226 := pK E226 fun v => Eq.trans (b := (t226 v.1 (sm f226))) (by kernel_rfl) (run_fin (show t226 v.1 (sm f226) = (t226 v.1 some).bind _ from (bC rfl rfl)))
end
end Go.Proofs.YtahlaccdpmddbaaGreat.Vm
