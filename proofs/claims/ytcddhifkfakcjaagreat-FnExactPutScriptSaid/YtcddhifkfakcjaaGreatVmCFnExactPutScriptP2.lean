/- Contracts. No condition. -/
import Derived.Test.YtcddhifkfakcjaaGreatVmCFnExactPutScriptP1
import Derived.Test.YtcddhifkfakcjaaGreatVmLibThree
namespace Go.Proofs.YtcddhifkfakcjaaGreat.Vm
open Go Go.Proofs.YtcddhifkfakcjaaGreat.Lib
noncomputable section
set_option maxRecDepth 100000
set_option linter.unusedVariables false
def f177 (r : Bool) : AV × Sig := (.one (.bool r), [])
def E177 := E0
@[reducible] def ss177_0 : List SP := .one (.dat (.sl 56 y48) true) :: .one (.dat (.sl 56 y48) true) :: U2 (.one (.dat .bool true) :: U4 (U2 (.und :: oI :: oI :: U8 (U4 ([])))))
@[reducible] def V177_0 : Type := (List (Ty.T y48)) × (List (Ty.T y48)) × Bool × Int × Int × Unit
def t177_0 (v : V177_0) {Z : Type} (κ : Nat × V177_0 -> Option Z) : Option Z := cond (decide (v.2.2.2.2.1 < v.2.2.2.1)) (if 0 <= v.2.2.2.2.1 then (optC ((v.1)[(v.2.2.2.2.1).toNat]?) (fun x1 => if 0 <= v.2.2.2.2.1 then (optC ((v.2.1)[(v.2.2.2.2.1).toNat]?) (fun x2 => cond (!((x1.1 == x2.1) && ((x1.2.1 == x2.2.1) && ((x1.2.2.1 == x2.2.2.1) && ((x1.2.2.2.1 == x2.2.2.2.1) && ((x1.2.2.2.2.1 == x2.2.2.2.2.1) && ((x1.2.2.2.2.2.1 == x2.2.2.2.2.2.1) && ((x1.2.2.2.2.2.2 == x2.2.2.2.2.2.2) && true)))))))) (κ (1, (v.1, v.2.1, false, v.2.2.2.1, v.2.2.2.2.1, ()))) (κ (0, (v.1, v.2.1, v.2.2.1, v.2.2.2.1, IntKind.wrap .i64 (v.2.2.2.2.1 + (1 : Int)), ()))))) else none)) else none) (κ (2, (v.1, v.2.1, v.2.2.1, v.2.2.2.1, v.2.2.2.2.1, ())))
def s177_0 (v : V177_0) : Option (Nat × V177_0) := t177_0 v some
def n177_0 (v : V177_0) : Nat := v.1.length + v.2.1.length + v.2.2.2.1.toNat + v.2.2.2.2.1.toNat + 100
def k177_0 (h0 : List (Ty.T y48)) (h1 : List (Ty.T y48)) (h2 : Bool) (h3 : Int) (h4 : Int) (c : Nat) : Bool := iK s177_0 n177_0 (h0, h1, h2, h3, h4, ()) c
def w177_0 (h0 : List (Ty.T y48)) (h1 : List (Ty.T y48)) (h2 : Bool) (h3 : Int) (h4 : Int) : V177_0 := iW s177_0 n177_0 (h0, h1, h2, h3, h4, ())
def F177_0 (v : V177_0) : Ways (Ex × St) := waysOf s177_0 (n177_0 v) v (bldSt ss177_0 gs18_0) [.ret, .exit 0] 0
theorem l177_0 : LoopOk Tryz.prog (loopAt (pb 4 11) (bodyOf Tryz.f177)) ss177_0 gs18_0 F177_0 := loopOk_iter (lt := .none) E177.ok orders (LtOk.no _) fun n v K => Eq.trans (b := t177_0 v (kont _ _ _ _ _ K)) (by kernel_rfl) (show t177_0 v _ = (t177_0 v some).bind _ from (bC (bI (bO fun x1 => (bI (bO fun x2 => (bC rfl rfl))))) rfl))
def E177l := E177.l (g := 177) (t := (ltPut (pb 4 11) (bodyOf Tryz.f177) .none (.sum ss177_0 gs18_0 F177_0))) (ltOk_of Tryz.func177 (LtOk.put (wf_of (by kernel_rfl)) (LtOk.no _) l177_0))
def u177 (a0 : List (Ty.T y48)) (a1 : List (Ty.T y48)) : Option (AV × Sig) := cond (((a0).length : Int) != ((a1).length : Int)) (some (.one (.bool false), [])) (cond (k177_0 a0 a1 false ((a0).length : Int) 0 0) (some (.one (.bool (w177_0 a0 a1 false ((a0).length : Int) 0).2.2.1), [])) (cond (k177_0 a0 a1 false ((a0).length : Int) 0 1) (some (.one (.bool true), [])) (none)))
def v177 (a0 : List (Ty.T y48)) (a1 : List (Ty.T y48)) : Bool := cond (((a0).length : Int) != ((a1).length : Int)) (false) (cond (k177_0 a0 a1 false ((a0).length : Int) 0 0) ((w177_0 a0 a1 false ((a0).length : Int) 0).2.2.1) (cond (k177_0 a0 a1 false ((a0).length : Int) 0 1) (true) (false)))
def d177 (a0 : List (Ty.T y48)) (a1 : List (Ty.T y48)) : Bool := cond (((a0).length : Int) != ((a1).length : Int)) (true) (cond (k177_0 a0 a1 false ((a0).length : Int) 0 0) (true) (cond (k177_0 a0 a1 false ((a0).length : Int) 0 1) (true) (false)))
theorem o177 (a0 : List (Ty.T y48)) (a1 : List (Ty.T y48)) : u177 a0 a1 = cond (d177 a0 a1) (some (f177 (v177 a0 a1))) none := (pC (pS _) (pC (pS _) (pC (pS _) (pN _))))
def p177 : Prim := ⟨[.one (.dat (.sl 56 y48) true), .one (.dat (.sl 56 y48) true)], fun v => .br (d177 v.1 v.2.1) (.done (f177 (v177 v.1 v.2.1))) .no⟩
theorem ok177 : PO 177 p177 := pK E177l fun v => Eq.trans (b := u177 v.1 v.2.1) (by kernel_rfl) (o177 v.1 v.2.1)
def f246 (r : Bool) : AV × Sig := (.one (.bool r), [])
def E246 := (E0.p ok177)
def u246 (a0 : Ty.T y100) (a1 : Ty.T y100) : Option (AV × Sig) := cond (a0.1 == a1.1) (cond (a0.2.1 == a1.2.1) (cond (a0.2.2.1 == a1.2.2.1) (cond (a0.2.2.2.1 == a1.2.2.2.1) (cond (a0.2.2.2.2.1 == a1.2.2.2.2.1) (cond (a0.2.2.2.2.2.1 == a1.2.2.2.2.2.1) (cond (d177 a0.2.2.2.2.2.2 a1.2.2.2.2.2.2) (some (.one (.bool (v177 a0.2.2.2.2.2.2 a1.2.2.2.2.2.2)), [])) (none)) (some (.one (.bool false), []))) (some (.one (.bool false), []))) (some (.one (.bool false), []))) (some (.one (.bool false), []))) (some (.one (.bool false), []))) (some (.one (.bool false), []))
def v246 (a0 : Ty.T y100) (a1 : Ty.T y100) : Bool := cond (a0.1 == a1.1) (cond (a0.2.1 == a1.2.1) (cond (a0.2.2.1 == a1.2.2.1) (cond (a0.2.2.2.1 == a1.2.2.2.1) (cond (a0.2.2.2.2.1 == a1.2.2.2.2.1) (cond (a0.2.2.2.2.2.1 == a1.2.2.2.2.2.1) (cond (d177 a0.2.2.2.2.2.2 a1.2.2.2.2.2.2) ((v177 a0.2.2.2.2.2.2 a1.2.2.2.2.2.2)) (false)) (false)) (false)) (false)) (false)) (false)) (false)
def d246 (a0 : Ty.T y100) (a1 : Ty.T y100) : Bool := cond (a0.1 == a1.1) (cond (a0.2.1 == a1.2.1) (cond (a0.2.2.1 == a1.2.2.1) (cond (a0.2.2.2.1 == a1.2.2.2.1) (cond (a0.2.2.2.2.1 == a1.2.2.2.2.1) (cond (a0.2.2.2.2.2.1 == a1.2.2.2.2.2.1) (cond (d177 a0.2.2.2.2.2.2 a1.2.2.2.2.2.2) (true) (false)) (true)) (true)) (true)) (true)) (true)) (true)
theorem o246 (a0 : Ty.T y100) (a1 : Ty.T y100) : u246 a0 a1 = cond (d246 a0 a1) (some (f246 (v246 a0 a1))) none := (pC (pC (pC (pC (pC (pC (pC (pS _) (pN _)) (pS _)) (pS _)) (pS _)) (pS _)) (pS _)) (pS _))
def p246 : Prim := ⟨[.agg [.dat y100 true], .agg [.dat y100 true]], fun v => .br (d246 v.1 v.2.1) (.done (f246 (v246 v.1 v.2.1))) .no⟩
theorem ok246 : PO 246 p246 := pK E246 fun v => Eq.trans (b := u246 v.1 v.2.1) (by kernel_rfl) (o246 v.1 v.2.1)
def f204 (r : Bool) : AV × Sig := (.one (.bool r), [])
def E204 := (E0.p ok246)
def t204 (a0 : Ty.T y102) (a1 : Ty.T y102) {Z : Type} (κ : Bool -> Option Z) : Option Z := cond (a0.1 == a1.1) (cond (a0.2.1 == a1.2.1) (cond (a0.2.2.1 == a1.2.2.1) (cond (a0.2.2.2.1 == a1.2.2.2.1) (cond ((a0.2.2.2.2.1.1 == a1.2.2.2.2.1.1) && ((a0.2.2.2.2.1.2.1 == a1.2.2.2.2.1.2.1) && ((a0.2.2.2.2.1.2.2.1 == a1.2.2.2.2.1.2.2.1) && ((a0.2.2.2.2.1.2.2.2.1 == a1.2.2.2.2.1.2.2.2.1) && ((a0.2.2.2.2.1.2.2.2.2.1 == a1.2.2.2.2.1.2.2.2.2.1) && ((a0.2.2.2.2.1.2.2.2.2.2.1 == a1.2.2.2.2.1.2.2.2.2.2.1) && ((a0.2.2.2.2.1.2.2.2.2.2.2 == a1.2.2.2.2.1.2.2.2.2.2.2) && true))))))) (cond ((a0.2.2.2.2.2.1.1 == a1.2.2.2.2.2.1.1) && ((a0.2.2.2.2.2.1.2 == a1.2.2.2.2.2.1.2) && true)) (cond (d246 a0.2.2.2.2.2.2.1 a1.2.2.2.2.2.2.1) (cond (v246 a0.2.2.2.2.2.2.1 a1.2.2.2.2.2.2.1) (cond (a0.2.2.2.2.2.2.2.1 == a1.2.2.2.2.2.2.2.1) (κ (a0.2.2.2.2.2.2.2.2 == a1.2.2.2.2.2.2.2.2)) (κ false)) (κ false)) (none)) (κ false)) (κ false)) (κ false)) (κ false)) (κ false)) (κ false)
def v204 (a0 : Ty.T y102) (a1 : Ty.T y102) : Bool := (t204 a0 a1 some).getD false
def d204 (a0 : Ty.T y102) (a1 : Ty.T y102) : Bool := (t204 a0 a1 some).isSome
def p204 : Prim := ⟨[.agg [.dat y102 true], .agg [.dat y102 true]], fun v => .br (d204 v.1 v.2.1) (.done (f204 (v204 v.1 v.2.1))) .no⟩
theorem ok204 : PO 204 p204 := pK E204 fun v => Eq.trans (b := (t204 v.1 v.2.1 (sm f204))) (by kernel_rfl) (run_fin (show t204 v.1 v.2.1 (sm f204) = (t204 v.1 v.2.1 some).bind _ from by unfold t204; simp only [bb]))
def f248 (r : Bool) : AV × Sig := (.one (.bool r), [])
def E248 := (E0.p ok96)
def u248 (a0 : Ty.T y48) : Option (AV × Sig) := some (.one (.bool (!(v96 a0))), [])
def v248 (a0 : Ty.T y48) : Bool := !(v96 a0)
theorem o248 (a0 : Ty.T y48) : u248 a0 = some (f248 (v248 a0)) := rfl
def p248 : Prim := ⟨[.agg [.dat y48 true]], fun v => .done (f248 (v248 v.1))⟩
theorem ok248 : PO 248 p248 := pK E248 fun v => Eq.trans (b := u248 v.1) (by kernel_rfl) (o248 v.1)
def f271c2 (r : Int) : AV × Sig := (.one (.int .i64 r), [])
def E271c2 := (E0.p ok248)
@[reducible] def ss271c2_0 : List SP := .one (.dat (.sl 56 y48) true) :: .one (.fnc 248 []) :: U2 (oI :: U2 (oI :: oI :: U8 (U2 ([]))))
def t271c2_0 (v : V271c1_0) {Z : Type} (κ : Nat × V271c1_0 -> Option Z) : Option Z := cond (decide (v.2.2.2.1 < v.2.2.1)) (if 0 <= v.2.2.2.1 then (optC ((v.1)[(v.2.2.2.1).toNat]?) (fun x1 => cond (v248 x1) (κ (1, (v.1, v.2.2.2.1, v.2.2.1, v.2.2.2.1, ()))) (κ (0, (v.1, v.2.1, v.2.2.1, IntKind.wrap .i64 (v.2.2.2.1 + (1 : Int)), ()))))) else none) (κ (2, (v.1, v.2.1, v.2.2.1, v.2.2.2.1, ())))
def s271c2_0 (v : V271c1_0) : Option (Nat × V271c1_0) := t271c2_0 v some
def n271c2_0 (v : V271c1_0) : Nat := v.1.length + v.2.1.toNat + v.2.2.1.toNat + v.2.2.2.1.toNat + 100
def k271c2_0 (h0 : List (Ty.T y48)) (h1 : Int) (h2 : Int) (h3 : Int) (c : Nat) : Bool := iK s271c2_0 n271c2_0 (h0, h1, h2, h3, ()) c
def w271c2_0 (h0 : List (Ty.T y48)) (h1 : Int) (h2 : Int) (h3 : Int) : V271c1_0 := iW s271c2_0 n271c2_0 (h0, h1, h2, h3, ())
def F271c2_0 (v : V271c1_0) : Ways (Ex × St) := waysOf s271c2_0 (n271c2_0 v) v (bldSt ss271c2_0 gs18_0) [.ret, .exit 0] 0
theorem l271c2_0 : LoopOk Tryz.prog (loopAt (pb 3 5) (bodyOf Tryz.f271)) ss271c2_0 gs18_0 F271c2_0 := loopOk_iter (lt := .none) E271c2.ok orders (LtOk.no _) fun n v K => Eq.trans (b := t271c2_0 v (kont _ _ _ _ _ K)) (by kernel_rfl) (show t271c2_0 v _ = (t271c2_0 v some).bind _ from (bC (bI (bO fun x1 => (bC rfl rfl))) rfl))
def E271c2l := E271c2.l (g := 271) (t := (ltPut (pb 3 5) (bodyOf Tryz.f271) .none (.sum ss271c2_0 gs18_0 F271c2_0))) (ltOk_of Tryz.func271 (LtOk.put (wf_of (by kernel_rfl)) (LtOk.no _) l271c2_0))
def u271c2 (a0 : List (Ty.T y48)) : Option (AV × Sig) := cond (k271c2_0 a0 0 ((a0).length : Int) 0 0) (some (.one (.int .i64 (w271c2_0 a0 0 ((a0).length : Int) 0).2.1), [])) (cond (k271c2_0 a0 0 ((a0).length : Int) 0 1) (some (.one (.int .i64 (-1)), [])) (none))
def v271c2 (a0 : List (Ty.T y48)) : Int := cond (k271c2_0 a0 0 ((a0).length : Int) 0 0) ((w271c2_0 a0 0 ((a0).length : Int) 0).2.1) (cond (k271c2_0 a0 0 ((a0).length : Int) 0 1) ((-1)) (0))
def d271c2 (a0 : List (Ty.T y48)) : Bool := cond (k271c2_0 a0 0 ((a0).length : Int) 0 0) (true) (cond (k271c2_0 a0 0 ((a0).length : Int) 0 1) (true) (false))
theorem o271c2 (a0 : List (Ty.T y48)) : u271c2 a0 = cond (d271c2 a0) (some (f271c2 (v271c2 a0))) none := (pC (pS _) (pC (pS _) (pN _)))
def p271c2 : Prim := ⟨[.one (.dat (.sl 56 y48) true), .one (.fnc 248 [])], fun v => .br (d271c2 v.1) (.done (f271c2 (v271c2 v.1))) .no⟩
theorem ok271c2 : PO 271 p271c2 := pK E271c2l fun v => Eq.trans (b := u271c2 v.1) (by kernel_rfl) (o271c2 v.1)
def f247c2 (r : Bool) : AV × Sig := (.one (.bool r), [])
def E247c2 := (E0.p ok271c2)
def u247c2 (a0 : List (Ty.T y48)) : Option (AV × Sig) := cond (d271c2 a0) (some (.one (.bool (decide ((v271c2 a0) ≥ (0 : Int)))), [])) (none)
def v247c2 (a0 : List (Ty.T y48)) : Bool := cond (d271c2 a0) (decide ((v271c2 a0) ≥ (0 : Int))) (false)
def d247c2 (a0 : List (Ty.T y48)) : Bool := cond (d271c2 a0) (true) (false)
theorem o247c2 (a0 : List (Ty.T y48)) : u247c2 a0 = cond (d247c2 a0) (some (f247c2 (v247c2 a0))) none := (pC (pS _) (pN _))
def p247c2 : Prim := ⟨[.one (.dat (.sl 56 y48) true), .one (.fnc 248 [])], fun v => .br (d247c2 v.1) (.done (f247c2 (v247c2 v.1))) .no⟩
theorem ok247c2 : PO 247 p247c2 := pK E247c2 fun v => Eq.trans (b := u247c2 v.1) (by kernel_rfl) (o247c2 v.1)
def f205 (r : Bool) : AV × Sig := (.one (.bool r), [])
def E205 := (E0.p ok247c2)
def u205 (a0 : List (Ty.T y48)) : Option (AV × Sig) := cond (decide (((a0).length : Int) <= (4 : Int))) (cond (d247c2 a0) (some (.one (.bool (!(v247c2 a0))), [])) (none)) (some (.one (.bool false), []))
def v205 (a0 : List (Ty.T y48)) : Bool := cond (decide (((a0).length : Int) <= (4 : Int))) (cond (d247c2 a0) (!(v247c2 a0)) (false)) (false)
def d205 (a0 : List (Ty.T y48)) : Bool := cond (decide (((a0).length : Int) <= (4 : Int))) (cond (d247c2 a0) (true) (false)) (true)
theorem o205 (a0 : List (Ty.T y48)) : u205 a0 = cond (d205 a0) (some (f205 (v205 a0))) none := (pC (pC (pS _) (pN _)) (pS _))
def p205 : Prim := ⟨[.one (.dat (.sl 56 y48) true)], fun v => .br (d205 v.1) (.done (f205 (v205 v.1))) .no⟩
theorem ok205 : PO 205 p205 := pK E205 fun v => Eq.trans (b := u205 v.1) (by kernel_rfl) (o205 v.1)
def f136 (r : Bool) : AV × Sig := (.one (.bool r), [])
def E136 := ((((E0.p ok172).p ok176).p ok204).p ok205)
def t136 (a0 : Ty.T y105) {Z : Type} (κ : Bool -> Option Z) : Option Z := cond (d204 a0.2.1 (0, 0, 0, 0, (0, 0, 0, 0, 0, 0, 0), (0, 0), (0, 0, 0, 0, 0, false, []), 0, 0)) (cond (a0.1 == (1 : Int)) (cond (d176 a0.2.1) (cond (v176 a0.2.1) (cond (a0.2.2.1 == (0 : Int)) (κ (((a0.2.2.2).length : Int) == (0 : Int))) (κ false)) (κ false)) (none)) (cond (a0.1 == (2 : Int)) (cond (v172 a0.2.2.1) (cond (v204 a0.2.1 (0, 0, 0, 0, (0, 0, 0, 0, 0, 0, 0), (0, 0), (0, 0, 0, 0, 0, false, []), 0, 0)) (κ (((a0.2.2.2).length : Int) == (0 : Int))) (κ false)) (κ false)) (cond (a0.1 == (3 : Int)) (cond (d205 a0.2.2.2) (cond (v205 a0.2.2.2) (cond (v204 a0.2.1 (0, 0, 0, 0, (0, 0, 0, 0, 0, 0, 0), (0, 0), (0, 0, 0, 0, 0, false, []), 0, 0)) (κ (a0.2.2.1 == (0 : Int))) (κ false)) (κ false)) (none)) (cond (a0.1 == (4 : Int)) (cond (v204 a0.2.1 (0, 0, 0, 0, (0, 0, 0, 0, 0, 0, 0), (0, 0), (0, 0, 0, 0, 0, false, []), 0, 0)) (cond (a0.2.2.1 == (0 : Int)) (κ (((a0.2.2.2).length : Int) == (0 : Int))) (κ false)) (κ false)) (κ false))))) (none)
def v136 (a0 : Ty.T y105) : Bool := (t136 a0 some).getD false
def d136 (a0 : Ty.T y105) : Bool := (t136 a0 some).isSome
def p136 : Prim := ⟨[.agg [.dat y105 true]], fun v => .br (d136 v.1) (.done (f136 (v136 v.1))) .no⟩
theorem ok136 : PO 136 p136 := pK E136 fun v => Eq.trans (b := (t136 v.1 (sm f136))) (by kernel_rfl) (run_fin (show t136 v.1 (sm f136) = (t136 v.1 some).bind _ from by unfold t136; simp only [bb]))
def f135 (r : Bool) : AV × Sig := (.one (.bool r), [])
def E135 := (E0.p ok136)
def u135 (a0 : Ty.T y105) : Option (AV × Sig) := cond (d136 a0) (some (.one (.bool (!(v136 a0))), [])) (none)
def v135 (a0 : Ty.T y105) : Bool := cond (d136 a0) (!(v136 a0)) (false)
def d135 (a0 : Ty.T y105) : Bool := cond (d136 a0) (true) (false)
theorem o135 (a0 : Ty.T y105) : u135 a0 = cond (d135 a0) (some (f135 (v135 a0))) none := (pC (pS _) (pN _))
def p135 : Prim := ⟨[.agg [.dat y105 true]], fun v => .br (d135 v.1) (.done (f135 (v135 v.1))) .no⟩
theorem ok135 : PO 135 p135 := pK E135 fun v => Eq.trans (b := u135 v.1) (by kernel_rfl) (o135 v.1)
def f203c1 (r : Int) : AV × Sig := (.one (.int .i64 r), [])
def E203c1 := (E0.p ok135)
@[reducible] def ss203c1_0 : List SP := .one (.dat (.sl 106 y105) true) :: .one (.fnc 135 []) :: U2 (oI :: U2 (oI :: oI :: U8 (U2 ([]))))
@[reducible] def V203c1_0 : Type := (List (Ty.T y105)) × Int × Int × Int × Unit
def t203c1_0 (v : V203c1_0) {Z : Type} (κ : Nat × V203c1_0 -> Option Z) : Option Z := cond (decide (v.2.2.2.1 < v.2.2.1)) (if 0 <= v.2.2.2.1 then (optC ((v.1)[(v.2.2.2.1).toNat]?) (fun x1 => cond (d135 x1) (cond (v135 x1) (κ (1, (v.1, v.2.2.2.1, v.2.2.1, v.2.2.2.1, ()))) (κ (0, (v.1, v.2.1, v.2.2.1, IntKind.wrap .i64 (v.2.2.2.1 + (1 : Int)), ())))) (none))) else none) (κ (2, (v.1, v.2.1, v.2.2.1, v.2.2.2.1, ())))
def s203c1_0 (v : V203c1_0) : Option (Nat × V203c1_0) := t203c1_0 v some
def n203c1_0 (v : V203c1_0) : Nat := v.1.length + v.2.1.toNat + v.2.2.1.toNat + v.2.2.2.1.toNat + 100
def k203c1_0 (h0 : List (Ty.T y105)) (h1 : Int) (h2 : Int) (h3 : Int) (c : Nat) : Bool := iK s203c1_0 n203c1_0 (h0, h1, h2, h3, ()) c
def w203c1_0 (h0 : List (Ty.T y105)) (h1 : Int) (h2 : Int) (h3 : Int) : V203c1_0 := iW s203c1_0 n203c1_0 (h0, h1, h2, h3, ())
def F203c1_0 (v : V203c1_0) : Ways (Ex × St) := waysOf s203c1_0 (n203c1_0 v) v (bldSt ss203c1_0 gs18_0) [.ret, .exit 0] 0
theorem l203c1_0 : LoopOk Tryz.prog (loopAt (pb 3 5) (bodyOf Tryz.f203)) ss203c1_0 gs18_0 F203c1_0 := loopOk_iter (lt := .none) E203c1.ok orders (LtOk.no _) fun n v K => Eq.trans (b := t203c1_0 v (kont _ _ _ _ _ K)) (by kernel_rfl) (show t203c1_0 v _ = (t203c1_0 v some).bind _ from (bC (bI (bO fun x1 => (bC (bC rfl rfl) rfl))) rfl))
def E203c1l := E203c1.l (g := 203) (t := (ltPut (pb 3 5) (bodyOf Tryz.f203) .none (.sum ss203c1_0 gs18_0 F203c1_0))) (ltOk_of Tryz.func203 (LtOk.put (wf_of (by kernel_rfl)) (LtOk.no _) l203c1_0))
def u203c1 (a0 : List (Ty.T y105)) : Option (AV × Sig) := cond (k203c1_0 a0 0 ((a0).length : Int) 0 0) (some (.one (.int .i64 (w203c1_0 a0 0 ((a0).length : Int) 0).2.1), [])) (cond (k203c1_0 a0 0 ((a0).length : Int) 0 1) (some (.one (.int .i64 (-1)), [])) (none))
def v203c1 (a0 : List (Ty.T y105)) : Int := cond (k203c1_0 a0 0 ((a0).length : Int) 0 0) ((w203c1_0 a0 0 ((a0).length : Int) 0).2.1) (cond (k203c1_0 a0 0 ((a0).length : Int) 0 1) ((-1)) (0))
def d203c1 (a0 : List (Ty.T y105)) : Bool := cond (k203c1_0 a0 0 ((a0).length : Int) 0 0) (true) (cond (k203c1_0 a0 0 ((a0).length : Int) 0 1) (true) (false))
theorem o203c1 (a0 : List (Ty.T y105)) : u203c1 a0 = cond (d203c1 a0) (some (f203c1 (v203c1 a0))) none := (pC (pS _) (pC (pS _) (pN _)))
def p203c1 : Prim := ⟨[.one (.dat (.sl 106 y105) true), .one (.fnc 135 [])], fun v => .br (d203c1 v.1) (.done (f203c1 (v203c1 v.1))) .no⟩
theorem ok203c1 : PO 203 p203c1 := pK E203c1l fun v => Eq.trans (b := u203c1 v.1) (by kernel_rfl) (o203c1 v.1)
def f134c1 (r : Bool) : AV × Sig := (.one (.bool r), [])
def E134c1 := (E0.p ok203c1)
def u134c1 (a0 : List (Ty.T y105)) : Option (AV × Sig) := cond (d203c1 a0) (some (.one (.bool (decide ((v203c1 a0) ≥ (0 : Int)))), [])) (none)
def v134c1 (a0 : List (Ty.T y105)) : Bool := cond (d203c1 a0) (decide ((v203c1 a0) ≥ (0 : Int))) (false)
def d134c1 (a0 : List (Ty.T y105)) : Bool := cond (d203c1 a0) (true) (false)
theorem o134c1 (a0 : List (Ty.T y105)) : u134c1 a0 = cond (d134c1 a0) (some (f134c1 (v134c1 a0))) none := (pC (pS _) (pN _))
def p134c1 : Prim := ⟨[.one (.dat (.sl 106 y105) true), .one (.fnc 135 [])], fun v => .br (d134c1 v.1) (.done (f134c1 (v134c1 v.1))) .no⟩
theorem ok134c1 : PO 134 p134c1 := pK E134c1 fun v => Eq.trans (b := u134c1 v.1) (by kernel_rfl) (o134c1 v.1)
def f138 (r : Bool) : AV × Sig := (.one (.bool r), [])
def E138 := (E0.p ok139)
def u138 (a0 : Int) : Option (AV × Sig) := some (.one (.bool ((v139 a0) != a0)), [])
def v138 (a0 : Int) : Bool := ((v139 a0) != a0)
theorem o138 (a0 : Int) : u138 a0 = some (f138 (v138 a0)) := rfl
def p138 : Prim := ⟨[oI], fun v => .done (f138 (v138 v.1))⟩
theorem ok138 : PO 138 p138 := pK E138 fun v => Eq.trans (b := u138 v.1) (by kernel_rfl) (o138 v.1)
def f206c1 (r : Int) : AV × Sig := (.one (.int .i64 r), [])
def E206c1 := (E0.p ok138)
@[reducible] def ss206c1_0 : List SP := .one (.dat (.sl 3 (.int .i64)) true) :: .one (.fnc 138 []) :: U2 (oI :: U2 (oI :: oI :: U8 (U2 ([]))))
@[reducible] def V206c1_0 : Type := (List (Ty.T (.int .i64))) × Int × Int × Int × Unit
def t206c1_0 (v : V206c1_0) {Z : Type} (κ : Nat × V206c1_0 -> Option Z) : Option Z := cond (decide (v.2.2.2.1 < v.2.2.1)) (if 0 <= v.2.2.2.1 then (optC ((v.1)[(v.2.2.2.1).toNat]?) (fun x1 => cond (v138 x1) (κ (1, (v.1, v.2.2.2.1, v.2.2.1, v.2.2.2.1, ()))) (κ (0, (v.1, v.2.1, v.2.2.1, IntKind.wrap .i64 (v.2.2.2.1 + (1 : Int)), ()))))) else none) (κ (2, (v.1, v.2.1, v.2.2.1, v.2.2.2.1, ())))
def s206c1_0 (v : V206c1_0) : Option (Nat × V206c1_0) := t206c1_0 v some
def n206c1_0 (v : V206c1_0) : Nat := v.1.length + v.2.1.toNat + v.2.2.1.toNat + v.2.2.2.1.toNat + 100
def k206c1_0 (h0 : List (Ty.T (.int .i64))) (h1 : Int) (h2 : Int) (h3 : Int) (c : Nat) : Bool := iK s206c1_0 n206c1_0 (h0, h1, h2, h3, ()) c
def w206c1_0 (h0 : List (Ty.T (.int .i64))) (h1 : Int) (h2 : Int) (h3 : Int) : V206c1_0 := iW s206c1_0 n206c1_0 (h0, h1, h2, h3, ())
def F206c1_0 (v : V206c1_0) : Ways (Ex × St) := waysOf s206c1_0 (n206c1_0 v) v (bldSt ss206c1_0 gs18_0) [.ret, .exit 0] 0
theorem l206c1_0 : LoopOk Tryz.prog (loopAt (pb 3 5) (bodyOf Tryz.f206)) ss206c1_0 gs18_0 F206c1_0 := loopOk_iter (lt := .none) E206c1.ok orders (LtOk.no _) fun n v K => Eq.trans (b := t206c1_0 v (kont _ _ _ _ _ K)) (by kernel_rfl) (show t206c1_0 v _ = (t206c1_0 v some).bind _ from (bC (bI (bO fun x1 => (bC rfl rfl))) rfl))
def E206c1l := E206c1.l (g := 206) (t := (ltPut (pb 3 5) (bodyOf Tryz.f206) .none (.sum ss206c1_0 gs18_0 F206c1_0))) (ltOk_of Tryz.func206 (LtOk.put (wf_of (by kernel_rfl)) (LtOk.no _) l206c1_0))
def u206c1 (a0 : List (Ty.T (.int .i64))) : Option (AV × Sig) := cond (k206c1_0 a0 0 ((a0).length : Int) 0 0) (some (.one (.int .i64 (w206c1_0 a0 0 ((a0).length : Int) 0).2.1), [])) (cond (k206c1_0 a0 0 ((a0).length : Int) 0 1) (some (.one (.int .i64 (-1)), [])) (none))
def v206c1 (a0 : List (Ty.T (.int .i64))) : Int := cond (k206c1_0 a0 0 ((a0).length : Int) 0 0) ((w206c1_0 a0 0 ((a0).length : Int) 0).2.1) (cond (k206c1_0 a0 0 ((a0).length : Int) 0 1) ((-1)) (0))
def d206c1 (a0 : List (Ty.T (.int .i64))) : Bool := cond (k206c1_0 a0 0 ((a0).length : Int) 0 0) (true) (cond (k206c1_0 a0 0 ((a0).length : Int) 0 1) (true) (false))
theorem o206c1 (a0 : List (Ty.T (.int .i64))) : u206c1 a0 = cond (d206c1 a0) (some (f206c1 (v206c1 a0))) none := (pC (pS _) (pC (pS _) (pN _)))
def p206c1 : Prim := ⟨[.one (.dat (.sl 3 (.int .i64)) true), .one (.fnc 138 [])], fun v => .br (d206c1 v.1) (.done (f206c1 (v206c1 v.1))) .no⟩
theorem ok206c1 : PO 206 p206c1 := pK E206c1l fun v => Eq.trans (b := u206c1 v.1) (by kernel_rfl) (o206c1 v.1)
def f137c1 (r : Bool) : AV × Sig := (.one (.bool r), [])
def E137c1 := (E0.p ok206c1)
def u137c1 (a0 : List (Ty.T (.int .i64))) : Option (AV × Sig) := cond (d206c1 a0) (some (.one (.bool (decide ((v206c1 a0) ≥ (0 : Int)))), [])) (none)
def v137c1 (a0 : List (Ty.T (.int .i64))) : Bool := cond (d206c1 a0) (decide ((v206c1 a0) ≥ (0 : Int))) (false)
def d137c1 (a0 : List (Ty.T (.int .i64))) : Bool := cond (d206c1 a0) (true) (false)
theorem o137c1 (a0 : List (Ty.T (.int .i64))) : u137c1 a0 = cond (d137c1 a0) (some (f137c1 (v137c1 a0))) none := (pC (pS _) (pN _))
def p137c1 : Prim := ⟨[.one (.dat (.sl 3 (.int .i64)) true), .one (.fnc 138 [])], fun v => .br (d137c1 v.1) (.done (f137c1 (v137c1 v.1))) .no⟩
theorem ok137c1 : PO 137 p137c1 := pK E137c1 fun v => Eq.trans (b := u137c1 v.1) (by kernel_rfl) (o137c1 v.1)
def f61 (r : Bool) : AV × Sig := (.one (.bool r), [])
def E61 := ((((E0.p ok134c1).p ok137c1).p ok95).p ok97)
def u61 (a0 : Ty.T y40) : Option (AV × Sig) := cond (d95 a0.1) (cond (v95 a0.1) (cond (d97 a0.2.1) (cond (v97 a0.2.1) (cond (decide (((a0.2.2.1).length : Int) <= (12 : Int))) (cond (d134c1 a0.2.2.1) (cond (!(v134c1 a0.2.2.1)) (cond (decide (((a0.2.2.2).length : Int) <= (60 : Int))) (cond (d137c1 a0.2.2.2) (some (.one (.bool (!(v137c1 a0.2.2.2))), [])) (none)) (some (.one (.bool false), []))) (some (.one (.bool false), []))) (none)) (some (.one (.bool false), []))) (some (.one (.bool false), []))) (none)) (some (.one (.bool false), []))) (none)
def v61 (a0 : Ty.T y40) : Bool := cond (d95 a0.1) (cond (v95 a0.1) (cond (d97 a0.2.1) (cond (v97 a0.2.1) (cond (decide (((a0.2.2.1).length : Int) <= (12 : Int))) (cond (d134c1 a0.2.2.1) (cond (!(v134c1 a0.2.2.1)) (cond (decide (((a0.2.2.2).length : Int) <= (60 : Int))) (cond (d137c1 a0.2.2.2) (!(v137c1 a0.2.2.2)) (false)) (false)) (false)) (false)) (false)) (false)) (false)) (false)) (false)
def d61 (a0 : Ty.T y40) : Bool := cond (d95 a0.1) (cond (v95 a0.1) (cond (d97 a0.2.1) (cond (v97 a0.2.1) (cond (decide (((a0.2.2.1).length : Int) <= (12 : Int))) (cond (d134c1 a0.2.2.1) (cond (!(v134c1 a0.2.2.1)) (cond (decide (((a0.2.2.2).length : Int) <= (60 : Int))) (cond (d137c1 a0.2.2.2) (true) (false)) (true)) (true)) (false)) (true)) (true)) (false)) (true)) (false)
theorem o61 (a0 : Ty.T y40) : u61 a0 = cond (d61 a0) (some (f61 (v61 a0))) none := (pC (pC (pC (pC (pC (pC (pC (pC (pC (pS _) (pN _)) (pS _)) (pS _)) (pN _)) (pS _)) (pS _)) (pN _)) (pS _)) (pN _))
def p61 : Prim := ⟨[.agg [.dat y40 true]], fun v => .br (d61 v.1) (.done (f61 (v61 v.1))) .no⟩
theorem ok61 : PO 61 p61 := pK E61 fun v => Eq.trans (b := u61 v.1) (by kernel_rfl) (o61 v.1)
def f144 (r : List (Ty.T (.int .u8))) : AV × Sig := (.one (.sl 4096), [(4096, .arr 5 (.int .u8) r false)])
def v144 (a0 : List (Ty.T (.int .u8))) : List (Ty.T (.int .u8)) := a0
def d144 (a0 : List (Ty.T (.int .u8))) : Bool := decide (List.length a0 * 1 <= 140737488351232)
def p144 : Prim := ⟨[.one (.dat (.sl 5 (.int .u8)) true)], fun v => .br (d144 v.1) (.done (f144 (v144 v.1))) .no⟩
theorem ok144 : PO 144 p144 := cloneOk (t := 32) (tb := 4) (e := 5) hEt Tryz.func144 (by kernel_rfl) (by kernel_rfl) (by kernel_rfl) (by kernel_rfl) rfl rfl (by decide) (by kernel_rfl)
def f67 (r : (List (Ty.T (.int .u8)))) : AV × Sig := (.one (.sl 4096), [(4096, .arr 5 (.int .u8) r false)])
def E67 := ((E0.p ok139).p ok144)
def t67 (a0 : List (Ty.T (.int .u8))) (a1 : Int) {Z : Type} (κ : (List (Ty.T (.int .u8))) -> Option Z) : Option Z := cond (d144 a0) (if ((v144 a0) ++ [IntKind.wrap .u8 (Int.fdiv (IntKind.wrap .i64 ((v139 a1) + (2147483648 : Int))) (2 ^ 24)), IntKind.wrap .u8 (Int.fdiv (IntKind.wrap .i64 ((v139 a1) + (2147483648 : Int))) (2 ^ 16)), IntKind.wrap .u8 (Int.fdiv (IntKind.wrap .i64 ((v139 a1) + (2147483648 : Int))) (2 ^ 8)), IntKind.wrap .u8 (IntKind.wrap .i64 ((v139 a1) + (2147483648 : Int)))] : List (Ty.T (.int .u8))).length * 1 <= 140737488351232 then (κ ((v144 a0) ++ [IntKind.wrap .u8 (Int.fdiv (IntKind.wrap .i64 ((v139 a1) + (2147483648 : Int))) (2 ^ 24)), IntKind.wrap .u8 (Int.fdiv (IntKind.wrap .i64 ((v139 a1) + (2147483648 : Int))) (2 ^ 16)), IntKind.wrap .u8 (Int.fdiv (IntKind.wrap .i64 ((v139 a1) + (2147483648 : Int))) (2 ^ 8)), IntKind.wrap .u8 (IntKind.wrap .i64 ((v139 a1) + (2147483648 : Int)))])) else none) (none)
def v67 (a0 : List (Ty.T (.int .u8))) (a1 : Int) : (List (Ty.T (.int .u8))) := (t67 a0 a1 some).getD []
def d67 (a0 : List (Ty.T (.int .u8))) (a1 : Int) : Bool := (t67 a0 a1 some).isSome
def p67 : Prim := ⟨[.one (.dat (.sl 5 (.int .u8)) true), oI], fun v => .br (d67 v.1 v.2.1) (.done (f67 (v67 v.1 v.2.1))) .no⟩
theorem ok67 : PO 67 p67 := pK E67 fun v => Eq.trans (b := (t67 v.1 v.2.1 (sm f67))) (by kernel_rfl) (run_fin (show t67 v.1 v.2.1 (sm f67) = (t67 v.1 v.2.1 some).bind _ from (bC (bI rfl) rfl)))
def f141 (r : Int) : AV × Sig := (.one (.int .i64 r), [])
def E141 := E0
def u141 (a0 : Bool) : Option (AV × Sig) := cond a0 (some (.one (.int .i64 1), [])) (some (.one (.int .i64 0), []))
def v141 (a0 : Bool) : Int := cond a0 (1) (0)
theorem o141 (a0 : Bool) : u141 a0 = some (f141 (v141 a0)) := (tC rfl rfl)
def p141 : Prim := ⟨[.one (.dat .bool true)], fun v => .done (f141 (v141 v.1))⟩
theorem ok141 : PO 141 p141 := pK E141 fun v => Eq.trans (b := u141 v.1) (by kernel_rfl) (o141 v.1)
def f140 (r : (List (Ty.T (.int .u8)))) : AV × Sig := (.one (.sl 4096), [(4096, .arr 5 (.int .u8) r false)])
def E140 := ((((E0.p ok141).p ok144).p ok168).p ok67)
@[reducible] def ss140_0 : List SP := U2 (.und :: .one (.ptr 3 0) :: .one (.dat (.sl 5 (.int .u8)) false) :: .one (.own 4105) :: U32 (U8 (U4 (U2 (.und :: [])))))
@[reducible] def gs140_0 : List (Nat × GP) := [(3, .box 180 [.dat y179 false]), (4105, .arr 5 (.int .u8) false)]
@[reducible] def V140_0 : Type := (List (Ty.T (.int .u8))) × (Ty.T y179) × (List (Ty.T (.int .u8))) × Unit
@[reducible] def sx140_0 : List SP := U4 (.one (.dat (.sl 5 (.int .u8)) false) :: .one (.own 4105) :: U32 (U4 (.one (.own 42) :: oI :: oI :: U8 ([]))))
@[reducible] def gx140_0 : List (Nat × GP) := [(42, .arr 3 (.int .i64) false), (4105, .arr 5 (.int .u8) false)]
def f140_0 (v : V140_0) (r : Unit) : Ex × St := (.normal, bldSt sx140_0 gx140_0 (v.1, (([v.2.1.1, v.2.1.2.1, v.2.1.2.2.1, v.2.1.2.2.2.1, v.2.1.2.2.2.2.1, v.2.1.2.2.2.2.2.1, v.2.1.2.2.2.2.2.2.1, v.2.1.2.2.2.2.2.2.2.1, v.2.1.2.2.2.2.2.2.2.2.1, v.2.1.2.2.2.2.2.2.2.2.2.1, v.2.1.2.2.2.2.2.2.2.2.2.2.1, (v141 v.2.1.2.2.2.2.2.2.2.2.2.2.2.1), (v141 v.2.1.2.2.2.2.2.2.2.2.2.2.2.2)]).length : Int), 0, [v.2.1.1, v.2.1.2.1, v.2.1.2.2.1, v.2.1.2.2.2.1, v.2.1.2.2.2.2.1, v.2.1.2.2.2.2.2.1, v.2.1.2.2.2.2.2.2.1, v.2.1.2.2.2.2.2.2.2.1, v.2.1.2.2.2.2.2.2.2.2.1, v.2.1.2.2.2.2.2.2.2.2.2.1, v.2.1.2.2.2.2.2.2.2.2.2.2.1, (v141 v.2.1.2.2.2.2.2.2.2.2.2.2.2.1), (v141 v.2.1.2.2.2.2.2.2.2.2.2.2.2.2)], v.2.2.1, ()))
def t140_0 (v : V140_0) {Z : Type} (κ : Unit -> Z) : Z := κ ()
def c140_0 (v : V140_0) : Unit := t140_0 v id
def F140_0 (v : V140_0) : Ways (Ex × St) := .done (f140_0 v (c140_0 v))
theorem l140_0 : CodeOk Tryz.prog (pieceAt (pb 5 7) (bodyOf Tryz.f140)) ss140_0 gs140_0 F140_0 := codeOk_drawn (by kernel_rfl) (sx := sx140_0) (gx := gx140_0) E140.ok orders (by kernel_rfl) 1 fun v => Eq.trans (b := List.replicate 1 (t140_0 v (sm (f140_0 v)))) (by kernel_rfl) (congrArg (List.replicate 1) (show t140_0 v (sm (f140_0 v)) = some (f140_0 v (t140_0 v id)) from rfl))
@[reducible] def V140_1 : Type := (List (Ty.T (.int .u8))) × Int × Int × (List (Ty.T (.int .i64))) × (List (Ty.T (.int .u8))) × Unit
def t140_1 (v : V140_1) {Z : Type} (κ : Nat × V140_1 -> Option Z) : Option Z := cond (decide (v.2.2.1 < v.2.1)) (if 0 <= v.2.2.1 then (if v.2.2.1 < ((v.2.2.2.1).length : Int) then (optC ((v.2.2.2.1)[(v.2.2.1).toNat]?) (fun x1 => cond (d67 v.2.2.2.2.1 x1) (κ (0, (v.1, v.2.1, IntKind.wrap .i64 (v.2.2.1 + (1 : Int)), v.2.2.2.1, (v67 v.2.2.2.2.1 x1), ()))) (none))) else none) else none) (κ (1, (v.1, v.2.1, v.2.2.1, v.2.2.2.1, v.2.2.2.2.1, ())))
def s140_1 (v : V140_1) : Option (Nat × V140_1) := t140_1 v some
def n140_1 (v : V140_1) : Nat := v.1.length + v.2.1.toNat + v.2.2.1.toNat + v.2.2.2.1.length + v.2.2.2.2.1.length + 100
def k140_1 (h0 : List (Ty.T (.int .u8))) (h1 : Int) (h2 : Int) (h3 : List (Ty.T (.int .i64))) (h4 : List (Ty.T (.int .u8))) (c : Nat) : Bool := iK s140_1 n140_1 (h0, h1, h2, h3, h4, ()) c
def w140_1 (h0 : List (Ty.T (.int .u8))) (h1 : Int) (h2 : Int) (h3 : List (Ty.T (.int .i64))) (h4 : List (Ty.T (.int .u8))) : V140_1 := iW s140_1 n140_1 (h0, h1, h2, h3, h4, ())
def F140_1 (v : V140_1) : Ways (Ex × St) := waysOf s140_1 (n140_1 v) v (bldSt sx140_0 gx140_0) [.exit 0] 0
theorem l140_1 : LoopOk Tryz.prog (loopAt (pb 5 23) (bodyOf Tryz.f140)) sx140_0 gx140_0 F140_1 := loopOk_iter (lt := .none) E140.ok orders (LtOk.no _) fun n v K => Eq.trans (b := t140_1 v (kont _ _ _ _ _ K)) (by kernel_rfl) (show t140_1 v _ = (t140_1 v some).bind _ from (bC (bI (bI (bO fun x1 => (bC rfl rfl)))) rfl))
def E140l := E140.l (g := 140) (t := (ltPutC (pb 5 23) (bodyOf Tryz.f140) (ltPutC (pb 5 7) (bodyOf Tryz.f140) .none (.sum ss140_0 gs140_0 F140_0)) (.sum sx140_0 gx140_0 F140_1))) (ltOk_of Tryz.func140 (LtOk.putL (by kernel_rfl) (wf_of (by kernel_rfl)) (LtOk.putC (wf_of (by kernel_rfl)) (LtOk.no _) l140_0) l140_1))
def t140 (a0 : List (Ty.T (.int .u8))) (a1 : Ty.T y179) {Z : Type} (κ : (List (Ty.T (.int .u8))) -> Option Z) : Option Z := cond (d144 a0) (cond (!(v168 a1)) (κ (v144 a0)) (cond (k140_1 [] (([a1.1, a1.2.1, a1.2.2.1, a1.2.2.2.1, a1.2.2.2.2.1, a1.2.2.2.2.2.1, a1.2.2.2.2.2.2.1, a1.2.2.2.2.2.2.2.1, a1.2.2.2.2.2.2.2.2.1, a1.2.2.2.2.2.2.2.2.2.1, a1.2.2.2.2.2.2.2.2.2.2.1, (v141 a1.2.2.2.2.2.2.2.2.2.2.2.1), (v141 a1.2.2.2.2.2.2.2.2.2.2.2.2)]).length : Int) 0 [a1.1, a1.2.1, a1.2.2.1, a1.2.2.2.1, a1.2.2.2.2.1, a1.2.2.2.2.2.1, a1.2.2.2.2.2.2.1, a1.2.2.2.2.2.2.2.1, a1.2.2.2.2.2.2.2.2.1, a1.2.2.2.2.2.2.2.2.2.1, a1.2.2.2.2.2.2.2.2.2.2.1, (v141 a1.2.2.2.2.2.2.2.2.2.2.2.1), (v141 a1.2.2.2.2.2.2.2.2.2.2.2.2)] (v144 a0) 0) (κ (w140_1 [] (([a1.1, a1.2.1, a1.2.2.1, a1.2.2.2.1, a1.2.2.2.2.1, a1.2.2.2.2.2.1, a1.2.2.2.2.2.2.1, a1.2.2.2.2.2.2.2.1, a1.2.2.2.2.2.2.2.2.1, a1.2.2.2.2.2.2.2.2.2.1, a1.2.2.2.2.2.2.2.2.2.2.1, (v141 a1.2.2.2.2.2.2.2.2.2.2.2.1), (v141 a1.2.2.2.2.2.2.2.2.2.2.2.2)]).length : Int) 0 [a1.1, a1.2.1, a1.2.2.1, a1.2.2.2.1, a1.2.2.2.2.1, a1.2.2.2.2.2.1, a1.2.2.2.2.2.2.1, a1.2.2.2.2.2.2.2.1, a1.2.2.2.2.2.2.2.2.1, a1.2.2.2.2.2.2.2.2.2.1, a1.2.2.2.2.2.2.2.2.2.2.1, (v141 a1.2.2.2.2.2.2.2.2.2.2.2.1), (v141 a1.2.2.2.2.2.2.2.2.2.2.2.2)] (v144 a0)).2.2.2.2.1) (none))) (none)
def v140 (a0 : List (Ty.T (.int .u8))) (a1 : Ty.T y179) : (List (Ty.T (.int .u8))) := (t140 a0 a1 some).getD []
def d140 (a0 : List (Ty.T (.int .u8))) (a1 : Ty.T y179) : Bool := (t140 a0 a1 some).isSome
def p140 : Prim := ⟨[.one (.dat (.sl 5 (.int .u8)) true), .agg [.dat y179 true]], fun v => .br (d140 v.1 v.2.1) (.done (f140 (v140 v.1 v.2.1))) .no⟩
theorem ok140 : PO 140 p140 := pK E140l fun v => Eq.trans (b := (t140 v.1 v.2.1 (sm f140))) (by kernel_rfl) (run_fin (show t140 v.1 v.2.1 (sm f140) = (t140 v.1 v.2.1 some).bind _ from (bC (bC rfl (bC rfl rfl)) rfl)))
def f62 (r : (List (Ty.T (.int .u8)))) : AV × Sig := (.one (.sl 4096), [(4096, .arr 5 (.int .u8) r false)])
def E62 := ((((E0.p ok140).p ok141).p ok67).p ok95)
@[reducible] def ss62_0 : List SP := .und :: .one (.ptr 1 0) :: .one (.dat (.sl 5 (.int .u8)) false) :: .one (.own 4110) :: U8 (U4 (.one (.dat (.sl 180 y179) true) :: oI :: oI :: U32 (U4 (U2 ([])))))
@[reducible] def V62_0 : Type := (List (Ty.T (.int .u8))) × (List (Ty.T y179)) × Int × Int × (Ty.T y36) × (List (Ty.T (.int .u8))) × Unit
def t62_0 (v : V62_0) {Z : Type} (κ : Nat × V62_0 -> Option Z) : Option Z := cond (decide (v.2.2.2.1 < v.2.2.1)) (if 0 <= v.2.2.2.1 then (optC ((v.2.1)[(v.2.2.2.1).toNat]?) (fun x1 => cond (d140 v.2.2.2.2.2.1 x1) (κ (0, (v.1, v.2.1, v.2.2.1, IntKind.wrap .i64 (v.2.2.2.1 + (1 : Int)), v.2.2.2.2.1, (v140 v.2.2.2.2.2.1 x1), ()))) (none))) else none) (κ (1, (v.1, v.2.1, v.2.2.1, v.2.2.2.1, v.2.2.2.2.1, v.2.2.2.2.2.1, ())))
def s62_0 (v : V62_0) : Option (Nat × V62_0) := t62_0 v some
def n62_0 (v : V62_0) : Nat := v.1.length + v.2.1.length + v.2.2.1.toNat + v.2.2.2.1.toNat + v.2.2.2.2.1.1.length + v.2.2.2.2.1.2.1.length + v.2.2.2.2.2.1.length + 100
def k62_0 (h0 : List (Ty.T (.int .u8))) (h1 : List (Ty.T y179)) (h2 : Int) (h3 : Int) (h4 : Ty.T y36) (h5 : List (Ty.T (.int .u8))) (c : Nat) : Bool := iK s62_0 n62_0 (h0, h1, h2, h3, h4, h5, ()) c
def w62_0 (h0 : List (Ty.T (.int .u8))) (h1 : List (Ty.T y179)) (h2 : Int) (h3 : Int) (h4 : Ty.T y36) (h5 : List (Ty.T (.int .u8))) : V62_0 := iW s62_0 n62_0 (h0, h1, h2, h3, h4, h5, ())
def F62_0 (v : V62_0) : Ways (Ex × St) := waysOf s62_0 (n62_0 v) v (bldSt ss62_0 gs52_0) [.exit 0] 0
theorem l62_0 : LoopOk Tryz.prog (loopAt (pb 5 23) (bodyOf Tryz.f62)) ss62_0 gs52_0 F62_0 := loopOk_iter (lt := .none) E62.ok orders (LtOk.no _) fun n v K => Eq.trans (b := t62_0 v (kont _ _ _ _ _ K)) (by kernel_rfl) (show t62_0 v _ = (t62_0 v some).bind _ from (bC (bI (bO fun x1 => (bC rfl rfl))) rfl))
@[reducible] def ss62_1 : List SP := .und :: .one (.ptr 1 0) :: .one (.dat (.sl 5 (.int .u8)) false) :: .one (.own 4126) :: U16 (U8 (U4 (.one (.dat (.sl 182 y181) true) :: oI :: oI :: U16 (U4 (U2 ([]))))))
@[reducible] def gs62_1 : List (Nat × GP) := [(1, .box 37 [.dat y36 true]), (4126, .arr 5 (.int .u8) false)]
@[reducible] def V62_1 : Type := (List (Ty.T (.int .u8))) × (List (Ty.T y181)) × Int × Int × (Ty.T y36) × (List (Ty.T (.int .u8))) × Unit
def t62_1 (v : V62_1) {Z : Type} (κ : Nat × V62_1 -> Option Z) : Option Z := cond (decide (v.2.2.2.1 < v.2.2.1)) (if 0 <= v.2.2.2.1 then (optC ((v.2.1)[(v.2.2.2.1).toNat]?) (fun x2 => cond (d67 v.2.2.2.2.2.1 x2.1) (cond (d67 (v67 v.2.2.2.2.2.1 x2.1) x2.2.1) (cond (d67 (v67 (v67 v.2.2.2.2.2.1 x2.1) x2.2.1) (v141 x2.2.2)) (κ (0, (v.1, v.2.1, v.2.2.1, IntKind.wrap .i64 (v.2.2.2.1 + (1 : Int)), v.2.2.2.2.1, (v67 (v67 (v67 v.2.2.2.2.2.1 x2.1) x2.2.1) (v141 x2.2.2)), ()))) (none)) (none)) (none))) else none) (κ (1, (v.1, v.2.1, v.2.2.1, v.2.2.2.1, v.2.2.2.2.1, v.2.2.2.2.2.1, ())))
def s62_1 (v : V62_1) : Option (Nat × V62_1) := t62_1 v some
def n62_1 (v : V62_1) : Nat := v.1.length + v.2.1.length + v.2.2.1.toNat + v.2.2.2.1.toNat + v.2.2.2.2.1.1.length + v.2.2.2.2.1.2.1.length + v.2.2.2.2.2.1.length + 100
def k62_1 (h0 : List (Ty.T (.int .u8))) (h1 : List (Ty.T y181)) (h2 : Int) (h3 : Int) (h4 : Ty.T y36) (h5 : List (Ty.T (.int .u8))) (c : Nat) : Bool := iK s62_1 n62_1 (h0, h1, h2, h3, h4, h5, ()) c
def w62_1 (h0 : List (Ty.T (.int .u8))) (h1 : List (Ty.T y181)) (h2 : Int) (h3 : Int) (h4 : Ty.T y36) (h5 : List (Ty.T (.int .u8))) : V62_1 := iW s62_1 n62_1 (h0, h1, h2, h3, h4, h5, ())
def F62_1 (v : V62_1) : Ways (Ex × St) := waysOf s62_1 (n62_1 v) v (bldSt ss62_1 gs62_1) [.exit 2] 0
theorem l62_1 : LoopOk Tryz.prog (loopAt (pb 7 95) (bodyOf Tryz.f62)) ss62_1 gs62_1 F62_1 := loopOk_iter (lt := .none) E62.ok orders (LtOk.no _) fun n v K => Eq.trans (b := t62_1 v (kont _ _ _ _ _ K)) (by kernel_rfl) (show t62_1 v _ = (t62_1 v some).bind _ from (bC (bI (bO fun x2 => (bC (bC (bC rfl rfl) rfl) rfl))) rfl))
def E62l := E62.l (g := 62) (t := (ltPut (pb 7 95) (bodyOf Tryz.f62) (ltPut (pb 5 23) (bodyOf Tryz.f62) .none (.sum ss62_0 gs52_0 F62_0)) (.sum ss62_1 gs62_1 F62_1))) (ltOk_of Tryz.func62 (LtOk.put (wf_of (by kernel_rfl)) (LtOk.put (wf_of (by kernel_rfl)) (LtOk.no _) l62_0) l62_1))
def e62_0 (a0 : Ty.T y36) := (w62_0 [] a0.1 ((a0.1).length : Int) 0 a0 (v67 [] ((a0.1).length : Int)))
def e62_1 (a0 : Ty.T y36) := (v67 (e62_0 a0).2.2.2.2.2.1 (((e62_0 a0).2.2.2.2.1.2.1).length : Int))
def e62_2 (a0 : Ty.T y36) := (w62_1 (e62_0 a0).1 (e62_0 a0).2.2.2.2.1.2.1 (((e62_0 a0).2.2.2.2.1.2.1).length : Int) 0 (e62_0 a0).2.2.2.2.1 (e62_1 a0))
def t62 (a0 : Ty.T y36) {Z : Type} (κ : (List (Ty.T (.int .u8))) -> Option Z) : Option Z := cond (d95 a0) (cond (!(v95 a0)) (κ []) (cond (d67 [] ((a0.1).length : Int)) (cond (k62_0 [] a0.1 ((a0.1).length : Int) 0 a0 (v67 [] ((a0.1).length : Int)) 0) (cond (d67 (e62_0 a0).2.2.2.2.2.1 (((e62_0 a0).2.2.2.2.1.2.1).length : Int)) (cond (k62_1 (e62_0 a0).1 (e62_0 a0).2.2.2.2.1.2.1 (((e62_0 a0).2.2.2.2.1.2.1).length : Int) 0 (e62_0 a0).2.2.2.2.1 (e62_1 a0) 0) (cond (d67 (e62_2 a0).2.2.2.2.2.1 (e62_2 a0).2.2.2.2.1.2.2.1) (cond (d67 (v67 (e62_2 a0).2.2.2.2.2.1 (e62_2 a0).2.2.2.2.1.2.2.1) (e62_2 a0).2.2.2.2.1.2.2.2) (κ (v67 (v67 (e62_2 a0).2.2.2.2.2.1 (e62_2 a0).2.2.2.2.1.2.2.1) (e62_2 a0).2.2.2.2.1.2.2.2)) (none)) (none)) (none)) (none)) (none)) (none))) (none)
def v62 (a0 : Ty.T y36) : (List (Ty.T (.int .u8))) := (t62 a0 some).getD []
def d62 (a0 : Ty.T y36) : Bool := (t62 a0 some).isSome
def p62 : Prim := ⟨[.agg [.dat y36 true]], fun v => .br (d62 v.1) (.done (f62 (v62 v.1))) .no⟩
theorem ok62 : PO 62 p62 := pK E62l fun v => Eq.trans (b := (t62 v.1 (sm f62))) (by kernel_rfl) (run_fin (show t62 v.1 (sm f62) = (t62 v.1 some).bind _ from by unfold t62; simp only [bb]))
def f142 (r : (List (Ty.T (.int .i64)))) : AV × Sig := (.one (.sl 4096), [(4096, .arr 3 (.int .i64) r false)])
def E142 := (E0.p ok141)
def u142 (a0 : Ty.T y48) : Option (AV × Sig) := some (.one (.sl 4096), [(4096, .arr 3 (.int .i64) [a0.1, a0.2.1, a0.2.2.1, a0.2.2.2.1, a0.2.2.2.2.1, a0.2.2.2.2.2.1, (v141 a0.2.2.2.2.2.2)] false)])
def v142 (a0 : Ty.T y48) : (List (Ty.T (.int .i64))) := [a0.1, a0.2.1, a0.2.2.1, a0.2.2.2.1, a0.2.2.2.2.1, a0.2.2.2.2.2.1, (v141 a0.2.2.2.2.2.2)]
theorem o142 (a0 : Ty.T y48) : u142 a0 = some (f142 (v142 a0)) := rfl
def p142 : Prim := ⟨[.agg [.dat y48 true]], fun v => .done (f142 (v142 v.1))⟩
theorem ok142 : PO 142 p142 := pK E142 fun v => Eq.trans (b := u142 v.1) (by kernel_rfl) (o142 v.1)
def f63 (r : (List (Ty.T (.int .i64)))) : AV × Sig := (.one (.sl 4096), [(4096, .arr 3 (.int .i64) r false)])
def E63 := ((E0.p ok141).p ok142)
@[reducible] def ss63_0 : List SP := .und :: .one (.ptr 1 0) :: .one (.dat (.sl 3 (.int .i64)) false) :: U2 (.one (.own 56) :: U32 (U16 (U4 (.one (.dat (.sl 56 y48) true) :: oI :: oI :: U8 (U4 (U2 (.und :: [])))))))
@[reducible] def gs63_0 : List (Nat × GP) := [(1, .box 103 [.dat y102 true]), (56, .arr 3 (.int .i64) false)]
@[reducible] def V63_0 : Type := (List (Ty.T (.int .i64))) × (List (Ty.T y48)) × Int × Int × (Ty.T y102) × (List (Ty.T (.int .i64))) × Unit
def t63_0 (v : V63_0) {Z : Type} (κ : Nat × V63_0 -> Option Z) : Option Z := cond (decide (v.2.2.2.1 < v.2.2.1)) (if 0 <= v.2.2.2.1 then (optC ((v.2.1)[(v.2.2.2.1).toNat]?) (fun x1 => if (v.2.2.2.2.2.1 ++ (v142 x1) : List (Ty.T (.int .i64))).length * 8 <= 140737488351232 then (κ (0, (v.1, v.2.1, v.2.2.1, IntKind.wrap .i64 (v.2.2.2.1 + (1 : Int)), v.2.2.2.2.1, v.2.2.2.2.2.1 ++ (v142 x1), ()))) else none)) else none) (κ (1, (v.1, v.2.1, v.2.2.1, v.2.2.2.1, v.2.2.2.2.1, v.2.2.2.2.2.1, ())))
def s63_0 (v : V63_0) : Option (Nat × V63_0) := t63_0 v some
def n63_0 (v : V63_0) : Nat := v.1.length + v.2.1.length + v.2.2.1.toNat + v.2.2.2.1.toNat + v.2.2.2.2.1.2.2.2.2.2.2.1.2.2.2.2.2.2.length + v.2.2.2.2.2.1.length + 100
def k63_0 (h0 : List (Ty.T (.int .i64))) (h1 : List (Ty.T y48)) (h2 : Int) (h3 : Int) (h4 : Ty.T y102) (h5 : List (Ty.T (.int .i64))) (c : Nat) : Bool := iK s63_0 n63_0 (h0, h1, h2, h3, h4, h5, ()) c
def w63_0 (h0 : List (Ty.T (.int .i64))) (h1 : List (Ty.T y48)) (h2 : Int) (h3 : Int) (h4 : Ty.T y102) (h5 : List (Ty.T (.int .i64))) : V63_0 := iW s63_0 n63_0 (h0, h1, h2, h3, h4, h5, ())
def F63_0 (v : V63_0) : Ways (Ex × St) := waysOf s63_0 (n63_0 v) v (bldSt ss63_0 gs63_0) [.exit 0] 0
theorem l63_0 : LoopOk Tryz.prog (loopAt (pb 5 23) (bodyOf Tryz.f63)) ss63_0 gs63_0 F63_0 := loopOk_iter (lt := .none) E63.ok orders (LtOk.no _) fun n v K => Eq.trans (b := t63_0 v (kont _ _ _ _ _ K)) (by kernel_rfl) (show t63_0 v _ = (t63_0 v some).bind _ from (bC (bI (bO fun x1 => (bI rfl))) rfl))
def E63l := E63.l (g := 63) (t := (ltPut (pb 5 23) (bodyOf Tryz.f63) .none (.sum ss63_0 gs63_0 F63_0))) (ltOk_of Tryz.func63 (LtOk.put (wf_of (by kernel_rfl)) (LtOk.no _) l63_0))
def e63_0 (a0 : Ty.T y102) := (w63_0 [] a0.2.2.2.2.2.2.1.2.2.2.2.2.2 ((a0.2.2.2.2.2.2.1.2.2.2.2.2.2).length : Int) 0 a0 [a0.1, a0.2.1, a0.2.2.1, a0.2.2.2.1, a0.2.2.2.2.1.1, a0.2.2.2.2.1.2.1, a0.2.2.2.2.1.2.2.1, a0.2.2.2.2.1.2.2.2.1, a0.2.2.2.2.1.2.2.2.2.1, a0.2.2.2.2.1.2.2.2.2.2.1, a0.2.2.2.2.1.2.2.2.2.2.2, a0.2.2.2.2.2.1.1, a0.2.2.2.2.2.1.2, a0.2.2.2.2.2.2.1.1, a0.2.2.2.2.2.2.1.2.1, a0.2.2.2.2.2.2.1.2.2.1, a0.2.2.2.2.2.2.1.2.2.2.1, a0.2.2.2.2.2.2.1.2.2.2.2.1, (v141 a0.2.2.2.2.2.2.1.2.2.2.2.2.1), ((a0.2.2.2.2.2.2.1.2.2.2.2.2.2).length : Int)])
def t63 (a0 : Ty.T y102) {Z : Type} (κ : (List (Ty.T (.int .i64))) -> Option Z) : Option Z := cond (k63_0 [] a0.2.2.2.2.2.2.1.2.2.2.2.2.2 ((a0.2.2.2.2.2.2.1.2.2.2.2.2.2).length : Int) 0 a0 [a0.1, a0.2.1, a0.2.2.1, a0.2.2.2.1, a0.2.2.2.2.1.1, a0.2.2.2.2.1.2.1, a0.2.2.2.2.1.2.2.1, a0.2.2.2.2.1.2.2.2.1, a0.2.2.2.2.1.2.2.2.2.1, a0.2.2.2.2.1.2.2.2.2.2.1, a0.2.2.2.2.1.2.2.2.2.2.2, a0.2.2.2.2.2.1.1, a0.2.2.2.2.2.1.2, a0.2.2.2.2.2.2.1.1, a0.2.2.2.2.2.2.1.2.1, a0.2.2.2.2.2.2.1.2.2.1, a0.2.2.2.2.2.2.1.2.2.2.1, a0.2.2.2.2.2.2.1.2.2.2.2.1, (v141 a0.2.2.2.2.2.2.1.2.2.2.2.2.1), ((a0.2.2.2.2.2.2.1.2.2.2.2.2.2).length : Int)] 0) (if ((e63_0 a0).2.2.2.2.2.1 ++ [(e63_0 a0).2.2.2.2.1.2.2.2.2.2.2.2.1, (e63_0 a0).2.2.2.2.1.2.2.2.2.2.2.2.2] : List (Ty.T (.int .i64))).length * 8 <= 140737488351232 then (κ ((e63_0 a0).2.2.2.2.2.1 ++ [(e63_0 a0).2.2.2.2.1.2.2.2.2.2.2.2.1, (e63_0 a0).2.2.2.2.1.2.2.2.2.2.2.2.2])) else none) (none)
def v63 (a0 : Ty.T y102) : (List (Ty.T (.int .i64))) := (t63 a0 some).getD []
def d63 (a0 : Ty.T y102) : Bool := (t63 a0 some).isSome
def p63 : Prim := ⟨[.agg [.dat y102 true]], fun v => .br (d63 v.1) (.done (f63 (v63 v.1))) .no⟩
theorem ok63 : PO 63 p63 := pK E63l fun v => Eq.trans (b := (t63 v.1 (sm f63))) (by kernel_rfl) (run_fin (show t63 v.1 (sm f63) = (t63 v.1 some).bind _ from (bC (bI rfl) rfl)))
def f64 (r : (List (Ty.T (.int .i64)))) : AV × Sig := (.one (.sl 4096), [(4096, .arr 3 (.int .i64) r false)])
def E64 := ((E0.p ok142).p ok63)
@[reducible] def ss64_0 : List SP := U2 (.one (.dat (.sl 3 (.int .i64)) false) :: .one (.own 8) :: U16 (U8 (U4 (U2 (.one (.dat (.sl 56 y48) true) :: oI :: oI :: U8 (.und :: []))))))
@[reducible] def gs64_0 : List (Nat × GP) := [(8, .arr 3 (.int .i64) false)]
@[reducible] def V64_0 : Type := (List (Ty.T (.int .i64))) × (List (Ty.T y48)) × Int × Int × (List (Ty.T (.int .i64))) × Unit
def t64_0 (v : V64_0) {Z : Type} (κ : Nat × V64_0 -> Option Z) : Option Z := cond (decide (v.2.2.2.1 < v.2.2.1)) (if 0 <= v.2.2.2.1 then (optC ((v.2.1)[(v.2.2.2.1).toNat]?) (fun x1 => if (v.2.2.2.2.1 ++ (v142 x1) : List (Ty.T (.int .i64))).length * 8 <= 140737488351232 then (κ (0, (v.1, v.2.1, v.2.2.1, IntKind.wrap .i64 (v.2.2.2.1 + (1 : Int)), v.2.2.2.2.1 ++ (v142 x1), ()))) else none)) else none) (κ (1, (v.1, v.2.1, v.2.2.1, v.2.2.2.1, v.2.2.2.2.1, ())))
def s64_0 (v : V64_0) : Option (Nat × V64_0) := t64_0 v some
def n64_0 (v : V64_0) : Nat := v.1.length + v.2.1.length + v.2.2.1.toNat + v.2.2.2.1.toNat + v.2.2.2.2.1.length + 100
def k64_0 (h0 : List (Ty.T (.int .i64))) (h1 : List (Ty.T y48)) (h2 : Int) (h3 : Int) (h4 : List (Ty.T (.int .i64))) (c : Nat) : Bool := iK s64_0 n64_0 (h0, h1, h2, h3, h4, ()) c
def w64_0 (h0 : List (Ty.T (.int .i64))) (h1 : List (Ty.T y48)) (h2 : Int) (h3 : Int) (h4 : List (Ty.T (.int .i64))) : V64_0 := iW s64_0 n64_0 (h0, h1, h2, h3, h4, ())
def F64_0 (v : V64_0) : Ways (Ex × St) := waysOf s64_0 (n64_0 v) v (bldSt ss64_0 gs64_0) [.exit 1] 0
theorem l64_0 : LoopOk Tryz.prog (loopAt (pb 12 3579) (bodyOf Tryz.f64)) ss64_0 gs64_0 F64_0 := loopOk_iter (lt := .none) E64.ok orders (LtOk.no _) fun n v K => Eq.trans (b := t64_0 v (kont _ _ _ _ _ K)) (by kernel_rfl) (show t64_0 v _ = (t64_0 v some).bind _ from (bC (bI (bO fun x1 => (bI rfl))) rfl))
def E64l := E64.l (g := 64) (t := (ltPut (pb 12 3579) (bodyOf Tryz.f64) .none (.sum ss64_0 gs64_0 F64_0))) (ltOk_of Tryz.func64 (LtOk.put (wf_of (by kernel_rfl)) (LtOk.no _) l64_0))
def t64 (a0 : Ty.T y105) {Z : Type} (κ : (List (Ty.T (.int .i64))) -> Option Z) : Option Z := cond (a0.1 == (1 : Int)) (cond (d63 a0.2.1) (if ([a0.1] ++ (v63 a0.2.1) : List (Ty.T (.int .i64))).length * 8 <= 140737488351232 then (κ ([a0.1] ++ (v63 a0.2.1))) else none) (none)) (cond (a0.1 == (2 : Int)) (if ([a0.1] ++ [a0.2.2.1] : List (Ty.T (.int .i64))).length * 8 <= 140737488351232 then (κ ([a0.1] ++ [a0.2.2.1])) else none) (cond (a0.1 == (3 : Int)) (if ([a0.1] ++ [((a0.2.2.2).length : Int)] : List (Ty.T (.int .i64))).length * 8 <= 140737488351232 then (cond (k64_0 [] a0.2.2.2 ((a0.2.2.2).length : Int) 0 ([a0.1] ++ [((a0.2.2.2).length : Int)]) 0) (κ (w64_0 [] a0.2.2.2 ((a0.2.2.2).length : Int) 0 ([a0.1] ++ [((a0.2.2.2).length : Int)])).2.2.2.2.1) (none)) else none) (κ [a0.1])))
def v64 (a0 : Ty.T y105) : (List (Ty.T (.int .i64))) := (t64 a0 some).getD []
def d64 (a0 : Ty.T y105) : Bool := (t64 a0 some).isSome
def p64 : Prim := ⟨[.agg [.dat y105 true]], fun v => .br (d64 v.1) (.done (f64 (v64 v.1))) .no⟩
theorem ok64 : PO 64 p64 := pK E64l fun v => Eq.trans (b := (t64 v.1 (sm f64))) (by kernel_rfl) (run_fin (show t64 v.1 (sm f64) = (t64 v.1 some).bind _ from by unfold t64; simp only [bb]))
def f68 (r : (List (Ty.T (.int .u8)))) : AV × Sig := (.one (.sl 4096), [(4096, .arr 5 (.int .u8) r false)])
def E68 := ((E0.p ok144).p ok67)
@[reducible] def ss68_0 : List SP := U4 (.one (.dat (.sl 5 (.int .u8)) false) :: .one (.own 4105) :: U8 (U4 (U2 (.one (.dat (.sl 3 (.int .i64)) true) :: oI :: oI :: U8 ([])))))
@[reducible] def gs68_0 : List (Nat × GP) := [(4105, .arr 5 (.int .u8) false)]
@[reducible] def V68_0 : Type := (List (Ty.T (.int .u8))) × (List (Ty.T (.int .i64))) × Int × Int × (List (Ty.T (.int .u8))) × Unit
def t68_0 (v : V68_0) {Z : Type} (κ : Nat × V68_0 -> Option Z) : Option Z := cond (decide (v.2.2.2.1 < v.2.2.1)) (if 0 <= v.2.2.2.1 then (optC ((v.2.1)[(v.2.2.2.1).toNat]?) (fun x1 => cond (d67 v.2.2.2.2.1 x1) (κ (0, (v.1, v.2.1, v.2.2.1, IntKind.wrap .i64 (v.2.2.2.1 + (1 : Int)), (v67 v.2.2.2.2.1 x1), ()))) (none))) else none) (κ (1, (v.1, v.2.1, v.2.2.1, v.2.2.2.1, v.2.2.2.2.1, ())))
def s68_0 (v : V68_0) : Option (Nat × V68_0) := t68_0 v some
def n68_0 (v : V68_0) : Nat := v.1.length + v.2.1.length + v.2.2.1.toNat + v.2.2.2.1.toNat + v.2.2.2.2.1.length + 100
def k68_0 (h0 : List (Ty.T (.int .u8))) (h1 : List (Ty.T (.int .i64))) (h2 : Int) (h3 : Int) (h4 : List (Ty.T (.int .u8))) (c : Nat) : Bool := iK s68_0 n68_0 (h0, h1, h2, h3, h4, ()) c
def w68_0 (h0 : List (Ty.T (.int .u8))) (h1 : List (Ty.T (.int .i64))) (h2 : Int) (h3 : Int) (h4 : List (Ty.T (.int .u8))) : V68_0 := iW s68_0 n68_0 (h0, h1, h2, h3, h4, ())
def F68_0 (v : V68_0) : Ways (Ex × St) := waysOf s68_0 (n68_0 v) v (bldSt ss68_0 gs68_0) [.exit 0] 0
theorem l68_0 : LoopOk Tryz.prog (loopAt (pb 6 47) (bodyOf Tryz.f68)) ss68_0 gs68_0 F68_0 := loopOk_iter (lt := .none) E68.ok orders (LtOk.no _) fun n v K => Eq.trans (b := t68_0 v (kont _ _ _ _ _ K)) (by kernel_rfl) (show t68_0 v _ = (t68_0 v some).bind _ from (bC (bI (bO fun x1 => (bC rfl rfl))) rfl))
def E68l := E68.l (g := 68) (t := (ltPut (pb 6 47) (bodyOf Tryz.f68) .none (.sum ss68_0 gs68_0 F68_0))) (ltOk_of Tryz.func68 (LtOk.put (wf_of (by kernel_rfl)) (LtOk.no _) l68_0))
def u68 (a0 : List (Ty.T (.int .u8))) (a1 : List (Ty.T (.int .i64))) : Option (AV × Sig) := cond (d144 a0) (cond (decide (((a1).length : Int) > (255 : Int))) (some (.one (.sl 4096), [(4096, .arr 5 (.int .u8) (v144 a0) false)])) (if ((v144 a0) ++ [IntKind.wrap .u8 ((a1).length : Int)] : List (Ty.T (.int .u8))).length * 1 <= 140737488351232 then (cond (k68_0 [] a1 ((a1).length : Int) 0 ((v144 a0) ++ [IntKind.wrap .u8 ((a1).length : Int)]) 0) (some (.one (.sl 4096), [(4096, .arr 5 (.int .u8) (w68_0 [] a1 ((a1).length : Int) 0 ((v144 a0) ++ [IntKind.wrap .u8 ((a1).length : Int)])).2.2.2.2.1 false)])) (none)) else none)) (none)
def v68 (a0 : List (Ty.T (.int .u8))) (a1 : List (Ty.T (.int .i64))) : (List (Ty.T (.int .u8))) := cond (d144 a0) (cond (decide (((a1).length : Int) > (255 : Int))) ((v144 a0)) (cond (k68_0 [] a1 ((a1).length : Int) 0 ((v144 a0) ++ [IntKind.wrap .u8 ((a1).length : Int)]) 0) ((w68_0 [] a1 ((a1).length : Int) 0 ((v144 a0) ++ [IntKind.wrap .u8 ((a1).length : Int)])).2.2.2.2.1) ([]))) ([])
def d68 (a0 : List (Ty.T (.int .u8))) (a1 : List (Ty.T (.int .i64))) : Bool := cond (d144 a0) (cond (decide (((a1).length : Int) > (255 : Int))) (true) (decide (((v144 a0) ++ [IntKind.wrap .u8 ((a1).length : Int)] : List (Ty.T (.int .u8))).length * 1 <= 140737488351232) && (cond (k68_0 [] a1 ((a1).length : Int) 0 ((v144 a0) ++ [IntKind.wrap .u8 ((a1).length : Int)]) 0) (true) (false)))) (false)
theorem o68 (a0 : List (Ty.T (.int .u8))) (a1 : List (Ty.T (.int .i64))) : u68 a0 a1 = cond (d68 a0 a1) (some (f68 (v68 a0 a1))) none := (pC (pC (pS _) (pI (pC (pS _) (pN _)))) (pN _))
def p68 : Prim := ⟨[.one (.dat (.sl 5 (.int .u8)) true), .one (.dat (.sl 3 (.int .i64)) true)], fun v => .br (d68 v.1 v.2.1) (.done (f68 (v68 v.1 v.2.1))) .no⟩
theorem ok68 : PO 68 p68 := pK E68l fun v => Eq.trans (b := u68 v.1 v.2.1) (by kernel_rfl) (o68 v.1 v.2.1)
def f66 (r : Bool) : AV × Sig := (.one (.bool r), [])
def E66 := E0
def u66 (a0 : List (Ty.T (.int .i64))) : Option (AV × Sig) := some (.one (.bool (decide (((a0).length : Int) > (255 : Int)))), [])
def v66 (a0 : List (Ty.T (.int .i64))) : Bool := decide (((a0).length : Int) > (255 : Int))
theorem o66 (a0 : List (Ty.T (.int .i64))) : u66 a0 = some (f66 (v66 a0)) := rfl
def p66 : Prim := ⟨[.one (.dat (.sl 3 (.int .i64)) true)], fun v => .done (f66 (v66 v.1))⟩
theorem ok66 : PO 66 p66 := pK E66 fun v => Eq.trans (b := u66 v.1) (by kernel_rfl) (o66 v.1)
def f143c1 (r : Int) : AV × Sig := (.one (.int .i64 r), [])
def E143c1 := (E0.p ok66)
@[reducible] def ss143c1_0 : List SP := .one (.dat (.sl 28 (.sl 3 (.int .i64))) true) :: .one (.fnc 66 []) :: U2 (oI :: U2 (oI :: oI :: U8 (U2 ([]))))
@[reducible] def V143c1_0 : Type := (List (Ty.T (.sl 3 (.int .i64)))) × Int × Int × Int × Unit
def t143c1_0 (v : V143c1_0) {Z : Type} (κ : Nat × V143c1_0 -> Option Z) : Option Z := cond (decide (v.2.2.2.1 < v.2.2.1)) (if 0 <= v.2.2.2.1 then (optC ((v.1)[(v.2.2.2.1).toNat]?) (fun x1 => cond (v66 x1) (κ (1, (v.1, v.2.2.2.1, v.2.2.1, v.2.2.2.1, ()))) (κ (0, (v.1, v.2.1, v.2.2.1, IntKind.wrap .i64 (v.2.2.2.1 + (1 : Int)), ()))))) else none) (κ (2, (v.1, v.2.1, v.2.2.1, v.2.2.2.1, ())))
def s143c1_0 (v : V143c1_0) : Option (Nat × V143c1_0) := t143c1_0 v some
def n143c1_0 (v : V143c1_0) : Nat := v.1.length + v.2.1.toNat + v.2.2.1.toNat + v.2.2.2.1.toNat + 100
def k143c1_0 (h0 : List (Ty.T (.sl 3 (.int .i64)))) (h1 : Int) (h2 : Int) (h3 : Int) (c : Nat) : Bool := iK s143c1_0 n143c1_0 (h0, h1, h2, h3, ()) c
def w143c1_0 (h0 : List (Ty.T (.sl 3 (.int .i64)))) (h1 : Int) (h2 : Int) (h3 : Int) : V143c1_0 := iW s143c1_0 n143c1_0 (h0, h1, h2, h3, ())
def F143c1_0 (v : V143c1_0) : Ways (Ex × St) := waysOf s143c1_0 (n143c1_0 v) v (bldSt ss143c1_0 gs18_0) [.ret, .exit 0] 0
theorem l143c1_0 : LoopOk Tryz.prog (loopAt (pb 3 5) (bodyOf Tryz.f143)) ss143c1_0 gs18_0 F143c1_0 := loopOk_iter (lt := .none) E143c1.ok orders (LtOk.no _) fun n v K => Eq.trans (b := t143c1_0 v (kont _ _ _ _ _ K)) (by kernel_rfl) (show t143c1_0 v _ = (t143c1_0 v some).bind _ from (bC (bI (bO fun x1 => (bC rfl rfl))) rfl))
def E143c1l := E143c1.l (g := 143) (t := (ltPut (pb 3 5) (bodyOf Tryz.f143) .none (.sum ss143c1_0 gs18_0 F143c1_0))) (ltOk_of Tryz.func143 (LtOk.put (wf_of (by kernel_rfl)) (LtOk.no _) l143c1_0))
def u143c1 (a0 : List (Ty.T (.sl 3 (.int .i64)))) : Option (AV × Sig) := cond (k143c1_0 a0 0 ((a0).length : Int) 0 0) (some (.one (.int .i64 (w143c1_0 a0 0 ((a0).length : Int) 0).2.1), [])) (cond (k143c1_0 a0 0 ((a0).length : Int) 0 1) (some (.one (.int .i64 (-1)), [])) (none))
def v143c1 (a0 : List (Ty.T (.sl 3 (.int .i64)))) : Int := cond (k143c1_0 a0 0 ((a0).length : Int) 0 0) ((w143c1_0 a0 0 ((a0).length : Int) 0).2.1) (cond (k143c1_0 a0 0 ((a0).length : Int) 0 1) ((-1)) (0))
def d143c1 (a0 : List (Ty.T (.sl 3 (.int .i64)))) : Bool := cond (k143c1_0 a0 0 ((a0).length : Int) 0 0) (true) (cond (k143c1_0 a0 0 ((a0).length : Int) 0 1) (true) (false))
theorem o143c1 (a0 : List (Ty.T (.sl 3 (.int .i64)))) : u143c1 a0 = cond (d143c1 a0) (some (f143c1 (v143c1 a0))) none := (pC (pS _) (pC (pS _) (pN _)))
def p143c1 : Prim := ⟨[.one (.dat (.sl 28 (.sl 3 (.int .i64))) true), .one (.fnc 66 [])], fun v => .br (d143c1 v.1) (.done (f143c1 (v143c1 v.1))) .no⟩
theorem ok143c1 : PO 143 p143c1 := pK E143c1l fun v => Eq.trans (b := u143c1 v.1) (by kernel_rfl) (o143c1 v.1)
def f65c1 (r : Bool) : AV × Sig := (.one (.bool r), [])
def E65c1 := (E0.p ok143c1)
def u65c1 (a0 : List (Ty.T (.sl 3 (.int .i64)))) : Option (AV × Sig) := cond (d143c1 a0) (some (.one (.bool (decide ((v143c1 a0) ≥ (0 : Int)))), [])) (none)
def v65c1 (a0 : List (Ty.T (.sl 3 (.int .i64)))) : Bool := cond (d143c1 a0) (decide ((v143c1 a0) ≥ (0 : Int))) (false)
def d65c1 (a0 : List (Ty.T (.sl 3 (.int .i64)))) : Bool := cond (d143c1 a0) (true) (false)
theorem o65c1 (a0 : List (Ty.T (.sl 3 (.int .i64)))) : u65c1 a0 = cond (d65c1 a0) (some (f65c1 (v65c1 a0))) none := (pC (pS _) (pN _))
def p65c1 : Prim := ⟨[.one (.dat (.sl 28 (.sl 3 (.int .i64))) true), .one (.fnc 66 [])], fun v => .br (d65c1 v.1) (.done (f65c1 (v65c1 v.1))) .no⟩
theorem ok65c1 : PO 65 p65c1 := pK E65c1 fun v => Eq.trans (b := u65c1 v.1) (by kernel_rfl) (o65c1 v.1)
def f11 (r : (List (Ty.T (.int .u8)))) : AV × Sig := (.one (.sl 4096), [(4096, .arr 5 (.int .u8) r false)])
def E11 := (((((((E0.p ok65c1).p ok61).p ok62).p ok63).p ok64).p ok67).p ok68)
@[reducible] def ss11_0 : List SP := .und :: .one (.ptr 1 0) :: .one (.dat (.sl 5 (.int .u8)) false) :: .one (.own 17) :: U16 (.one (.own 4116) :: oI :: oI :: U64 (U8 (U4 (.und :: []))))
@[reducible] def gs11_0 : List (Nat × GP) := [(1, .box 41 [.dat y40 true]), (17, .arr 3 (.int .i64) false), (4116, .arr 5 (.int .u8) false)]
@[reducible] def V11_0 : Type := (List (Ty.T (.int .u8))) × Int × Int × (Ty.T y40) × (List (Ty.T (.int .i64))) × (List (Ty.T (.int .u8))) × Unit
def t11_0 (v : V11_0) {Z : Type} (κ : Nat × V11_0 -> Option Z) : Option Z := cond (decide (v.2.2.1 < v.2.1)) (if 0 <= v.2.2.1 then (if v.2.2.1 < ((v.2.2.2.2.2.1).length : Int) then (optC ((v.2.2.2.2.2.1)[(v.2.2.1).toNat]?) (fun x1 => if (v.2.2.2.2.1 ++ [IntKind.wrap .i64 x1] : List (Ty.T (.int .i64))).length * 8 <= 140737488351232 then (κ (0, (v.1, v.2.1, IntKind.wrap .i64 (v.2.2.1 + (1 : Int)), v.2.2.2.1, v.2.2.2.2.1 ++ [IntKind.wrap .i64 x1], v.2.2.2.2.2.1, ()))) else none)) else none) else none) (κ (1, (v.1, v.2.1, v.2.2.1, v.2.2.2.1, v.2.2.2.2.1, v.2.2.2.2.2.1, ())))
def s11_0 (v : V11_0) : Option (Nat × V11_0) := t11_0 v some
def n11_0 (v : V11_0) : Nat := v.1.length + v.2.1.toNat + v.2.2.1.toNat + v.2.2.2.1.1.1.length + v.2.2.2.1.1.2.1.length + v.2.2.2.1.2.1.length + v.2.2.2.1.2.2.1.length + v.2.2.2.1.2.2.2.length + v.2.2.2.2.1.length + v.2.2.2.2.2.1.length + 100
def k11_0 (h0 : List (Ty.T (.int .u8))) (h1 : Int) (h2 : Int) (h3 : Ty.T y40) (h4 : List (Ty.T (.int .i64))) (h5 : List (Ty.T (.int .u8))) (c : Nat) : Bool := iK s11_0 n11_0 (h0, h1, h2, h3, h4, h5, ()) c
def w11_0 (h0 : List (Ty.T (.int .u8))) (h1 : Int) (h2 : Int) (h3 : Ty.T y40) (h4 : List (Ty.T (.int .i64))) (h5 : List (Ty.T (.int .u8))) : V11_0 := iW s11_0 n11_0 (h0, h1, h2, h3, h4, h5, ())
def F11_0 (v : V11_0) : Ways (Ex × St) := waysOf s11_0 (n11_0 v) v (bldSt ss11_0 gs11_0) [.exit 0] 0
theorem l11_0 : LoopOk Tryz.prog (loopAt (pb 5 23) (bodyOf Tryz.f11)) ss11_0 gs11_0 F11_0 := loopOk_iter (lt := .none) E11.ok orders (LtOk.no _) fun n v K => Eq.trans (b := t11_0 v (kont _ _ _ _ _ K)) (by kernel_rfl) (show t11_0 v _ = (t11_0 v some).bind _ from (bC (bI (bI (bO fun x1 => (bI rfl)))) rfl))
@[reducible] def ss11_1 : List SP := .und :: .one (.ptr 1 0) :: .one (.dat (.sl 5 (.int .u8)) false) :: .one (.dat (.sl 3 (.int .i64)) false) :: U2 (.one (.own 33) :: U16 (U8 (U4 (.one (.dat (.sl 103 y102) true) :: oI :: oI :: U32 (U16 (U8 (U4 (U2 ([])))))))))
@[reducible] def gs11_1 : List (Nat × GP) := [(1, .box 41 [.dat y40 true]), (33, .arr 28 (.sl 3 (.int .i64)) false)]
@[reducible] def V11_1 : Type := (List (Ty.T (.int .u8))) × (List (Ty.T (.int .i64))) × (List (Ty.T y102)) × Int × Int × (Ty.T y40) × (List (Ty.T (.sl 3 (.int .i64)))) × Unit
def t11_1 (v : V11_1) {Z : Type} (κ : Nat × V11_1 -> Option Z) : Option Z := cond (decide (v.2.2.2.2.1 < v.2.2.2.1)) (if 0 <= v.2.2.2.2.1 then (optC ((v.2.2.1)[(v.2.2.2.2.1).toNat]?) (fun x2 => cond (d63 x2) (if (v.2.2.2.2.2.2.1 ++ [(v63 x2)] : List (Ty.T (.sl 3 (.int .i64)))).length * 24 <= 140737488351232 then (κ (0, (v.1, v.2.1, v.2.2.1, v.2.2.2.1, IntKind.wrap .i64 (v.2.2.2.2.1 + (1 : Int)), v.2.2.2.2.2.1, v.2.2.2.2.2.2.1 ++ [(v63 x2)], ()))) else none) (none))) else none) (κ (1, (v.1, v.2.1, v.2.2.1, v.2.2.2.1, v.2.2.2.2.1, v.2.2.2.2.2.1, v.2.2.2.2.2.2.1, ())))
def s11_1 (v : V11_1) : Option (Nat × V11_1) := t11_1 v some
def n11_1 (v : V11_1) : Nat := v.1.length + v.2.1.length + v.2.2.1.length + v.2.2.2.1.toNat + v.2.2.2.2.1.toNat + v.2.2.2.2.2.1.1.1.length + v.2.2.2.2.2.1.1.2.1.length + v.2.2.2.2.2.1.2.1.length + v.2.2.2.2.2.1.2.2.1.length + v.2.2.2.2.2.1.2.2.2.length + v.2.2.2.2.2.2.1.length + 100
def k11_1 (h0 : List (Ty.T (.int .u8))) (h1 : List (Ty.T (.int .i64))) (h2 : List (Ty.T y102)) (h3 : Int) (h4 : Int) (h5 : Ty.T y40) (h6 : List (Ty.T (.sl 3 (.int .i64)))) (c : Nat) : Bool := iK s11_1 n11_1 (h0, h1, h2, h3, h4, h5, h6, ()) c
def w11_1 (h0 : List (Ty.T (.int .u8))) (h1 : List (Ty.T (.int .i64))) (h2 : List (Ty.T y102)) (h3 : Int) (h4 : Int) (h5 : Ty.T y40) (h6 : List (Ty.T (.sl 3 (.int .i64)))) : V11_1 := iW s11_1 n11_1 (h0, h1, h2, h3, h4, h5, h6, ())
def F11_1 (v : V11_1) : Ways (Ex × St) := waysOf s11_1 (n11_1 v) v (bldSt ss11_1 gs11_1) [.exit 2] 0
theorem l11_1 : LoopOk Tryz.prog (loopAt (pb 7 95) (bodyOf Tryz.f11)) ss11_1 gs11_1 F11_1 := loopOk_iter (lt := .none) E11.ok orders (LtOk.no _) fun n v K => Eq.trans (b := t11_1 v (kont _ _ _ _ _ K)) (by kernel_rfl) (show t11_1 v _ = (t11_1 v some).bind _ from (bC (bI (bO fun x2 => (bC (bI rfl) rfl))) rfl))
@[reducible] def ss11_2 : List SP := .und :: .one (.ptr 1 0) :: .one (.dat (.sl 5 (.int .u8)) false) :: .one (.dat (.sl 3 (.int .i64)) false) :: U2 (.one (.own 33) :: U32 (U8 (.und :: .one (.dat (.sl 106 y105) true) :: oI :: oI :: U32 (U16 (.und :: [])))))
@[reducible] def V11_2 : Type := (List (Ty.T (.int .u8))) × (List (Ty.T (.int .i64))) × (List (Ty.T y105)) × Int × Int × (Ty.T y40) × (List (Ty.T (.sl 3 (.int .i64)))) × Unit
def t11_2 (v : V11_2) {Z : Type} (κ : Nat × V11_2 -> Option Z) : Option Z := cond (decide (v.2.2.2.2.1 < v.2.2.2.1)) (if 0 <= v.2.2.2.2.1 then (optC ((v.2.2.1)[(v.2.2.2.2.1).toNat]?) (fun x3 => cond (d64 x3) (if (v.2.2.2.2.2.2.1 ++ [(v64 x3)] : List (Ty.T (.sl 3 (.int .i64)))).length * 24 <= 140737488351232 then (κ (0, (v.1, v.2.1, v.2.2.1, v.2.2.2.1, IntKind.wrap .i64 (v.2.2.2.2.1 + (1 : Int)), v.2.2.2.2.2.1, v.2.2.2.2.2.2.1 ++ [(v64 x3)], ()))) else none) (none))) else none) (κ (1, (v.1, v.2.1, v.2.2.1, v.2.2.2.1, v.2.2.2.2.1, v.2.2.2.2.2.1, v.2.2.2.2.2.2.1, ())))
def s11_2 (v : V11_2) : Option (Nat × V11_2) := t11_2 v some
def n11_2 (v : V11_2) : Nat := v.1.length + v.2.1.length + v.2.2.1.length + v.2.2.2.1.toNat + v.2.2.2.2.1.toNat + v.2.2.2.2.2.1.1.1.length + v.2.2.2.2.2.1.1.2.1.length + v.2.2.2.2.2.1.2.1.length + v.2.2.2.2.2.1.2.2.1.length + v.2.2.2.2.2.1.2.2.2.length + v.2.2.2.2.2.2.1.length + 100
def k11_2 (h0 : List (Ty.T (.int .u8))) (h1 : List (Ty.T (.int .i64))) (h2 : List (Ty.T y105)) (h3 : Int) (h4 : Int) (h5 : Ty.T y40) (h6 : List (Ty.T (.sl 3 (.int .i64)))) (c : Nat) : Bool := iK s11_2 n11_2 (h0, h1, h2, h3, h4, h5, h6, ()) c
def w11_2 (h0 : List (Ty.T (.int .u8))) (h1 : List (Ty.T (.int .i64))) (h2 : List (Ty.T y105)) (h3 : Int) (h4 : Int) (h5 : Ty.T y40) (h6 : List (Ty.T (.sl 3 (.int .i64)))) : V11_2 := iW s11_2 n11_2 (h0, h1, h2, h3, h4, h5, h6, ())
def F11_2 (v : V11_2) : Ways (Ex × St) := waysOf s11_2 (n11_2 v) v (bldSt ss11_2 gs11_1) [.exit 4] 0
theorem l11_2 : LoopOk Tryz.prog (loopAt (pb 8 191) (bodyOf Tryz.f11)) ss11_2 gs11_1 F11_2 := loopOk_iter (lt := .none) E11.ok orders (LtOk.no _) fun n v K => Eq.trans (b := t11_2 v (kont _ _ _ _ _ K)) (by kernel_rfl) (show t11_2 v _ = (t11_2 v some).bind _ from (bC (bI (bO fun x3 => (bC (bI rfl) rfl))) rfl))
@[reducible] def ss11_4 : List SP := .und :: .one (.ptr 1 0) :: .one (.dat (.sl 5 (.int .u8)) false) :: U8 (.one (.own 4163) :: oI :: .one (.dat (.sl 3 (.int .i64)) true) :: U32 (U16 (U4 (U2 (.und :: .one (.dat (.sl 28 (.sl 3 (.int .i64))) true) :: oI :: oI :: .one (.dat .bool true) :: oI :: .one (.ept (.sl 3 (.int .i64))) :: .one (.dat (.sl 3 (.int .i64)) true) :: oI :: .one (.ptr 1 4) :: .one (.dat (.sl 103 y102) true) :: oI :: .one (.dat .bool true) :: U16 (U2 (.und :: [])))))))
@[reducible] def gs11_4 : List (Nat × GP) := [(1, .box 41 [.dat y40 true]), (4163, .arr 5 (.int .u8) false)]
@[reducible] def V11_4 : Type := (List (Ty.T (.int .u8))) × Int × (List (Ty.T (.int .i64))) × (List (Ty.T (.sl 3 (.int .i64)))) × Int × Int × Bool × Int × (List (Ty.T (.int .i64))) × (List (Ty.T (.int .i64))) × Int × (List (Ty.T y102)) × Int × Bool × (Ty.T y40) × (List (Ty.T (.int .u8))) × Unit
@[reducible] def sx11_4 : List SP := .und :: .one (.ptr 1 0) :: .one (.dat (.sl 5 (.int .u8)) false) :: U8 (.one (.own 4181) :: oI :: .one (.dat (.sl 3 (.int .i64)) true) :: U32 (U16 (U4 (U2 (.und :: .one (.dat (.sl 28 (.sl 3 (.int .i64))) true) :: oI :: oI :: .one (.dat .bool true) :: oI :: .one (.ept (.sl 3 (.int .i64))) :: .one (.dat (.sl 3 (.int .i64)) true) :: oI :: .one (.ptr 1 4) :: .one (.dat (.sl 103 y102) true) :: oI :: .one (.dat .bool true) :: U16 (U2 (.und :: [])))))))
@[reducible] def gx11_4 : List (Nat × GP) := [(1, .box 41 [.dat y40 true]), (4181, .arr 5 (.int .u8) false)]
def f11_4 (v : V11_4) (r : (List (Ty.T (.int .u8)))) : Ex × St := (.normal, bldSt sx11_4 gx11_4 (v.1, v.2.1, v.2.2.1, v.2.2.2.1, v.2.2.2.2.1, v.2.2.2.2.2.1, v.2.2.2.2.2.2.1, v.2.2.2.2.2.2.2.1, v.2.2.2.2.2.2.2.2.1, v.2.2.2.2.2.2.2.2.2.1, v.2.2.2.2.2.2.2.2.2.2.1, v.2.2.2.2.2.2.2.2.2.2.2.1, v.2.2.2.2.2.2.2.2.2.2.2.2.1, v.2.2.2.2.2.2.2.2.2.2.2.2.2.1, v.2.2.2.2.2.2.2.2.2.2.2.2.2.2.1, r, ()))
def t11_4 (v : V11_4) {Z : Type} (κ : (List (Ty.T (.int .u8))) -> Option Z) : Option Z := cond v.2.2.2.2.2.2.2.2.2.2.2.2.2.1 (cond (d67 v.2.2.2.2.2.2.2.2.2.2.2.2.2.2.2.1 ((v.2.2.2.2.2.2.2.2.2.2.2.2.2.2.1.2.2.1).length : Int)) (κ (v67 v.2.2.2.2.2.2.2.2.2.2.2.2.2.2.2.1 ((v.2.2.2.2.2.2.2.2.2.2.2.2.2.2.1.2.2.1).length : Int))) (none)) (κ v.2.2.2.2.2.2.2.2.2.2.2.2.2.2.2.1)
def c11_4 (v : V11_4) : (List (Ty.T (.int .u8))) := (t11_4 v some).getD []
def g11_4 (v : V11_4) : Bool := (t11_4 v some).isSome
def F11_4 (v : V11_4) : Ways (Ex × St) := .br (g11_4 v) (.done (f11_4 v (c11_4 v))) .no
theorem l11_4 : CodeOk Tryz.prog (pieceAt [true, true, false, true, false, true] (loopAt (pb 11 1535) (bodyOf Tryz.f11))) ss11_4 gs11_4 F11_4 := codeOk_eq (lt := .none) (sx := sx11_4) (gx := gx11_4) E11.ok orders (LtOk.no _) fun v => Eq.trans (b := t11_4 v (sm (f11_4 v))) (by kernel_rfl) (run_fin (show t11_4 v (sm (f11_4 v)) = (t11_4 v some).bind _ from (bC (bC rfl rfl) rfl)))
@[reducible] def ss11_3 : List SP := .und :: .one (.ptr 1 0) :: .one (.dat (.sl 5 (.int .u8)) false) :: U8 (.one (.own 4163) :: U32 (U16 (U8 (.und :: .one (.dat (.sl 28 (.sl 3 (.int .i64))) true) :: oI :: oI :: U16 (U8 (U4 ([])))))))
@[reducible] def V11_3 : Type := (List (Ty.T (.int .u8))) × (List (Ty.T (.sl 3 (.int .i64)))) × Int × Int × (Ty.T y40) × (List (Ty.T (.int .u8))) × Unit
def t11_3 (v : V11_3) {Z : Type} (κ : Nat × V11_3 -> Option Z) : Option Z := cond (decide (v.2.2.2.1 < v.2.2.1)) (if 0 <= v.2.2.2.1 then (optC ((v.2.1)[(v.2.2.2.1).toNat]?) (fun x4 => cond (g11_4 (v.1, v.2.2.2.1, x4, v.2.1, v.2.2.1, v.2.2.2.1, decide (v.2.2.2.1 < v.2.2.1), v.2.2.2.1, x4, x4, v.2.2.2.1, v.2.2.2.2.1.2.1, ((v.2.2.2.2.1.2.1).length : Int), (v.2.2.2.1 == ((v.2.2.2.2.1.2.1).length : Int)), v.2.2.2.2.1, v.2.2.2.2.2.1, ())) (cond (d68 (c11_4 (v.1, v.2.2.2.1, x4, v.2.1, v.2.2.1, v.2.2.2.1, decide (v.2.2.2.1 < v.2.2.1), v.2.2.2.1, x4, x4, v.2.2.2.1, v.2.2.2.2.1.2.1, ((v.2.2.2.2.1.2.1).length : Int), (v.2.2.2.1 == ((v.2.2.2.2.1.2.1).length : Int)), v.2.2.2.2.1, v.2.2.2.2.2.1, ())) x4) (κ (0, (v.1, v.2.1, v.2.2.1, IntKind.wrap .i64 (v.2.2.2.1 + (1 : Int)), v.2.2.2.2.1, (v68 (c11_4 (v.1, v.2.2.2.1, x4, v.2.1, v.2.2.1, v.2.2.2.1, decide (v.2.2.2.1 < v.2.2.1), v.2.2.2.1, x4, x4, v.2.2.2.1, v.2.2.2.2.1.2.1, ((v.2.2.2.2.1.2.1).length : Int), (v.2.2.2.1 == ((v.2.2.2.2.1.2.1).length : Int)), v.2.2.2.2.1, v.2.2.2.2.2.1, ())) x4), ()))) (none)) (none))) else none) (κ (1, (v.1, v.2.1, v.2.2.1, v.2.2.2.1, v.2.2.2.2.1, v.2.2.2.2.2.1, ())))
def s11_3 (v : V11_3) : Option (Nat × V11_3) := t11_3 v some
def n11_3 (v : V11_3) : Nat := v.1.length + v.2.1.length + v.2.2.1.toNat + v.2.2.2.1.toNat + v.2.2.2.2.1.1.1.length + v.2.2.2.2.1.1.2.1.length + v.2.2.2.2.1.2.1.length + v.2.2.2.2.1.2.2.1.length + v.2.2.2.2.1.2.2.2.length + v.2.2.2.2.2.1.length + 100
def k11_3 (h0 : List (Ty.T (.int .u8))) (h1 : List (Ty.T (.sl 3 (.int .i64)))) (h2 : Int) (h3 : Int) (h4 : Ty.T y40) (h5 : List (Ty.T (.int .u8))) (c : Nat) : Bool := iK s11_3 n11_3 (h0, h1, h2, h3, h4, h5, ()) c
def w11_3 (h0 : List (Ty.T (.int .u8))) (h1 : List (Ty.T (.sl 3 (.int .i64)))) (h2 : Int) (h3 : Int) (h4 : Ty.T y40) (h5 : List (Ty.T (.int .u8))) : V11_3 := iW s11_3 n11_3 (h0, h1, h2, h3, h4, h5, ())
def F11_3 (v : V11_3) : Ways (Ex × St) := waysOf s11_3 (n11_3 v) v (bldSt ss11_3 gs11_4) [.exit 6] 0
theorem l11_3 : LoopOk Tryz.prog (loopAt (pb 11 1535) (bodyOf Tryz.f11)) ss11_3 gs11_4 F11_3 := loopOk_iter (lt := (ltPutC [true, true, false, true, false, true] (loopAt (pb 11 1535) (bodyOf Tryz.f11)) .none (.sum ss11_4 gs11_4 F11_4))) E11.ok orders (LtOk.putC (wf_of (by kernel_rfl)) (LtOk.no _) l11_4) fun n v K => Eq.trans (b := t11_3 v (kont _ _ _ _ _ K)) (by kernel_rfl) (show t11_3 v _ = (t11_3 v some).bind _ from (bC (bI (bO fun x4 => (bC (bC rfl rfl) rfl))) rfl))
@[reducible] def ss11_5 : List SP := .und :: .one (.ptr 1 0) :: .one (.dat (.sl 5 (.int .u8)) false) :: U8 (.one (.own 4163) :: U64 (U16 (.und :: .one (.dat .bool true) :: U4 (U2 ([])))))
@[reducible] def V11_5 : Type := (List (Ty.T (.int .u8))) × Bool × (Ty.T y40) × (List (Ty.T (.int .u8))) × Unit
@[reducible] def sx11_5 : List SP := .und :: .one (.ptr 1 0) :: .one (.dat (.sl 5 (.int .u8)) false) :: U8 (.one (.own 4191) :: U64 (U16 (U8 ([]))))
@[reducible] def gx11_5 : List (Nat × GP) := [(1, .box 41 [.dat y40 true]), (4191, .arr 5 (.int .u8) false)]
def f11_5 (v : V11_5) (r : (List (Ty.T (.int .u8)))) : Ex × St := (.normal, bldSt sx11_5 gx11_5 (v.1, v.2.2.1, r, ()))
def t11_5 (v : V11_5) {Z : Type} (κ : (List (Ty.T (.int .u8))) -> Option Z) : Option Z := cond v.2.1 (cond (d67 v.2.2.2.1 0) (κ (v67 v.2.2.2.1 0)) (none)) (κ v.2.2.2.1)
def c11_5 (v : V11_5) : (List (Ty.T (.int .u8))) := (t11_5 v some).getD []
def g11_5 (v : V11_5) : Bool := (t11_5 v some).isSome
def F11_5 (v : V11_5) : Ways (Ex × St) := .br (g11_5 v) (.done (f11_5 v (c11_5 v))) .no
theorem l11_5 : CodeOk Tryz.prog (pieceAt (pb 12 3071) (bodyOf Tryz.f11)) ss11_5 gs11_4 F11_5 := codeOk_eq (lt := .none) (sx := sx11_5) (gx := gx11_5) E11.ok orders (LtOk.no _) fun v => Eq.trans (b := t11_5 v (sm (f11_5 v))) (by kernel_rfl) (run_fin (show t11_5 v (sm (f11_5 v)) = (t11_5 v some).bind _ from (bC (bC rfl rfl) rfl)))
def E11l := E11.l (g := 11) (t := (ltPutC (pb 12 3071) (bodyOf Tryz.f11) (ltPutC (pb 11 1535) (bodyOf Tryz.f11) (ltPutC (pb 8 191) (bodyOf Tryz.f11) (ltPutC (pb 7 95) (bodyOf Tryz.f11) (ltPutC (pb 5 23) (bodyOf Tryz.f11) .none (.sum ss11_0 gs11_0 F11_0)) (.sum ss11_1 gs11_1 F11_1)) (.sum ss11_2 gs11_1 F11_2)) (.sum ss11_3 gs11_4 F11_3)) (.sum ss11_5 gs11_4 F11_5))) (ltOk_of Tryz.func11 (LtOk.putC (wf_of (by kernel_rfl)) (LtOk.putL (by kernel_rfl) (wf_of (by kernel_rfl)) (LtOk.putL (by kernel_rfl) (wf_of (by kernel_rfl)) (LtOk.putL (by kernel_rfl) (wf_of (by kernel_rfl)) (LtOk.putL (by kernel_rfl) (wf_of (by kernel_rfl)) (LtOk.no _) l11_0) l11_1) l11_2) l11_3) l11_5))
def e11_0 (a0 : Ty.T y40) := (w11_1 (w11_0 [] (((v62 a0.1)).length : Int) 0 a0 [] (v62 a0.1)).1 (w11_0 [] (((v62 a0.1)).length : Int) 0 a0 [] (v62 a0.1)).2.2.2.2.1 (w11_0 [] (((v62 a0.1)).length : Int) 0 a0 [] (v62 a0.1)).2.2.2.1.2.1 (((w11_0 [] (((v62 a0.1)).length : Int) 0 a0 [] (v62 a0.1)).2.2.2.1.2.1).length : Int) 0 (w11_0 [] (((v62 a0.1)).length : Int) 0 a0 [] (v62 a0.1)).2.2.2.1 [(w11_0 [] (((v62 a0.1)).length : Int) 0 a0 [] (v62 a0.1)).2.2.2.2.1])
def e11_1 (a0 : Ty.T y40) := (w11_2 (e11_0 a0).1 (e11_0 a0).2.1 (e11_0 a0).2.2.2.2.2.1.2.2.1 (((e11_0 a0).2.2.2.2.2.1.2.2.1).length : Int) 0 (e11_0 a0).2.2.2.2.2.1 (e11_0 a0).2.2.2.2.2.2.1)
def e11_2 (a0 : Ty.T y40) := (v67 (v68 [] (e11_1 a0).2.1) (((e11_1 a0).2.2.2.2.2.1.2.1).length : Int))
def e11_3 (a0 : Ty.T y40) := (w11_3 (e11_1 a0).1 ((((e11_1 a0).2.2.2.2.2.2.1).drop 1).take (((e11_1 a0).2.2.2.2.2.2.1).length - 1)) (((((e11_1 a0).2.2.2.2.2.2.1).length - 1) : Nat) : Int) 0 (e11_1 a0).2.2.2.2.2.1 (e11_2 a0))
def e11_4 (a0 : Ty.T y40) := (c11_5 ((e11_3 a0).1, ((((e11_3 a0).2.2.2.2.1.2.2.1).length : Int) == (0 : Int)), (e11_3 a0).2.2.2.2.1, (e11_3 a0).2.2.2.2.2.1, ()))
def t11 (a0 : Ty.T y40) {Z : Type} (κ : (List (Ty.T (.int .u8))) -> Option Z) : Option Z := cond (d61 a0) (cond (!(v61 a0)) (κ []) (cond (d62 a0.1) (cond (k11_0 [] (((v62 a0.1)).length : Int) 0 a0 [] (v62 a0.1) 0) (cond (k11_1 (w11_0 [] (((v62 a0.1)).length : Int) 0 a0 [] (v62 a0.1)).1 (w11_0 [] (((v62 a0.1)).length : Int) 0 a0 [] (v62 a0.1)).2.2.2.2.1 (w11_0 [] (((v62 a0.1)).length : Int) 0 a0 [] (v62 a0.1)).2.2.2.1.2.1 (((w11_0 [] (((v62 a0.1)).length : Int) 0 a0 [] (v62 a0.1)).2.2.2.1.2.1).length : Int) 0 (w11_0 [] (((v62 a0.1)).length : Int) 0 a0 [] (v62 a0.1)).2.2.2.1 [(w11_0 [] (((v62 a0.1)).length : Int) 0 a0 [] (v62 a0.1)).2.2.2.2.1] 0) (cond (k11_2 (e11_0 a0).1 (e11_0 a0).2.1 (e11_0 a0).2.2.2.2.2.1.2.2.1 (((e11_0 a0).2.2.2.2.2.1.2.2.1).length : Int) 0 (e11_0 a0).2.2.2.2.2.1 (e11_0 a0).2.2.2.2.2.2.1 0) (cond (d65c1 (e11_1 a0).2.2.2.2.2.2.1) (cond (v65c1 (e11_1 a0).2.2.2.2.2.2.1) (κ []) (cond (d68 [] (e11_1 a0).2.1) (cond (d67 (v68 [] (e11_1 a0).2.1) (((e11_1 a0).2.2.2.2.2.1.2.1).length : Int)) (if (1 : Int) <= (((e11_1 a0).2.2.2.2.2.2.1).length : Int) then (cond (k11_3 (e11_1 a0).1 ((((e11_1 a0).2.2.2.2.2.2.1).drop 1).take (((e11_1 a0).2.2.2.2.2.2.1).length - 1)) (((((e11_1 a0).2.2.2.2.2.2.1).length - 1) : Nat) : Int) 0 (e11_1 a0).2.2.2.2.2.1 (e11_2 a0) 0) (cond (g11_5 ((e11_3 a0).1, ((((e11_3 a0).2.2.2.2.1.2.2.1).length : Int) == (0 : Int)), (e11_3 a0).2.2.2.2.1, (e11_3 a0).2.2.2.2.2.1, ())) (cond (d68 (e11_4 a0) (e11_3 a0).2.2.2.2.1.2.2.2) (κ (v68 (e11_4 a0) (e11_3 a0).2.2.2.2.1.2.2.2)) (none)) (none)) (none)) else none) (none)) (none))) (none)) (none)) (none)) (none)) (none))) (none)
def v11 (a0 : Ty.T y40) : (List (Ty.T (.int .u8))) := (t11 a0 some).getD []
def d11 (a0 : Ty.T y40) : Bool := (t11 a0 some).isSome
def p11 : Prim := ⟨[.agg [.dat y40 true]], fun v => .br (d11 v.1) (.done (f11 (v11 v.1))) .no⟩
theorem ok11 : PO 11 p11 := pK E11l fun v => Eq.trans (b := (t11 v.1 (sm f11))) (by kernel_rfl) (run_fin (show t11 v.1 (sm f11) = (t11 v.1 some).bind _ from by unfold t11; simp only [bb]))
def f12 (r : Bool) : AV × Sig := (.one (.bool r), [])
def E12 := E0
@[reducible] def ss12_0 : List SP := .one (.dat (.sl 5 (.int .u8)) true) :: .one (.dat (.sl 5 (.int .u8)) true) :: U2 (.one (.dat .bool true) :: oI :: U16 (U4 ([])))
@[reducible] def V12_0 : Type := (List (Ty.T (.int .u8))) × (List (Ty.T (.int .u8))) × Bool × Int × Unit
def t12_0 (v : V12_0) {Z : Type} (κ : Nat × V12_0 -> Option Z) : Option Z := cond (decide (v.2.2.2.1 < ((v.1).length : Int))) (if 0 <= v.2.2.2.1 then (optC ((v.1)[(v.2.2.2.1).toNat]?) (fun x1 => if 0 <= v.2.2.2.1 then (optC ((v.2.1)[(v.2.2.2.1).toNat]?) (fun x2 => cond (x1 != x2) (κ (1, (v.1, v.2.1, false, v.2.2.2.1, ()))) (κ (0, (v.1, v.2.1, v.2.2.1, IntKind.wrap .i64 (v.2.2.2.1 + (1 : Int)), ()))))) else none)) else none) (κ (2, (v.1, v.2.1, v.2.2.1, v.2.2.2.1, ())))
def s12_0 (v : V12_0) : Option (Nat × V12_0) := t12_0 v some
def n12_0 (v : V12_0) : Nat := v.1.length + v.2.1.length + v.2.2.2.1.toNat + 100
def k12_0 (h0 : List (Ty.T (.int .u8))) (h1 : List (Ty.T (.int .u8))) (h2 : Bool) (h3 : Int) (c : Nat) : Bool := iK s12_0 n12_0 (h0, h1, h2, h3, ()) c
def w12_0 (h0 : List (Ty.T (.int .u8))) (h1 : List (Ty.T (.int .u8))) (h2 : Bool) (h3 : Int) : V12_0 := iW s12_0 n12_0 (h0, h1, h2, h3, ())
def F12_0 (v : V12_0) : Ways (Ex × St) := waysOf s12_0 (n12_0 v) v (bldSt ss12_0 gs18_0) [.ret, .exit 0] 0
theorem l12_0 : LoopOk Tryz.prog (loopAt (pb 4 11) (bodyOf Tryz.f12)) ss12_0 gs18_0 F12_0 := loopOk_iter (lt := .none) E12.ok orders (LtOk.no _) fun n v K => Eq.trans (b := t12_0 v (kont _ _ _ _ _ K)) (by kernel_rfl) (show t12_0 v _ = (t12_0 v some).bind _ from (bC (bI (bO fun x1 => (bI (bO fun x2 => (bC rfl rfl))))) rfl))
def E12l := E12.l (g := 12) (t := (ltPut (pb 4 11) (bodyOf Tryz.f12) .none (.sum ss12_0 gs18_0 F12_0))) (ltOk_of Tryz.func12 (LtOk.put (wf_of (by kernel_rfl)) (LtOk.no _) l12_0))
def u12 (a0 : List (Ty.T (.int .u8))) (a1 : List (Ty.T (.int .u8))) : Option (AV × Sig) := cond (((a0).length : Int) != ((a1).length : Int)) (some (.one (.bool false), [])) (cond (k12_0 a0 a1 false 0 0) (some (.one (.bool (w12_0 a0 a1 false 0).2.2.1), [])) (cond (k12_0 a0 a1 false 0 1) (some (.one (.bool true), [])) (none)))
def v12 (a0 : List (Ty.T (.int .u8))) (a1 : List (Ty.T (.int .u8))) : Bool := cond (((a0).length : Int) != ((a1).length : Int)) (false) (cond (k12_0 a0 a1 false 0 0) ((w12_0 a0 a1 false 0).2.2.1) (cond (k12_0 a0 a1 false 0 1) (true) (false)))
def d12 (a0 : List (Ty.T (.int .u8))) (a1 : List (Ty.T (.int .u8))) : Bool := cond (((a0).length : Int) != ((a1).length : Int)) (true) (cond (k12_0 a0 a1 false 0 0) (true) (cond (k12_0 a0 a1 false 0 1) (true) (false)))
theorem o12 (a0 : List (Ty.T (.int .u8))) (a1 : List (Ty.T (.int .u8))) : u12 a0 a1 = cond (d12 a0 a1) (some (f12 (v12 a0 a1))) none := (pC (pS _) (pC (pS _) (pC (pS _) (pN _))))
def p12 : Prim := ⟨[.one (.dat (.sl 5 (.int .u8)) true), .one (.dat (.sl 5 (.int .u8)) true)], fun v => .br (d12 v.1 v.2.1) (.done (f12 (v12 v.1 v.2.1))) .no⟩
theorem ok12 : PO 12 p12 := pK E12l fun v => Eq.trans (b := u12 v.1 v.2.1) (by kernel_rfl) (o12 v.1 v.2.1)
def f157 (r : Bool) : AV × Sig := (.one (.bool r), [])
def E157 := E0
def u157 (a0 : Ty.T y179) (a1 : Ty.T y179) : Option (AV × Sig) := cond (a0.1 != a1.1) (some (.one (.bool false), [])) (cond (a0.2.1 != a1.2.1) (some (.one (.bool false), [])) (cond (a0.2.2.1 != a1.2.2.1) (some (.one (.bool false), [])) (cond (a0.2.2.2.1 != a1.2.2.2.1) (some (.one (.bool false), [])) (cond (a0.2.2.2.2.1 != a1.2.2.2.2.1) (some (.one (.bool false), [])) (cond (a0.2.2.2.2.2.1 != a1.2.2.2.2.2.1) (some (.one (.bool false), [])) (cond (a0.2.2.2.2.2.2.1 != a1.2.2.2.2.2.2.1) (some (.one (.bool false), [])) (cond (a0.2.2.2.2.2.2.2.1 != a1.2.2.2.2.2.2.2.1) (some (.one (.bool false), [])) (cond (a0.2.2.2.2.2.2.2.2.1 != a1.2.2.2.2.2.2.2.2.1) (some (.one (.bool false), [])) (cond (a0.2.2.2.2.2.2.2.2.2.1 != a1.2.2.2.2.2.2.2.2.2.1) (some (.one (.bool false), [])) (cond (a0.2.2.2.2.2.2.2.2.2.2.1 != a1.2.2.2.2.2.2.2.2.2.2.1) (some (.one (.bool false), [])) (cond (!(a0.2.2.2.2.2.2.2.2.2.2.2.1 == a1.2.2.2.2.2.2.2.2.2.2.2.1)) (some (.one (.bool false), [])) (cond (!(a0.2.2.2.2.2.2.2.2.2.2.2.2 == a1.2.2.2.2.2.2.2.2.2.2.2.2)) (some (.one (.bool false), [])) (some (.one (.bool true), []))))))))))))))
def v157 (a0 : Ty.T y179) (a1 : Ty.T y179) : Bool := cond (a0.1 != a1.1) (false) (cond (a0.2.1 != a1.2.1) (false) (cond (a0.2.2.1 != a1.2.2.1) (false) (cond (a0.2.2.2.1 != a1.2.2.2.1) (false) (cond (a0.2.2.2.2.1 != a1.2.2.2.2.1) (false) (cond (a0.2.2.2.2.2.1 != a1.2.2.2.2.2.1) (false) (cond (a0.2.2.2.2.2.2.1 != a1.2.2.2.2.2.2.1) (false) (cond (a0.2.2.2.2.2.2.2.1 != a1.2.2.2.2.2.2.2.1) (false) (cond (a0.2.2.2.2.2.2.2.2.1 != a1.2.2.2.2.2.2.2.2.1) (false) (cond (a0.2.2.2.2.2.2.2.2.2.1 != a1.2.2.2.2.2.2.2.2.2.1) (false) (cond (a0.2.2.2.2.2.2.2.2.2.2.1 != a1.2.2.2.2.2.2.2.2.2.2.1) (false) (cond (!(a0.2.2.2.2.2.2.2.2.2.2.2.1 == a1.2.2.2.2.2.2.2.2.2.2.2.1)) (false) (cond (!(a0.2.2.2.2.2.2.2.2.2.2.2.2 == a1.2.2.2.2.2.2.2.2.2.2.2.2)) (false) (true)))))))))))))
theorem o157 (a0 : Ty.T y179) (a1 : Ty.T y179) : u157 a0 a1 = some (f157 (v157 a0 a1)) := (tC rfl (tC rfl (tC rfl (tC rfl (tC rfl (tC rfl (tC rfl (tC rfl (tC rfl (tC rfl (tC rfl (tC rfl (tC rfl rfl)))))))))))))
def p157 : Prim := ⟨[.agg [.dat y179 true], .agg [.dat y179 true]], fun v => .done (f157 (v157 v.1 v.2.1))⟩
theorem ok157 : PO 157 p157 := pK E157 fun v => Eq.trans (b := u157 v.1 v.2.1) (by kernel_rfl) (o157 v.1 v.2.1)
def f84 (r : Bool) : AV × Sig := (.one (.bool r), [])
def E84 := (E0.p ok157)
@[reducible] def ss84_0 : List SP := .one (.dat (.sl 180 y179) true) :: .one (.dat (.sl 180 y179) true) :: U2 (.one (.dat .bool true) :: oI :: U16 (U4 (.und :: [])))
@[reducible] def V84_0 : Type := (List (Ty.T y179)) × (List (Ty.T y179)) × Bool × Int × Unit
def t84_0 (v : V84_0) {Z : Type} (κ : Nat × V84_0 -> Option Z) : Option Z := cond (decide (v.2.2.2.1 < ((v.1).length : Int))) (if 0 <= v.2.2.2.1 then (optC ((v.1)[(v.2.2.2.1).toNat]?) (fun x1 => if 0 <= v.2.2.2.1 then (optC ((v.2.1)[(v.2.2.2.1).toNat]?) (fun x2 => cond (!(v157 x1 x2)) (κ (1, (v.1, v.2.1, false, v.2.2.2.1, ()))) (κ (0, (v.1, v.2.1, v.2.2.1, IntKind.wrap .i64 (v.2.2.2.1 + (1 : Int)), ()))))) else none)) else none) (κ (2, (v.1, v.2.1, v.2.2.1, v.2.2.2.1, ())))
def s84_0 (v : V84_0) : Option (Nat × V84_0) := t84_0 v some
def n84_0 (v : V84_0) : Nat := v.1.length + v.2.1.length + v.2.2.2.1.toNat + 100
def k84_0 (h0 : List (Ty.T y179)) (h1 : List (Ty.T y179)) (h2 : Bool) (h3 : Int) (c : Nat) : Bool := iK s84_0 n84_0 (h0, h1, h2, h3, ()) c
def w84_0 (h0 : List (Ty.T y179)) (h1 : List (Ty.T y179)) (h2 : Bool) (h3 : Int) : V84_0 := iW s84_0 n84_0 (h0, h1, h2, h3, ())
def F84_0 (v : V84_0) : Ways (Ex × St) := waysOf s84_0 (n84_0 v) v (bldSt ss84_0 gs18_0) [.ret, .exit 0] 0
theorem l84_0 : LoopOk Tryz.prog (loopAt (pb 4 11) (bodyOf Tryz.f84)) ss84_0 gs18_0 F84_0 := loopOk_iter (lt := .none) E84.ok orders (LtOk.no _) fun n v K => Eq.trans (b := t84_0 v (kont _ _ _ _ _ K)) (by kernel_rfl) (show t84_0 v _ = (t84_0 v some).bind _ from (bC (bI (bO fun x1 => (bI (bO fun x2 => (bC rfl rfl))))) rfl))
def E84l := E84.l (g := 84) (t := (ltPut (pb 4 11) (bodyOf Tryz.f84) .none (.sum ss84_0 gs18_0 F84_0))) (ltOk_of Tryz.func84 (LtOk.put (wf_of (by kernel_rfl)) (LtOk.no _) l84_0))
def u84 (a0 : List (Ty.T y179)) (a1 : List (Ty.T y179)) : Option (AV × Sig) := cond (((a0).length : Int) != ((a1).length : Int)) (some (.one (.bool false), [])) (cond (k84_0 a0 a1 false 0 0) (some (.one (.bool (w84_0 a0 a1 false 0).2.2.1), [])) (cond (k84_0 a0 a1 false 0 1) (some (.one (.bool true), [])) (none)))
def v84 (a0 : List (Ty.T y179)) (a1 : List (Ty.T y179)) : Bool := cond (((a0).length : Int) != ((a1).length : Int)) (false) (cond (k84_0 a0 a1 false 0 0) ((w84_0 a0 a1 false 0).2.2.1) (cond (k84_0 a0 a1 false 0 1) (true) (false)))
def d84 (a0 : List (Ty.T y179)) (a1 : List (Ty.T y179)) : Bool := cond (((a0).length : Int) != ((a1).length : Int)) (true) (cond (k84_0 a0 a1 false 0 0) (true) (cond (k84_0 a0 a1 false 0 1) (true) (false)))
theorem o84 (a0 : List (Ty.T y179)) (a1 : List (Ty.T y179)) : u84 a0 a1 = cond (d84 a0 a1) (some (f84 (v84 a0 a1))) none := (pC (pS _) (pC (pS _) (pC (pS _) (pN _))))
def p84 : Prim := ⟨[.one (.dat (.sl 180 y179) true), .one (.dat (.sl 180 y179) true)], fun v => .br (d84 v.1 v.2.1) (.done (f84 (v84 v.1 v.2.1))) .no⟩
theorem ok84 : PO 84 p84 := pK E84l fun v => Eq.trans (b := u84 v.1 v.2.1) (by kernel_rfl) (o84 v.1 v.2.1)
def f158 (r : Bool) : AV × Sig := (.one (.bool r), [])
def E158 := E0
def u158 (a0 : Ty.T y181) (a1 : Ty.T y181) : Option (AV × Sig) := cond (a0.1 != a1.1) (some (.one (.bool false), [])) (cond (a0.2.1 != a1.2.1) (some (.one (.bool false), [])) (cond (!(a0.2.2 == a1.2.2)) (some (.one (.bool false), [])) (some (.one (.bool true), []))))
def v158 (a0 : Ty.T y181) (a1 : Ty.T y181) : Bool := cond (a0.1 != a1.1) (false) (cond (a0.2.1 != a1.2.1) (false) (cond (!(a0.2.2 == a1.2.2)) (false) (true)))
theorem o158 (a0 : Ty.T y181) (a1 : Ty.T y181) : u158 a0 a1 = some (f158 (v158 a0 a1)) := (tC rfl (tC rfl (tC rfl rfl)))
def p158 : Prim := ⟨[.agg [.dat y181 true], .agg [.dat y181 true]], fun v => .done (f158 (v158 v.1 v.2.1))⟩
theorem ok158 : PO 158 p158 := pK E158 fun v => Eq.trans (b := u158 v.1 v.2.1) (by kernel_rfl) (o158 v.1 v.2.1)
def f85 (r : Bool) : AV × Sig := (.one (.bool r), [])
def E85 := (E0.p ok158)
@[reducible] def ss85_0 : List SP := .one (.dat (.sl 182 y181) true) :: .one (.dat (.sl 182 y181) true) :: U2 (.one (.dat .bool true) :: oI :: U16 (U4 (.und :: [])))
@[reducible] def V85_0 : Type := (List (Ty.T y181)) × (List (Ty.T y181)) × Bool × Int × Unit
def t85_0 (v : V85_0) {Z : Type} (κ : Nat × V85_0 -> Option Z) : Option Z := cond (decide (v.2.2.2.1 < ((v.1).length : Int))) (if 0 <= v.2.2.2.1 then (optC ((v.1)[(v.2.2.2.1).toNat]?) (fun x1 => if 0 <= v.2.2.2.1 then (optC ((v.2.1)[(v.2.2.2.1).toNat]?) (fun x2 => cond (!(v158 x1 x2)) (κ (1, (v.1, v.2.1, false, v.2.2.2.1, ()))) (κ (0, (v.1, v.2.1, v.2.2.1, IntKind.wrap .i64 (v.2.2.2.1 + (1 : Int)), ()))))) else none)) else none) (κ (2, (v.1, v.2.1, v.2.2.1, v.2.2.2.1, ())))
def s85_0 (v : V85_0) : Option (Nat × V85_0) := t85_0 v some
def n85_0 (v : V85_0) : Nat := v.1.length + v.2.1.length + v.2.2.2.1.toNat + 100
def k85_0 (h0 : List (Ty.T y181)) (h1 : List (Ty.T y181)) (h2 : Bool) (h3 : Int) (c : Nat) : Bool := iK s85_0 n85_0 (h0, h1, h2, h3, ()) c
def w85_0 (h0 : List (Ty.T y181)) (h1 : List (Ty.T y181)) (h2 : Bool) (h3 : Int) : V85_0 := iW s85_0 n85_0 (h0, h1, h2, h3, ())
def F85_0 (v : V85_0) : Ways (Ex × St) := waysOf s85_0 (n85_0 v) v (bldSt ss85_0 gs18_0) [.ret, .exit 0] 0
theorem l85_0 : LoopOk Tryz.prog (loopAt (pb 4 11) (bodyOf Tryz.f85)) ss85_0 gs18_0 F85_0 := loopOk_iter (lt := .none) E85.ok orders (LtOk.no _) fun n v K => Eq.trans (b := t85_0 v (kont _ _ _ _ _ K)) (by kernel_rfl) (show t85_0 v _ = (t85_0 v some).bind _ from (bC (bI (bO fun x1 => (bI (bO fun x2 => (bC rfl rfl))))) rfl))
def E85l := E85.l (g := 85) (t := (ltPut (pb 4 11) (bodyOf Tryz.f85) .none (.sum ss85_0 gs18_0 F85_0))) (ltOk_of Tryz.func85 (LtOk.put (wf_of (by kernel_rfl)) (LtOk.no _) l85_0))
def u85 (a0 : List (Ty.T y181)) (a1 : List (Ty.T y181)) : Option (AV × Sig) := cond (((a0).length : Int) != ((a1).length : Int)) (some (.one (.bool false), [])) (cond (k85_0 a0 a1 false 0 0) (some (.one (.bool (w85_0 a0 a1 false 0).2.2.1), [])) (cond (k85_0 a0 a1 false 0 1) (some (.one (.bool true), [])) (none)))
def v85 (a0 : List (Ty.T y181)) (a1 : List (Ty.T y181)) : Bool := cond (((a0).length : Int) != ((a1).length : Int)) (false) (cond (k85_0 a0 a1 false 0 0) ((w85_0 a0 a1 false 0).2.2.1) (cond (k85_0 a0 a1 false 0 1) (true) (false)))
def d85 (a0 : List (Ty.T y181)) (a1 : List (Ty.T y181)) : Bool := cond (((a0).length : Int) != ((a1).length : Int)) (true) (cond (k85_0 a0 a1 false 0 0) (true) (cond (k85_0 a0 a1 false 0 1) (true) (false)))
theorem o85 (a0 : List (Ty.T y181)) (a1 : List (Ty.T y181)) : u85 a0 a1 = cond (d85 a0 a1) (some (f85 (v85 a0 a1))) none := (pC (pS _) (pC (pS _) (pC (pS _) (pN _))))
def p85 : Prim := ⟨[.one (.dat (.sl 182 y181) true), .one (.dat (.sl 182 y181) true)], fun v => .br (d85 v.1 v.2.1) (.done (f85 (v85 v.1 v.2.1))) .no⟩
theorem ok85 : PO 85 p85 := pK E85l fun v => Eq.trans (b := u85 v.1 v.2.1) (by kernel_rfl) (o85 v.1 v.2.1)
def f25 (r : Bool) : AV × Sig := (.one (.bool r), [])
def E25 := ((E0.p ok84).p ok85)
def u25 (a0 : Ty.T y36) (a1 : Ty.T y36) : Option (AV × Sig) := cond (d84 a0.1 a1.1) (cond (!(v84 a0.1 a1.1)) (some (.one (.bool false), [])) (cond (d85 a0.2.1 a1.2.1) (cond (!(v85 a0.2.1 a1.2.1)) (some (.one (.bool false), [])) (cond (a0.2.2.1 != a1.2.2.1) (some (.one (.bool false), [])) (cond (a0.2.2.2 != a1.2.2.2) (some (.one (.bool false), [])) (some (.one (.bool true), []))))) (none))) (none)
def v25 (a0 : Ty.T y36) (a1 : Ty.T y36) : Bool := cond (d84 a0.1 a1.1) (cond (!(v84 a0.1 a1.1)) (false) (cond (d85 a0.2.1 a1.2.1) (cond (!(v85 a0.2.1 a1.2.1)) (false) (cond (a0.2.2.1 != a1.2.2.1) (false) (cond (a0.2.2.2 != a1.2.2.2) (false) (true)))) (false))) (false)
def d25 (a0 : Ty.T y36) (a1 : Ty.T y36) : Bool := cond (d84 a0.1 a1.1) (cond (!(v84 a0.1 a1.1)) (true) (cond (d85 a0.2.1 a1.2.1) (cond (!(v85 a0.2.1 a1.2.1)) (true) (cond (a0.2.2.1 != a1.2.2.1) (true) (cond (a0.2.2.2 != a1.2.2.2) (true) (true)))) (false))) (false)
theorem o25 (a0 : Ty.T y36) (a1 : Ty.T y36) : u25 a0 a1 = cond (d25 a0 a1) (some (f25 (v25 a0 a1))) none := (pC (pC (pS _) (pC (pC (pS _) (pC (pS _) (pC (pS _) (pS _)))) (pN _))) (pN _))
def p25 : Prim := ⟨[.agg [.dat y36 true], .agg [.dat y36 true]], fun v => .br (d25 v.1 v.2.1) (.done (f25 (v25 v.1 v.2.1))) .no⟩
theorem ok25 : PO 25 p25 := pK E25 fun v => Eq.trans (b := u25 v.1 v.2.1) (by kernel_rfl) (o25 v.1 v.2.1)
def f159 (r : Bool) : AV × Sig := (.one (.bool r), [])
def E159 := E0
def u159 (a0 : Ty.T y96) (a1 : Ty.T y96) : Option (AV × Sig) := cond (a0.1 != a1.1) (some (.one (.bool false), [])) (cond (a0.2.1 != a1.2.1) (some (.one (.bool false), [])) (cond (a0.2.2.1 != a1.2.2.1) (some (.one (.bool false), [])) (cond (a0.2.2.2.1 != a1.2.2.2.1) (some (.one (.bool false), [])) (cond (a0.2.2.2.2.1 != a1.2.2.2.2.1) (some (.one (.bool false), [])) (cond (a0.2.2.2.2.2.1 != a1.2.2.2.2.2.1) (some (.one (.bool false), [])) (cond (a0.2.2.2.2.2.2 != a1.2.2.2.2.2.2) (some (.one (.bool false), [])) (some (.one (.bool true), []))))))))
def v159 (a0 : Ty.T y96) (a1 : Ty.T y96) : Bool := cond (a0.1 != a1.1) (false) (cond (a0.2.1 != a1.2.1) (false) (cond (a0.2.2.1 != a1.2.2.1) (false) (cond (a0.2.2.2.1 != a1.2.2.2.1) (false) (cond (a0.2.2.2.2.1 != a1.2.2.2.2.1) (false) (cond (a0.2.2.2.2.2.1 != a1.2.2.2.2.2.1) (false) (cond (a0.2.2.2.2.2.2 != a1.2.2.2.2.2.2) (false) (true)))))))
theorem o159 (a0 : Ty.T y96) (a1 : Ty.T y96) : u159 a0 a1 = some (f159 (v159 a0 a1)) := (tC rfl (tC rfl (tC rfl (tC rfl (tC rfl (tC rfl (tC rfl rfl)))))))
def p159 : Prim := ⟨[.agg [.dat y96 true], .agg [.dat y96 true]], fun v => .done (f159 (v159 v.1 v.2.1))⟩
theorem ok159 : PO 159 p159 := pK E159 fun v => Eq.trans (b := u159 v.1 v.2.1) (by kernel_rfl) (o159 v.1 v.2.1)
def f160 (r : Bool) : AV × Sig := (.one (.bool r), [])
def E160 := E0
def u160 (a0 : Ty.T y98) (a1 : Ty.T y98) : Option (AV × Sig) := cond (a0.1 != a1.1) (some (.one (.bool false), [])) (cond (a0.2 != a1.2) (some (.one (.bool false), [])) (some (.one (.bool true), [])))
def v160 (a0 : Ty.T y98) (a1 : Ty.T y98) : Bool := cond (a0.1 != a1.1) (false) (cond (a0.2 != a1.2) (false) (true))
theorem o160 (a0 : Ty.T y98) (a1 : Ty.T y98) : u160 a0 a1 = some (f160 (v160 a0 a1)) := (tC rfl (tC rfl rfl))
def p160 : Prim := ⟨[.agg [.dat y98 true], .agg [.dat y98 true]], fun v => .done (f160 (v160 v.1 v.2.1))⟩
theorem ok160 : PO 160 p160 := pK E160 fun v => Eq.trans (b := u160 v.1 v.2.1) (by kernel_rfl) (o160 v.1 v.2.1)
def f186 (r : Bool) : AV × Sig := (.one (.bool r), [])
def E186 := E0
def u186 (a0 : Ty.T y48) (a1 : Ty.T y48) : Option (AV × Sig) := cond (a0.1 != a1.1) (some (.one (.bool false), [])) (cond (a0.2.1 != a1.2.1) (some (.one (.bool false), [])) (cond (a0.2.2.1 != a1.2.2.1) (some (.one (.bool false), [])) (cond (a0.2.2.2.1 != a1.2.2.2.1) (some (.one (.bool false), [])) (cond (a0.2.2.2.2.1 != a1.2.2.2.2.1) (some (.one (.bool false), [])) (cond (a0.2.2.2.2.2.1 != a1.2.2.2.2.2.1) (some (.one (.bool false), [])) (cond (!(a0.2.2.2.2.2.2 == a1.2.2.2.2.2.2)) (some (.one (.bool false), [])) (some (.one (.bool true), []))))))))
def v186 (a0 : Ty.T y48) (a1 : Ty.T y48) : Bool := cond (a0.1 != a1.1) (false) (cond (a0.2.1 != a1.2.1) (false) (cond (a0.2.2.1 != a1.2.2.1) (false) (cond (a0.2.2.2.1 != a1.2.2.2.1) (false) (cond (a0.2.2.2.2.1 != a1.2.2.2.2.1) (false) (cond (a0.2.2.2.2.2.1 != a1.2.2.2.2.2.1) (false) (cond (!(a0.2.2.2.2.2.2 == a1.2.2.2.2.2.2)) (false) (true)))))))
theorem o186 (a0 : Ty.T y48) (a1 : Ty.T y48) : u186 a0 a1 = some (f186 (v186 a0 a1)) := (tC rfl (tC rfl (tC rfl (tC rfl (tC rfl (tC rfl (tC rfl rfl)))))))
def p186 : Prim := ⟨[.agg [.dat y48 true], .agg [.dat y48 true]], fun v => .done (f186 (v186 v.1 v.2.1))⟩
theorem ok186 : PO 186 p186 := pK E186 fun v => Eq.trans (b := u186 v.1 v.2.1) (by kernel_rfl) (o186 v.1 v.2.1)
def f104 (r : Bool) : AV × Sig := (.one (.bool r), [])
def E104 := (E0.p ok186)
@[reducible] def ss104_0 : List SP := .one (.dat (.sl 56 y48) true) :: .one (.dat (.sl 56 y48) true) :: U2 (.one (.dat .bool true) :: oI :: U16 (U4 (.und :: [])))
@[reducible] def V104_0 : Type := (List (Ty.T y48)) × (List (Ty.T y48)) × Bool × Int × Unit
def t104_0 (v : V104_0) {Z : Type} (κ : Nat × V104_0 -> Option Z) : Option Z := cond (decide (v.2.2.2.1 < ((v.1).length : Int))) (if 0 <= v.2.2.2.1 then (optC ((v.1)[(v.2.2.2.1).toNat]?) (fun x1 => if 0 <= v.2.2.2.1 then (optC ((v.2.1)[(v.2.2.2.1).toNat]?) (fun x2 => cond (!(v186 x1 x2)) (κ (1, (v.1, v.2.1, false, v.2.2.2.1, ()))) (κ (0, (v.1, v.2.1, v.2.2.1, IntKind.wrap .i64 (v.2.2.2.1 + (1 : Int)), ()))))) else none)) else none) (κ (2, (v.1, v.2.1, v.2.2.1, v.2.2.2.1, ())))
def s104_0 (v : V104_0) : Option (Nat × V104_0) := t104_0 v some
def n104_0 (v : V104_0) : Nat := v.1.length + v.2.1.length + v.2.2.2.1.toNat + 100
def k104_0 (h0 : List (Ty.T y48)) (h1 : List (Ty.T y48)) (h2 : Bool) (h3 : Int) (c : Nat) : Bool := iK s104_0 n104_0 (h0, h1, h2, h3, ()) c
def w104_0 (h0 : List (Ty.T y48)) (h1 : List (Ty.T y48)) (h2 : Bool) (h3 : Int) : V104_0 := iW s104_0 n104_0 (h0, h1, h2, h3, ())
def F104_0 (v : V104_0) : Ways (Ex × St) := waysOf s104_0 (n104_0 v) v (bldSt ss104_0 gs18_0) [.ret, .exit 0] 0
theorem l104_0 : LoopOk Tryz.prog (loopAt (pb 4 11) (bodyOf Tryz.f104)) ss104_0 gs18_0 F104_0 := loopOk_iter (lt := .none) E104.ok orders (LtOk.no _) fun n v K => Eq.trans (b := t104_0 v (kont _ _ _ _ _ K)) (by kernel_rfl) (show t104_0 v _ = (t104_0 v some).bind _ from (bC (bI (bO fun x1 => (bI (bO fun x2 => (bC rfl rfl))))) rfl))
def E104l := E104.l (g := 104) (t := (ltPut (pb 4 11) (bodyOf Tryz.f104) .none (.sum ss104_0 gs18_0 F104_0))) (ltOk_of Tryz.func104 (LtOk.put (wf_of (by kernel_rfl)) (LtOk.no _) l104_0))
def u104 (a0 : List (Ty.T y48)) (a1 : List (Ty.T y48)) : Option (AV × Sig) := cond (((a0).length : Int) != ((a1).length : Int)) (some (.one (.bool false), [])) (cond (k104_0 a0 a1 false 0 0) (some (.one (.bool (w104_0 a0 a1 false 0).2.2.1), [])) (cond (k104_0 a0 a1 false 0 1) (some (.one (.bool true), [])) (none)))
def v104 (a0 : List (Ty.T y48)) (a1 : List (Ty.T y48)) : Bool := cond (((a0).length : Int) != ((a1).length : Int)) (false) (cond (k104_0 a0 a1 false 0 0) ((w104_0 a0 a1 false 0).2.2.1) (cond (k104_0 a0 a1 false 0 1) (true) (false)))
def d104 (a0 : List (Ty.T y48)) (a1 : List (Ty.T y48)) : Bool := cond (((a0).length : Int) != ((a1).length : Int)) (true) (cond (k104_0 a0 a1 false 0 0) (true) (cond (k104_0 a0 a1 false 0 1) (true) (false)))
theorem o104 (a0 : List (Ty.T y48)) (a1 : List (Ty.T y48)) : u104 a0 a1 = cond (d104 a0 a1) (some (f104 (v104 a0 a1))) none := (pC (pS _) (pC (pS _) (pC (pS _) (pN _))))
def p104 : Prim := ⟨[.one (.dat (.sl 56 y48) true), .one (.dat (.sl 56 y48) true)], fun v => .br (d104 v.1 v.2.1) (.done (f104 (v104 v.1 v.2.1))) .no⟩
theorem ok104 : PO 104 p104 := pK E104l fun v => Eq.trans (b := u104 v.1 v.2.1) (by kernel_rfl) (o104 v.1 v.2.1)
end
end Go.Proofs.YtcddhifkfakcjaaGreat.Vm
