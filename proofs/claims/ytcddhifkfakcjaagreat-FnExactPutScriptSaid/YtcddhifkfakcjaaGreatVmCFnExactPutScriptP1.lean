/- Contracts. No condition. -/
import Derived.Test.YtcddhifkfakcjaaGreatVmCFnExactPutScriptP0
import Derived.Test.YtcddhifkfakcjaaGreatVmLibThree
namespace Go.Proofs.YtcddhifkfakcjaaGreat.Vm
open Go Go.Proofs.YtcddhifkfakcjaaGreat.Lib
noncomputable section
set_option maxRecDepth 100000
set_option linter.unusedVariables false
def f58 (r : (List (Ty.T (.int .i64)))) : AV × Sig := (.one (.sl 4096), [(4096, .arr 3 (.int .i64) r false)])
def E58 := ((E0.p ok132).p ok57)
@[reducible] def ss58_0 : List SP := .und :: .one (.ptr 1 0) :: .one (.dat (.sl 3 (.int .i64)) false) :: .one (.own 7) :: oI :: U32 (U8 (U2 (.und :: [])))
@[reducible] def gs58_0 : List (Nat × GP) := [(1, .box 106 [.dat y105 true]), (7, .arr 3 (.int .i64) false)]
@[reducible] def V58_0 : Type := (List (Ty.T (.int .i64))) × Int × (Ty.T y105) × (List (Ty.T (.int .i64))) × Unit
def t58_0 (v : V58_0) {Z : Type} (κ : Nat × V58_0 -> Option Z) : Option Z := cond (decide (v.2.1 < ((v.2.2.1.2.2.2).length : Int))) (if 0 <= v.2.1 then (optC ((v.2.2.1.2.2.2)[(v.2.1).toNat]?) (fun x1 => if (v.2.2.2.1 ++ (v132 x1) : List (Ty.T (.int .i64))).length * 8 <= 140737488351232 then (κ (0, (v.1, IntKind.wrap .i64 (v.2.1 + (1 : Int)), v.2.2.1, v.2.2.2.1 ++ (v132 x1), ()))) else none)) else none) (κ (1, (v.1, v.2.1, v.2.2.1, v.2.2.2.1, ())))
def s58_0 (v : V58_0) : Option (Nat × V58_0) := t58_0 v some
def n58_0 (v : V58_0) : Nat := v.1.length + v.2.1.toNat + v.2.2.1.2.1.2.2.2.2.2.2.1.2.2.2.2.2.2.length + v.2.2.1.2.2.2.length + v.2.2.2.1.length + 100
def k58_0 (h0 : List (Ty.T (.int .i64))) (h1 : Int) (h2 : Ty.T y105) (h3 : List (Ty.T (.int .i64))) (c : Nat) : Bool := iK s58_0 n58_0 (h0, h1, h2, h3, ()) c
def w58_0 (h0 : List (Ty.T (.int .i64))) (h1 : Int) (h2 : Ty.T y105) (h3 : List (Ty.T (.int .i64))) : V58_0 := iW s58_0 n58_0 (h0, h1, h2, h3, ())
def F58_0 (v : V58_0) : Ways (Ex × St) := waysOf s58_0 (n58_0 v) v (bldSt ss58_0 gs58_0) [.exit 1] 0
theorem l58_0 : LoopOk Tryz.prog (loopAt (pb 12 3579) (bodyOf Tryz.f58)) ss58_0 gs58_0 F58_0 := loopOk_iter (lt := .none) E58.ok orders (LtOk.no _) fun n v K => Eq.trans (b := t58_0 v (kont _ _ _ _ _ K)) (by kernel_rfl) (show t58_0 v _ = (t58_0 v some).bind _ from (bC (bI (bO fun x1 => (bI rfl))) rfl))
def E58l := E58.l (g := 58) (t := (ltPut (pb 12 3579) (bodyOf Tryz.f58) .none (.sum ss58_0 gs58_0 F58_0))) (ltOk_of Tryz.func58 (LtOk.put (wf_of (by kernel_rfl)) (LtOk.no _) l58_0))
def t58 (a0 : Ty.T y105) {Z : Type} (κ : (List (Ty.T (.int .i64))) -> Option Z) : Option Z := cond (a0.1 == (1 : Int)) (cond (d57 a0.2.1) (if ([a0.1] ++ (v57 a0.2.1) : List (Ty.T (.int .i64))).length * 8 <= 140737488351232 then (κ ([a0.1] ++ (v57 a0.2.1))) else none) (none)) (cond (a0.1 == (2 : Int)) (if ([a0.1] ++ [a0.2.2.1] : List (Ty.T (.int .i64))).length * 8 <= 140737488351232 then (κ ([a0.1] ++ [a0.2.2.1])) else none) (cond (a0.1 == (3 : Int)) (if ([a0.1] ++ [((a0.2.2.2).length : Int)] : List (Ty.T (.int .i64))).length * 8 <= 140737488351232 then (cond (k58_0 [] 0 a0 ([a0.1] ++ [((a0.2.2.2).length : Int)]) 0) (κ (w58_0 [] 0 a0 ([a0.1] ++ [((a0.2.2.2).length : Int)])).2.2.2.1) (none)) else none) (κ [a0.1])))
def v58 (a0 : Ty.T y105) : (List (Ty.T (.int .i64))) := (t58 a0 some).getD []
def d58 (a0 : Ty.T y105) : Bool := (t58 a0 some).isSome
def p58 : Prim := ⟨[.agg [.dat y105 true]], fun v => .br (d58 v.1) (.done (f58 (v58 v.1))) .no⟩
theorem ok58 : PO 58 p58 := pK E58l fun v => Eq.trans (b := (t58 v.1 (sm f58))) (by kernel_rfl) (run_fin (show t58 v.1 (sm f58) = (t58 v.1 some).bind _ from by unfold t58; simp only [bb]))
def f9 (r : (List (Ty.T (.int .u8)))) : AV × Sig := (.one (.sl 4096), [(4096, .arr 5 (.int .u8) r false)])
def E9 := ((((((((E0.p ok51).p ok52).p ok53).p ok54).p ok55).p ok56).p ok57).p ok58)
@[reducible] def ss9_0 : List SP := .und :: .one (.ptr 1 0) :: .one (.own 3686572032) :: .und :: .one (.own 4122) :: oI :: U64 ([])
@[reducible] def gs9_0 : List (Nat × GP) := [(1, .box 41 [.dat y40 true]), (4122, .arr 5 (.int .u8) false), (3686572032, .arr 5 (.int .u8) false)]
@[reducible] def V9_0 : Type := Int × (Ty.T y40) × (List (Ty.T (.int .u8))) × (List (Ty.T (.int .u8))) × Unit
def t9_0 (v : V9_0) {Z : Type} (κ : Nat × V9_0 -> Option Z) : Option Z := cond (decide (v.1 < ((v.2.1.2.1).length : Int))) (if 0 <= v.1 then (optC ((v.2.1.2.1)[(v.1).toNat]?) (fun x1 => cond (d57 x1) (cond (v54 (v57 x1)) (κ (1, (v.1, v.2.1, v.2.2.1, [], ()))) (cond (d56 v.2.2.1 (v57 x1)) (κ (0, (IntKind.wrap .i64 (v.1 + (1 : Int)), v.2.1, (v56 v.2.2.1 (v57 x1)), v.2.2.2.1, ()))) (none))) (none))) else none) (κ (2, (v.1, v.2.1, v.2.2.1, v.2.2.2.1, ())))
def s9_0 (v : V9_0) : Option (Nat × V9_0) := t9_0 v some
def n9_0 (v : V9_0) : Nat := v.1.toNat + v.2.1.1.1.length + v.2.1.1.2.1.length + v.2.1.2.1.length + v.2.1.2.2.1.length + v.2.1.2.2.2.length + v.2.2.1.length + v.2.2.2.1.length + 100
def k9_0 (h0 : Int) (h1 : Ty.T y40) (h2 : List (Ty.T (.int .u8))) (h3 : List (Ty.T (.int .u8))) (c : Nat) : Bool := iK s9_0 n9_0 (h0, h1, h2, h3, ()) c
def w9_0 (h0 : Int) (h1 : Ty.T y40) (h2 : List (Ty.T (.int .u8))) (h3 : List (Ty.T (.int .u8))) : V9_0 := iW s9_0 n9_0 (h0, h1, h2, h3, ())
def F9_0 (v : V9_0) : Ways (Ex × St) := waysOf s9_0 (n9_0 v) v (bldSt ss9_0 gs9_0) [.ret, .exit 0] 0
theorem l9_0 : LoopOk Tryz.prog (loopAt (pb 6 47) (bodyOf Tryz.f9)) ss9_0 gs9_0 F9_0 := loopOk_iter (lt := .none) E9.ok orders (LtOk.no _) fun n v K => Eq.trans (b := t9_0 v (kont _ _ _ _ _ K)) (by kernel_rfl) (show t9_0 v _ = (t9_0 v some).bind _ from (bC (bI (bO fun x1 => (bC (bC rfl (bC rfl rfl)) rfl))) rfl))
@[reducible] def ss9_1 : List SP := .und :: .one (.ptr 1 0) :: .one (.own 3686572032) :: .und :: .one (.own 4146) :: U2 (oI :: U32 (U16 (U8 (U4 (U2 ([]))))))
@[reducible] def gs9_1 : List (Nat × GP) := [(1, .box 41 [.dat y40 true]), (4146, .arr 5 (.int .u8) false), (3686572032, .arr 5 (.int .u8) false)]
def t9_1 (v : V9_0) {Z : Type} (κ : Nat × V9_0 -> Option Z) : Option Z := cond (decide (v.1 < ((v.2.1.2.2.1).length : Int))) (if 0 <= v.1 then (optC ((v.2.1.2.2.1)[(v.1).toNat]?) (fun x2 => cond (d58 x2) (cond (d56 v.2.2.1 (v58 x2)) (κ (0, (IntKind.wrap .i64 (v.1 + (1 : Int)), v.2.1, (v56 v.2.2.1 (v58 x2)), v.2.2.2.1, ()))) (none)) (none))) else none) (κ (1, (v.1, v.2.1, v.2.2.1, v.2.2.2.1, ())))
def s9_1 (v : V9_0) : Option (Nat × V9_0) := t9_1 v some
def n9_1 (v : V9_0) : Nat := v.1.toNat + v.2.1.1.1.length + v.2.1.1.2.1.length + v.2.1.2.1.length + v.2.1.2.2.1.length + v.2.1.2.2.2.length + v.2.2.1.length + v.2.2.2.1.length + 100
def k9_1 (h0 : Int) (h1 : Ty.T y40) (h2 : List (Ty.T (.int .u8))) (h3 : List (Ty.T (.int .u8))) (c : Nat) : Bool := iK s9_1 n9_1 (h0, h1, h2, h3, ()) c
def w9_1 (h0 : Int) (h1 : Ty.T y40) (h2 : List (Ty.T (.int .u8))) (h3 : List (Ty.T (.int .u8))) : V9_0 := iW s9_1 n9_1 (h0, h1, h2, h3, ())
def F9_1 (v : V9_0) : Ways (Ex × St) := waysOf s9_1 (n9_1 v) v (bldSt ss9_1 gs9_1) [.exit 2] 0
theorem l9_1 : LoopOk Tryz.prog (loopAt (pb 8 191) (bodyOf Tryz.f9)) ss9_1 gs9_1 F9_1 := loopOk_iter (lt := .none) E9.ok orders (LtOk.no _) fun n v K => Eq.trans (b := t9_1 v (kont _ _ _ _ _ K)) (by kernel_rfl) (show t9_1 v _ = (t9_1 v some).bind _ from (bC (bI (bO fun x2 => (bC (bC rfl rfl) rfl))) rfl))
def E9l := E9.l (g := 9) (t := (ltPut (pb 8 191) (bodyOf Tryz.f9) (ltPut (pb 6 47) (bodyOf Tryz.f9) .none (.sum ss9_0 gs9_0 F9_0)) (.sum ss9_1 gs9_1 F9_1))) (ltOk_of Tryz.func9 (LtOk.put (wf_of (by kernel_rfl)) (LtOk.put (wf_of (by kernel_rfl)) (LtOk.no _) l9_0) l9_1))
def e9_0 (a0 : Ty.T y40) := (w9_0 0 a0 (v55 (v56 [] (v51 (v52 a0.1))) ((a0.2.1).length : Int)) [])
def e9_1 (a0 : Ty.T y40) := (w9_1 0 (e9_0 a0).2.1 (v55 (e9_0 a0).2.2.1 (((e9_0 a0).2.1.2.2.1).length : Int)) (e9_0 a0).2.2.2.1)
def t9 (a0 : Ty.T y40) {Z : Type} (κ : (List (Ty.T (.int .u8))) -> Option Z) : Option Z := cond (d52 a0.1) (cond (d51 (v52 a0.1)) (cond (d53 a0) (cond (!(v53 a0)) (κ []) (cond (v54 (v51 (v52 a0.1))) (κ []) (cond (d56 [] (v51 (v52 a0.1))) (cond (d55 (v56 [] (v51 (v52 a0.1))) ((a0.2.1).length : Int)) (cond (k9_0 0 a0 (v55 (v56 [] (v51 (v52 a0.1))) ((a0.2.1).length : Int)) [] 0) (κ (e9_0 a0).2.2.2.1) (cond (k9_0 0 a0 (v55 (v56 [] (v51 (v52 a0.1))) ((a0.2.1).length : Int)) [] 1) (cond (d55 (e9_0 a0).2.2.1 (((e9_0 a0).2.1.2.2.1).length : Int)) (cond (k9_1 0 (e9_0 a0).2.1 (v55 (e9_0 a0).2.2.1 (((e9_0 a0).2.1.2.2.1).length : Int)) (e9_0 a0).2.2.2.1 0) (cond (d56 (e9_1 a0).2.2.1 (e9_1 a0).2.1.2.2.2) (κ (v56 (e9_1 a0).2.2.1 (e9_1 a0).2.1.2.2.2)) (none)) (none)) (none)) (none))) (none)) (none)))) (none)) (none)) (none)
def v9 (a0 : Ty.T y40) : (List (Ty.T (.int .u8))) := (t9 a0 some).getD []
def d9 (a0 : Ty.T y40) : Bool := (t9 a0 some).isSome
def p9 : Prim := ⟨[.agg [.dat y40 true]], fun v => .br (d9 v.1) (.done (f9 (v9 v.1))) .no⟩
theorem ok9 : PO 9 p9 := pK E9l fun v => Eq.trans (b := (t9 v.1 (sm f9))) (by kernel_rfl) (run_fin (show t9 v.1 (sm f9) = (t9 v.1 some).bind _ from by unfold t9; simp only [bb]))
def f150 (r : (Ty.T y179)) : AV × Sig := (.agg (y179.cells false r), [])
def E150 := (E0).n
def u150 (a0 : Ty.T y179) : Option (AV × Sig) := some (.agg [.int .i64 a0.1, .int .i64 a0.2.1, .int .i64 a0.2.2.1, .int .i64 a0.2.2.2.1, .int .i64 a0.2.2.2.2.1, .int .i64 a0.2.2.2.2.2.1, .int .i64 a0.2.2.2.2.2.2.1, .int .i64 a0.2.2.2.2.2.2.2.1, .int .i64 a0.2.2.2.2.2.2.2.2.1, .int .i64 a0.2.2.2.2.2.2.2.2.2.1, .int .i64 a0.2.2.2.2.2.2.2.2.2.2.1, .bool a0.2.2.2.2.2.2.2.2.2.2.2.1, .bool a0.2.2.2.2.2.2.2.2.2.2.2.2], [])
def v150 (a0 : Ty.T y179) : (Ty.T y179) := a0
theorem o150 (a0 : Ty.T y179) : u150 a0 = some (f150 (v150 a0)) := rfl
def p150 : Prim := ⟨[.agg [.dat y179 true]], fun v => .done (f150 (v150 v.1))⟩
theorem ok150 : PO 150 p150 := pK E150 fun v => Eq.trans (b := u150 v.1) (by kernel_rfl) (o150 v.1)
def f79 (r : (List (Ty.T y179))) : AV × Sig := (.one (.sl 4096), [(4096, .arr 180 y179 r false)])
def E79 := ((E0.p ok150)).n
@[reducible] def ss79_0 : List SP := .one (.dat (.sl 200 y179) true) :: .und :: .one (.dat (.sl 180 y179) false) :: .one (.own 7) :: oI :: U16 (U2 ([]))
@[reducible] def gs79_0 : List (Nat × GP) := [(7, .arr 180 y179 false)]
@[reducible] def V79_0 : Type := (List (Ty.T y179)) × (List (Ty.T y179)) × Int × (List (Ty.T y179)) × Unit
def t79_0 (v : V79_0) {Z : Type} (κ : Nat × V79_0 -> Option Z) : Option Z := cond (decide (v.2.2.1 < ((v.1).length : Int))) (if 0 <= v.2.2.1 then (optC ((v.1)[(v.2.2.1).toNat]?) (fun x1 => if 0 <= v.2.2.1 then (if v.2.2.1 < ((v.2.2.2.1).length : Int) then (optC ((v.2.2.2.1)[(v.2.2.1).toNat]?) (fun x2 => κ (0, (v.1, v.2.1, IntKind.wrap .i64 (v.2.2.1 + (1 : Int)), v.2.2.2.1.set ((v.2.2.1).toNat) (v150 x1), ())))) else none) else none)) else none) (κ (1, (v.1, v.2.1, v.2.2.1, v.2.2.2.1, ())))
def s79_0 (v : V79_0) : Option (Nat × V79_0) := t79_0 v some
def n79_0 (v : V79_0) : Nat := v.1.length + v.2.1.length + v.2.2.1.toNat + v.2.2.2.1.length + 100
def k79_0 (h0 : List (Ty.T y179)) (h1 : List (Ty.T y179)) (h2 : Int) (h3 : List (Ty.T y179)) (c : Nat) : Bool := iK s79_0 n79_0 (h0, h1, h2, h3, ()) c
def w79_0 (h0 : List (Ty.T y179)) (h1 : List (Ty.T y179)) (h2 : Int) (h3 : List (Ty.T y179)) : V79_0 := iW s79_0 n79_0 (h0, h1, h2, h3, ())
def F79_0 (v : V79_0) : Ways (Ex × St) := waysOf s79_0 (n79_0 v) v (bldSt ss79_0 gs79_0) [.exit 0] 0
theorem l79_0 : LoopOk Tryz.prog (loopAt (pb 4 11) (bodyOf Tryz.f79)) ss79_0 gs79_0 F79_0 := loopOk_iter (lt := .none) E79.ok orders (LtOk.no _) fun n v K => Eq.trans (b := t79_0 v (kont _ _ _ _ _ K)) (by kernel_rfl) (show t79_0 v _ = (t79_0 v some).bind _ from (bC (bI (bO fun x1 => (bI (bI (bO fun x2 => rfl))))) rfl))
def E79l := E79.l (g := 79) (t := (ltPut (pb 4 11) (bodyOf Tryz.f79) .none (.sum ss79_0 gs79_0 F79_0))) (ltOk_of Tryz.func79 (LtOk.put (wf_of (by kernel_rfl)) (LtOk.no _) l79_0))
def u79 (a0 : List (Ty.T y179)) : Option (AV × Sig) := if ((a0).length : Int) = ((a0).length : Int) then (if ((a0).length : Int).toNat * 96 <= 140737488351232 then (cond (k79_0 a0 [] 0 (List.replicate ((a0).length : Int).toNat ((0, 0, 0, 0, 0, 0, 0, 0, 0, 0, 0, false, false) : Ty.T y179)) 0) (some (.one (.sl 4096), [(4096, .arr 180 y179 (w79_0 a0 [] 0 (List.replicate ((a0).length : Int).toNat ((0, 0, 0, 0, 0, 0, 0, 0, 0, 0, 0, false, false) : Ty.T y179))).2.2.2.1 false)])) (none)) else none) else none
def v79 (a0 : List (Ty.T y179)) : (List (Ty.T y179)) := cond (k79_0 a0 [] 0 (List.replicate ((a0).length : Int).toNat ((0, 0, 0, 0, 0, 0, 0, 0, 0, 0, 0, false, false) : Ty.T y179)) 0) ((w79_0 a0 [] 0 (List.replicate ((a0).length : Int).toNat ((0, 0, 0, 0, 0, 0, 0, 0, 0, 0, 0, false, false) : Ty.T y179))).2.2.2.1) ([])
def d79 (a0 : List (Ty.T y179)) : Bool := decide (((a0).length : Int) = ((a0).length : Int)) && (decide (((a0).length : Int).toNat * 96 <= 140737488351232) && (cond (k79_0 a0 [] 0 (List.replicate ((a0).length : Int).toNat ((0, 0, 0, 0, 0, 0, 0, 0, 0, 0, 0, false, false) : Ty.T y179)) 0) (true) (false)))
theorem o79 (a0 : List (Ty.T y179)) : u79 a0 = cond (d79 a0) (some (f79 (v79 a0))) none := (pI (pI (pC (pS _) (pN _))))
def p79 : Prim := ⟨[.one (.dat (.sl 200 y179) true)], fun v => .br (d79 v.1) (.done (f79 (v79 v.1))) .no⟩
theorem ok79 : PO 79 p79 := pK E79l fun v => Eq.trans (b := u79 v.1) (by kernel_rfl) (o79 v.1)
def f151 (r : (Ty.T y181)) : AV × Sig := (.agg (y181.cells false r), [])
def E151 := (E0).n
def u151 (a0 : Ty.T y181) : Option (AV × Sig) := some (.agg [.int .i64 a0.1, .int .i64 a0.2.1, .bool a0.2.2], [])
def v151 (a0 : Ty.T y181) : (Ty.T y181) := a0
theorem o151 (a0 : Ty.T y181) : u151 a0 = some (f151 (v151 a0)) := rfl
def p151 : Prim := ⟨[.agg [.dat y181 true]], fun v => .done (f151 (v151 v.1))⟩
theorem ok151 : PO 151 p151 := pK E151 fun v => Eq.trans (b := u151 v.1) (by kernel_rfl) (o151 v.1)
def f80 (r : (List (Ty.T y181))) : AV × Sig := (.one (.sl 4096), [(4096, .arr 182 y181 r false)])
def E80 := ((E0.p ok151)).n
@[reducible] def ss80_0 : List SP := .one (.dat (.sl 202 y181) true) :: .und :: .one (.dat (.sl 182 y181) false) :: .one (.own 7) :: oI :: U16 (U2 ([]))
@[reducible] def gs80_0 : List (Nat × GP) := [(7, .arr 182 y181 false)]
@[reducible] def V80_0 : Type := (List (Ty.T y181)) × (List (Ty.T y181)) × Int × (List (Ty.T y181)) × Unit
def t80_0 (v : V80_0) {Z : Type} (κ : Nat × V80_0 -> Option Z) : Option Z := cond (decide (v.2.2.1 < ((v.1).length : Int))) (if 0 <= v.2.2.1 then (optC ((v.1)[(v.2.2.1).toNat]?) (fun x1 => if 0 <= v.2.2.1 then (if v.2.2.1 < ((v.2.2.2.1).length : Int) then (optC ((v.2.2.2.1)[(v.2.2.1).toNat]?) (fun x2 => κ (0, (v.1, v.2.1, IntKind.wrap .i64 (v.2.2.1 + (1 : Int)), v.2.2.2.1.set ((v.2.2.1).toNat) (v151 x1), ())))) else none) else none)) else none) (κ (1, (v.1, v.2.1, v.2.2.1, v.2.2.2.1, ())))
def s80_0 (v : V80_0) : Option (Nat × V80_0) := t80_0 v some
def n80_0 (v : V80_0) : Nat := v.1.length + v.2.1.length + v.2.2.1.toNat + v.2.2.2.1.length + 100
def k80_0 (h0 : List (Ty.T y181)) (h1 : List (Ty.T y181)) (h2 : Int) (h3 : List (Ty.T y181)) (c : Nat) : Bool := iK s80_0 n80_0 (h0, h1, h2, h3, ()) c
def w80_0 (h0 : List (Ty.T y181)) (h1 : List (Ty.T y181)) (h2 : Int) (h3 : List (Ty.T y181)) : V80_0 := iW s80_0 n80_0 (h0, h1, h2, h3, ())
def F80_0 (v : V80_0) : Ways (Ex × St) := waysOf s80_0 (n80_0 v) v (bldSt ss80_0 gs80_0) [.exit 0] 0
theorem l80_0 : LoopOk Tryz.prog (loopAt (pb 4 11) (bodyOf Tryz.f80)) ss80_0 gs80_0 F80_0 := loopOk_iter (lt := .none) E80.ok orders (LtOk.no _) fun n v K => Eq.trans (b := t80_0 v (kont _ _ _ _ _ K)) (by kernel_rfl) (show t80_0 v _ = (t80_0 v some).bind _ from (bC (bI (bO fun x1 => (bI (bI (bO fun x2 => rfl))))) rfl))
def E80l := E80.l (g := 80) (t := (ltPut (pb 4 11) (bodyOf Tryz.f80) .none (.sum ss80_0 gs80_0 F80_0))) (ltOk_of Tryz.func80 (LtOk.put (wf_of (by kernel_rfl)) (LtOk.no _) l80_0))
def u80 (a0 : List (Ty.T y181)) : Option (AV × Sig) := if ((a0).length : Int) = ((a0).length : Int) then (if ((a0).length : Int).toNat * 24 <= 140737488351232 then (cond (k80_0 a0 [] 0 (List.replicate ((a0).length : Int).toNat ((0, 0, false) : Ty.T y181)) 0) (some (.one (.sl 4096), [(4096, .arr 182 y181 (w80_0 a0 [] 0 (List.replicate ((a0).length : Int).toNat ((0, 0, false) : Ty.T y181))).2.2.2.1 false)])) (none)) else none) else none
def v80 (a0 : List (Ty.T y181)) : (List (Ty.T y181)) := cond (k80_0 a0 [] 0 (List.replicate ((a0).length : Int).toNat ((0, 0, false) : Ty.T y181)) 0) ((w80_0 a0 [] 0 (List.replicate ((a0).length : Int).toNat ((0, 0, false) : Ty.T y181))).2.2.2.1) ([])
def d80 (a0 : List (Ty.T y181)) : Bool := decide (((a0).length : Int) = ((a0).length : Int)) && (decide (((a0).length : Int).toNat * 24 <= 140737488351232) && (cond (k80_0 a0 [] 0 (List.replicate ((a0).length : Int).toNat ((0, 0, false) : Ty.T y181)) 0) (true) (false)))
theorem o80 (a0 : List (Ty.T y181)) : u80 a0 = cond (d80 a0) (some (f80 (v80 a0))) none := (pI (pI (pC (pS _) (pN _))))
def p80 : Prim := ⟨[.one (.dat (.sl 202 y181) true)], fun v => .br (d80 v.1) (.done (f80 (v80 v.1))) .no⟩
theorem ok80 : PO 80 p80 := pK E80l fun v => Eq.trans (b := u80 v.1) (by kernel_rfl) (o80 v.1)
def f20 (r : Int × Int × (List (Ty.T y179)) × (List (Ty.T y181))) : AV × Sig := (.agg ([.sl 4096] ++ [.sl 8192] ++ [.int .i64 r.1] ++ [.int .i64 r.2.1]), [(4096, .arr 180 y179 r.2.2.1 false), (8192, .arr 182 y181 r.2.2.2 false)])
def E20 := (((E0.p ok79).p ok80)).n
def u20 (a0 : Ty.T y24) : Option (AV × Sig) := cond (d79 a0.1) (cond (d80 a0.2.1) (some (.agg [.sl 4096, .sl 8192, .int .i64 a0.2.2.1, .int .i64 a0.2.2.2], [(4096, .arr 180 y179 (v79 a0.1) false), (8192, .arr 182 y181 (v80 a0.2.1) false)])) (none)) (none)
def v20 (a0 : Ty.T y24) : Int × Int × (List (Ty.T y179)) × (List (Ty.T y181)) := cond (d79 a0.1) (cond (d80 a0.2.1) ((a0.2.2.1, a0.2.2.2, (v79 a0.1), (v80 a0.2.1))) ((0, 0, [], []))) ((0, 0, [], []))
def d20 (a0 : Ty.T y24) : Bool := cond (d79 a0.1) (cond (d80 a0.2.1) (true) (false)) (false)
theorem o20 (a0 : Ty.T y24) : u20 a0 = cond (d20 a0) (some (f20 (v20 a0))) none := (pC (pC (pS _) (pN _)) (pN _))
def p20 : Prim := ⟨[.agg [.dat y24 true]], fun v => .br (d20 v.1) (.done (f20 (v20 v.1))) .no⟩
theorem ok20 : PO 20 p20 := pK E20 fun v => Eq.trans (b := u20 v.1) (by kernel_rfl) (o20 v.1)
def f152 (r : (Ty.T y96)) : AV × Sig := (.agg (y96.cells false r), [])
def E152 := (E0).n
def u152 (a0 : Ty.T y96) : Option (AV × Sig) := some (.agg [.int .i64 a0.1, .int .i64 a0.2.1, .int .i64 a0.2.2.1, .int .i64 a0.2.2.2.1, .int .i64 a0.2.2.2.2.1, .int .i64 a0.2.2.2.2.2.1, .int .i64 a0.2.2.2.2.2.2], [])
def v152 (a0 : Ty.T y96) : (Ty.T y96) := a0
theorem o152 (a0 : Ty.T y96) : u152 a0 = some (f152 (v152 a0)) := rfl
def p152 : Prim := ⟨[.agg [.dat y96 true]], fun v => .done (f152 (v152 v.1))⟩
theorem ok152 : PO 152 p152 := pK E152 fun v => Eq.trans (b := u152 v.1) (by kernel_rfl) (o152 v.1)
def f153 (r : (Ty.T y98)) : AV × Sig := (.agg (y98.cells false r), [])
def E153 := (E0).n
def u153 (a0 : Ty.T y98) : Option (AV × Sig) := some (.agg [.int .i64 a0.1, .int .i64 a0.2], [])
def v153 (a0 : Ty.T y98) : (Ty.T y98) := a0
theorem o153 (a0 : Ty.T y98) : u153 a0 = some (f153 (v153 a0)) := rfl
def p153 : Prim := ⟨[.agg [.dat y98 true]], fun v => .done (f153 (v153 v.1))⟩
theorem ok153 : PO 153 p153 := pK E153 fun v => Eq.trans (b := u153 v.1) (by kernel_rfl) (o153 v.1)
def f22 (r : (Ty.T y48)) : AV × Sig := (.agg (y48.cells false r), [])
def E22 := (E0).n
def u22 (a0 : Ty.T y48) : Option (AV × Sig) := some (.agg [.int .i64 a0.1, .int .i64 a0.2.1, .int .i64 a0.2.2.1, .int .i64 a0.2.2.2.1, .int .i64 a0.2.2.2.2.1, .int .i64 a0.2.2.2.2.2.1, .bool a0.2.2.2.2.2.2], [])
def v22 (a0 : Ty.T y48) : (Ty.T y48) := a0
theorem o22 (a0 : Ty.T y48) : u22 a0 = some (f22 (v22 a0)) := rfl
def p22 : Prim := ⟨[.agg [.dat y48 true]], fun v => .done (f22 (v22 v.1))⟩
theorem ok22 : PO 22 p22 := pK E22 fun v => Eq.trans (b := u22 v.1) (by kernel_rfl) (o22 v.1)
def f164 (r : (List (Ty.T y48))) : AV × Sig := (.one (.sl 4096), [(4096, .arr 56 y48 r false)])
def E164 := ((E0.p ok22)).n
@[reducible] def ss164_0 : List SP := .one (.dat (.sl 49 y48) true) :: .und :: .one (.dat (.sl 56 y48) false) :: .one (.own 7) :: oI :: U16 (U2 ([]))
@[reducible] def gs164_0 : List (Nat × GP) := [(7, .arr 56 y48 false)]
@[reducible] def V164_0 : Type := (List (Ty.T y48)) × (List (Ty.T y48)) × Int × (List (Ty.T y48)) × Unit
def t164_0 (v : V164_0) {Z : Type} (κ : Nat × V164_0 -> Option Z) : Option Z := cond (decide (v.2.2.1 < ((v.1).length : Int))) (if 0 <= v.2.2.1 then (optC ((v.1)[(v.2.2.1).toNat]?) (fun x1 => if 0 <= v.2.2.1 then (if v.2.2.1 < ((v.2.2.2.1).length : Int) then (optC ((v.2.2.2.1)[(v.2.2.1).toNat]?) (fun x2 => κ (0, (v.1, v.2.1, IntKind.wrap .i64 (v.2.2.1 + (1 : Int)), v.2.2.2.1.set ((v.2.2.1).toNat) (v22 x1), ())))) else none) else none)) else none) (κ (1, (v.1, v.2.1, v.2.2.1, v.2.2.2.1, ())))
def s164_0 (v : V164_0) : Option (Nat × V164_0) := t164_0 v some
def n164_0 (v : V164_0) : Nat := v.1.length + v.2.1.length + v.2.2.1.toNat + v.2.2.2.1.length + 100
def k164_0 (h0 : List (Ty.T y48)) (h1 : List (Ty.T y48)) (h2 : Int) (h3 : List (Ty.T y48)) (c : Nat) : Bool := iK s164_0 n164_0 (h0, h1, h2, h3, ()) c
def w164_0 (h0 : List (Ty.T y48)) (h1 : List (Ty.T y48)) (h2 : Int) (h3 : List (Ty.T y48)) : V164_0 := iW s164_0 n164_0 (h0, h1, h2, h3, ())
def F164_0 (v : V164_0) : Ways (Ex × St) := waysOf s164_0 (n164_0 v) v (bldSt ss164_0 gs164_0) [.exit 0] 0
theorem l164_0 : LoopOk Tryz.prog (loopAt (pb 4 11) (bodyOf Tryz.f164)) ss164_0 gs164_0 F164_0 := loopOk_iter (lt := .none) E164.ok orders (LtOk.no _) fun n v K => Eq.trans (b := t164_0 v (kont _ _ _ _ _ K)) (by kernel_rfl) (show t164_0 v _ = (t164_0 v some).bind _ from (bC (bI (bO fun x1 => (bI (bI (bO fun x2 => rfl))))) rfl))
def E164l := E164.l (g := 164) (t := (ltPut (pb 4 11) (bodyOf Tryz.f164) .none (.sum ss164_0 gs164_0 F164_0))) (ltOk_of Tryz.func164 (LtOk.put (wf_of (by kernel_rfl)) (LtOk.no _) l164_0))
def u164 (a0 : List (Ty.T y48)) : Option (AV × Sig) := if ((a0).length : Int) = ((a0).length : Int) then (if ((a0).length : Int).toNat * 56 <= 140737488351232 then (cond (k164_0 a0 [] 0 (List.replicate ((a0).length : Int).toNat ((0, 0, 0, 0, 0, 0, false) : Ty.T y48)) 0) (some (.one (.sl 4096), [(4096, .arr 56 y48 (w164_0 a0 [] 0 (List.replicate ((a0).length : Int).toNat ((0, 0, 0, 0, 0, 0, false) : Ty.T y48))).2.2.2.1 false)])) (none)) else none) else none
def v164 (a0 : List (Ty.T y48)) : (List (Ty.T y48)) := cond (k164_0 a0 [] 0 (List.replicate ((a0).length : Int).toNat ((0, 0, 0, 0, 0, 0, false) : Ty.T y48)) 0) ((w164_0 a0 [] 0 (List.replicate ((a0).length : Int).toNat ((0, 0, 0, 0, 0, 0, false) : Ty.T y48))).2.2.2.1) ([])
def d164 (a0 : List (Ty.T y48)) : Bool := decide (((a0).length : Int) = ((a0).length : Int)) && (decide (((a0).length : Int).toNat * 56 <= 140737488351232) && (cond (k164_0 a0 [] 0 (List.replicate ((a0).length : Int).toNat ((0, 0, 0, 0, 0, 0, false) : Ty.T y48)) 0) (true) (false)))
theorem o164 (a0 : List (Ty.T y48)) : u164 a0 = cond (d164 a0) (some (f164 (v164 a0))) none := (pI (pI (pC (pS _) (pN _))))
def p164 : Prim := ⟨[.one (.dat (.sl 49 y48) true)], fun v => .br (d164 v.1) (.done (f164 (v164 v.1))) .no⟩
theorem ok164 : PO 164 p164 := pK E164l fun v => Eq.trans (b := u164 v.1) (by kernel_rfl) (o164 v.1)
def f154 (r : Int × Int × Int × Int × Int × Bool × (List (Ty.T y48))) : AV × Sig := (.agg ([.int .i64 r.1] ++ [.int .i64 r.2.1] ++ [.int .i64 r.2.2.1] ++ [.int .i64 r.2.2.2.1] ++ [.int .i64 r.2.2.2.2.1] ++ [.bool r.2.2.2.2.2.1] ++ [.sl 28672]), [(28672, .arr 56 y48 r.2.2.2.2.2.2 false)])
def E154 := ((E0.p ok164)).n
def u154 (a0 : Ty.T y119) : Option (AV × Sig) := cond (d164 a0.2.2.2.2.2.2) (some (.agg [.int .i64 a0.1, .int .i64 a0.2.1, .int .i64 a0.2.2.1, .int .i64 a0.2.2.2.1, .int .i64 a0.2.2.2.2.1, .bool a0.2.2.2.2.2.1, .sl 28672], [(28672, .arr 56 y48 (v164 a0.2.2.2.2.2.2) false)])) (none)
def v154 (a0 : Ty.T y119) : Int × Int × Int × Int × Int × Bool × (List (Ty.T y48)) := cond (d164 a0.2.2.2.2.2.2) ((a0.1, a0.2.1, a0.2.2.1, a0.2.2.2.1, a0.2.2.2.2.1, a0.2.2.2.2.2.1, (v164 a0.2.2.2.2.2.2))) ((0, 0, 0, 0, 0, false, []))
def d154 (a0 : Ty.T y119) : Bool := cond (d164 a0.2.2.2.2.2.2) (true) (false)
theorem o154 (a0 : Ty.T y119) : u154 a0 = cond (d154 a0) (some (f154 (v154 a0))) none := (pC (pS _) (pN _))
def p154 : Prim := ⟨[.agg [.dat y119 true]], fun v => .br (d154 v.1) (.done (f154 (v154 v.1))) .no⟩
theorem ok154 : PO 154 p154 := pK E154 fun v => Eq.trans (b := u154 v.1) (by kernel_rfl) (o154 v.1)
def f81 (r : Int × Int × Int × Int × (Ty.T y96) × (Ty.T y98) × Int × Int × Int × Int × Int × Bool × Int × Int × (List (Ty.T y48))) : AV × Sig := (.agg ([.int .i64 r.1] ++ [.int .i64 r.2.1] ++ [.int .i64 r.2.2.1] ++ [.int .i64 r.2.2.2.1] ++ (y96.cells false r.2.2.2.2.1) ++ (y98.cells false r.2.2.2.2.2.1) ++ [.int .i64 r.2.2.2.2.2.2.1] ++ [.int .i64 r.2.2.2.2.2.2.2.1] ++ [.int .i64 r.2.2.2.2.2.2.2.2.1] ++ [.int .i64 r.2.2.2.2.2.2.2.2.2.1] ++ [.int .i64 r.2.2.2.2.2.2.2.2.2.2.1] ++ [.bool r.2.2.2.2.2.2.2.2.2.2.2.1] ++ [.sl 81920] ++ [.int .i64 r.2.2.2.2.2.2.2.2.2.2.2.2.1] ++ [.int .i64 r.2.2.2.2.2.2.2.2.2.2.2.2.2.1]), [(81920, .arr 56 y48 r.2.2.2.2.2.2.2.2.2.2.2.2.2.2 false)])
def E81 := ((((E0.p ok152).p ok153).p ok154)).n
def u81 (a0 : Ty.T y121) : Option (AV × Sig) := cond (d154 a0.2.2.2.2.2.2.1) (some (.agg [.int .i64 a0.1, .int .i64 a0.2.1, .int .i64 a0.2.2.1, .int .i64 a0.2.2.2.1, .int .i64 (v152 a0.2.2.2.2.1).1, .int .i64 (v152 a0.2.2.2.2.1).2.1, .int .i64 (v152 a0.2.2.2.2.1).2.2.1, .int .i64 (v152 a0.2.2.2.2.1).2.2.2.1, .int .i64 (v152 a0.2.2.2.2.1).2.2.2.2.1, .int .i64 (v152 a0.2.2.2.2.1).2.2.2.2.2.1, .int .i64 (v152 a0.2.2.2.2.1).2.2.2.2.2.2, .int .i64 (v153 a0.2.2.2.2.2.1).1, .int .i64 (v153 a0.2.2.2.2.2.1).2, .int .i64 (v154 a0.2.2.2.2.2.2.1).1, .int .i64 (v154 a0.2.2.2.2.2.2.1).2.1, .int .i64 (v154 a0.2.2.2.2.2.2.1).2.2.1, .int .i64 (v154 a0.2.2.2.2.2.2.1).2.2.2.1, .int .i64 (v154 a0.2.2.2.2.2.2.1).2.2.2.2.1, .bool (v154 a0.2.2.2.2.2.2.1).2.2.2.2.2.1, .sl 81920, .int .i64 a0.2.2.2.2.2.2.2.1, .int .i64 a0.2.2.2.2.2.2.2.2], [(81920, .arr 56 y48 (v154 a0.2.2.2.2.2.2.1).2.2.2.2.2.2 false)])) (none)
def v81 (a0 : Ty.T y121) : Int × Int × Int × Int × (Ty.T y96) × (Ty.T y98) × Int × Int × Int × Int × Int × Bool × Int × Int × (List (Ty.T y48)) := cond (d154 a0.2.2.2.2.2.2.1) ((a0.1, a0.2.1, a0.2.2.1, a0.2.2.2.1, (v152 a0.2.2.2.2.1), (v153 a0.2.2.2.2.2.1), (v154 a0.2.2.2.2.2.2.1).1, (v154 a0.2.2.2.2.2.2.1).2.1, (v154 a0.2.2.2.2.2.2.1).2.2.1, (v154 a0.2.2.2.2.2.2.1).2.2.2.1, (v154 a0.2.2.2.2.2.2.1).2.2.2.2.1, (v154 a0.2.2.2.2.2.2.1).2.2.2.2.2.1, a0.2.2.2.2.2.2.2.1, a0.2.2.2.2.2.2.2.2, (v154 a0.2.2.2.2.2.2.1).2.2.2.2.2.2)) ((0, 0, 0, 0, (0, 0, 0, 0, 0, 0, 0), (0, 0), 0, 0, 0, 0, 0, false, 0, 0, []))
def d81 (a0 : Ty.T y121) : Bool := cond (d154 a0.2.2.2.2.2.2.1) (true) (false)
theorem o81 (a0 : Ty.T y121) : u81 a0 = cond (d81 a0) (some (f81 (v81 a0))) none := (pC (by kernel_rfl) (pN _))
def p81 : Prim := ⟨[.agg [.dat y121 true]], fun v => .br (d81 v.1) (.done (f81 (v81 v.1))) .no⟩
theorem ok81 : PO 81 p81 := pK E81 fun v => Eq.trans (b := u81 v.1) (by kernel_rfl) (o81 v.1)
def f21 (r : (List (Ty.T y102))) : AV × Sig := (.one (.nl 4096), [(4096, .nst 103 y102 r)])
def E21 := ((E0.p ok81)).n
@[reducible] def ss21_0 : List SP := .one (.dat (.sl 122 y121) true) :: .und :: .one (.dat (.sl 103 y102) false) :: .one (.nest 7) :: oI :: U16 (U2 ([]))
@[reducible] def gs21_0 : List (Nat × GP) := [(7, .nst 103 y102)]
@[reducible] def V21_0 : Type := (List (Ty.T y121)) × (List (Ty.T y102)) × Int × (List (Ty.T y102)) × Unit
def t21_0 (v : V21_0) {Z : Type} (κ : Nat × V21_0 -> Option Z) : Option Z := cond (decide (v.2.2.1 < ((v.1).length : Int))) (if 0 <= v.2.2.1 then (optC ((v.1)[(v.2.2.1).toNat]?) (fun x1 => cond (d81 x1) (if 0 <= v.2.2.1 then (if v.2.2.1 < ((v.2.2.2.1).length : Int) then (optC ((v.2.2.2.1)[(v.2.2.1).toNat]?) (fun x2 => κ (0, (v.1, v.2.1, IntKind.wrap .i64 (v.2.2.1 + (1 : Int)), v.2.2.2.1.set ((v.2.2.1).toNat) ((v81 x1).1, (v81 x1).2.1, (v81 x1).2.2.1, (v81 x1).2.2.2.1, (v81 x1).2.2.2.2.1, (v81 x1).2.2.2.2.2.1, ((v81 x1).2.2.2.2.2.2.1, (v81 x1).2.2.2.2.2.2.2.1, (v81 x1).2.2.2.2.2.2.2.2.1, (v81 x1).2.2.2.2.2.2.2.2.2.1, (v81 x1).2.2.2.2.2.2.2.2.2.2.1, (v81 x1).2.2.2.2.2.2.2.2.2.2.2.1, (v81 x1).2.2.2.2.2.2.2.2.2.2.2.2.2.2), (v81 x1).2.2.2.2.2.2.2.2.2.2.2.2.1, (v81 x1).2.2.2.2.2.2.2.2.2.2.2.2.2.1), ())))) else none) else none) (none))) else none) (κ (1, (v.1, v.2.1, v.2.2.1, v.2.2.2.1, ())))
def s21_0 (v : V21_0) : Option (Nat × V21_0) := t21_0 v some
def n21_0 (v : V21_0) : Nat := v.1.length + v.2.1.length + v.2.2.1.toNat + v.2.2.2.1.length + 100
def k21_0 (h0 : List (Ty.T y121)) (h1 : List (Ty.T y102)) (h2 : Int) (h3 : List (Ty.T y102)) (c : Nat) : Bool := iK s21_0 n21_0 (h0, h1, h2, h3, ()) c
def w21_0 (h0 : List (Ty.T y121)) (h1 : List (Ty.T y102)) (h2 : Int) (h3 : List (Ty.T y102)) : V21_0 := iW s21_0 n21_0 (h0, h1, h2, h3, ())
def F21_0 (v : V21_0) : Ways (Ex × St) := waysOf s21_0 (n21_0 v) v (bldSt ss21_0 gs21_0) [.exit 0] 0
theorem l21_0 : LoopOk Tryz.prog (loopAt (pb 4 11) (bodyOf Tryz.f21)) ss21_0 gs21_0 F21_0 := loopOk_iter (lt := .none) E21.ok orders (LtOk.no _) fun n v K => Eq.trans (b := t21_0 v (kont _ _ _ _ _ K)) (by kernel_rfl) (show t21_0 v _ = (t21_0 v some).bind _ from (bC (bI (bO fun x1 => (bC (bI (bI (bO fun x2 => rfl))) rfl))) rfl))
def E21l := E21.l (g := 21) (t := (ltPut (pb 4 11) (bodyOf Tryz.f21) .none (.sum ss21_0 gs21_0 F21_0))) (ltOk_of Tryz.func21 (LtOk.put (wf_of (by kernel_rfl)) (LtOk.no _) l21_0))
def u21 (a0 : List (Ty.T y121)) : Option (AV × Sig) := if ((a0).length : Int) = ((a0).length : Int) then (if ((a0).length : Int).toNat * 192 <= 140737488351232 then (cond (k21_0 a0 [] 0 (List.replicate ((a0).length : Int).toNat ((0, 0, 0, 0, (0, 0, 0, 0, 0, 0, 0), (0, 0), (0, 0, 0, 0, 0, false, []), 0, 0) : Ty.T y102)) 0) (some (.one (.nl 4096), [(4096, .nst 103 y102 (w21_0 a0 [] 0 (List.replicate ((a0).length : Int).toNat ((0, 0, 0, 0, (0, 0, 0, 0, 0, 0, 0), (0, 0), (0, 0, 0, 0, 0, false, []), 0, 0) : Ty.T y102))).2.2.2.1)])) (none)) else none) else none
def v21 (a0 : List (Ty.T y121)) : (List (Ty.T y102)) := cond (k21_0 a0 [] 0 (List.replicate ((a0).length : Int).toNat ((0, 0, 0, 0, (0, 0, 0, 0, 0, 0, 0), (0, 0), (0, 0, 0, 0, 0, false, []), 0, 0) : Ty.T y102)) 0) ((w21_0 a0 [] 0 (List.replicate ((a0).length : Int).toNat ((0, 0, 0, 0, (0, 0, 0, 0, 0, 0, 0), (0, 0), (0, 0, 0, 0, 0, false, []), 0, 0) : Ty.T y102))).2.2.2.1) ([])
def d21 (a0 : List (Ty.T y121)) : Bool := decide (((a0).length : Int) = ((a0).length : Int)) && (decide (((a0).length : Int).toNat * 192 <= 140737488351232) && (cond (k21_0 a0 [] 0 (List.replicate ((a0).length : Int).toNat ((0, 0, 0, 0, (0, 0, 0, 0, 0, 0, 0), (0, 0), (0, 0, 0, 0, 0, false, []), 0, 0) : Ty.T y102)) 0) (true) (false)))
theorem o21 (a0 : List (Ty.T y121)) : u21 a0 = cond (d21 a0) (some (f21 (v21 a0))) none := (pI (pI (pC (pS _) (pN _))))
def p21 : Prim := ⟨[.one (.dat (.sl 122 y121) true)], fun v => .br (d21 v.1) (.done (f21 (v21 v.1))) .no⟩
theorem ok21 : PO 21 p21 := pK E21l fun v => Eq.trans (b := u21 v.1) (by kernel_rfl) (o21 v.1)
def f133 (r : Int × Int × Int × Int × Int × (Ty.T y96) × (Ty.T y98) × Int × Int × Int × Int × Int × Bool × Int × Int × Int × (List (Ty.T y48)) × (List (Ty.T y48))) : AV × Sig := (.agg ([.int .i64 r.1] ++ [.int .i64 r.2.1] ++ [.int .i64 r.2.2.1] ++ [.int .i64 r.2.2.2.1] ++ [.int .i64 r.2.2.2.2.1] ++ (y96.cells false r.2.2.2.2.2.1) ++ (y98.cells false r.2.2.2.2.2.2.1) ++ [.int .i64 r.2.2.2.2.2.2.2.1] ++ [.int .i64 r.2.2.2.2.2.2.2.2.1] ++ [.int .i64 r.2.2.2.2.2.2.2.2.2.1] ++ [.int .i64 r.2.2.2.2.2.2.2.2.2.2.1] ++ [.int .i64 r.2.2.2.2.2.2.2.2.2.2.2.1] ++ [.bool r.2.2.2.2.2.2.2.2.2.2.2.2.1] ++ [.sl 86016] ++ [.int .i64 r.2.2.2.2.2.2.2.2.2.2.2.2.2.1] ++ [.int .i64 r.2.2.2.2.2.2.2.2.2.2.2.2.2.2.1] ++ [.int .i64 r.2.2.2.2.2.2.2.2.2.2.2.2.2.2.2.1] ++ [.sl 102400]), [(86016, .arr 56 y48 r.2.2.2.2.2.2.2.2.2.2.2.2.2.2.2.2.1 false), (102400, .arr 56 y48 r.2.2.2.2.2.2.2.2.2.2.2.2.2.2.2.2.2 false)])
def E133 := (((E0.p ok164).p ok81)).n
def u133 (a0 : Ty.T y176) : Option (AV × Sig) := cond (d81 a0.2.1) (cond (d164 a0.2.2.2) (some (.agg [.int .i64 a0.1, .int .i64 (v81 a0.2.1).1, .int .i64 (v81 a0.2.1).2.1, .int .i64 (v81 a0.2.1).2.2.1, .int .i64 (v81 a0.2.1).2.2.2.1, .int .i64 (v81 a0.2.1).2.2.2.2.1.1, .int .i64 (v81 a0.2.1).2.2.2.2.1.2.1, .int .i64 (v81 a0.2.1).2.2.2.2.1.2.2.1, .int .i64 (v81 a0.2.1).2.2.2.2.1.2.2.2.1, .int .i64 (v81 a0.2.1).2.2.2.2.1.2.2.2.2.1, .int .i64 (v81 a0.2.1).2.2.2.2.1.2.2.2.2.2.1, .int .i64 (v81 a0.2.1).2.2.2.2.1.2.2.2.2.2.2, .int .i64 (v81 a0.2.1).2.2.2.2.2.1.1, .int .i64 (v81 a0.2.1).2.2.2.2.2.1.2, .int .i64 (v81 a0.2.1).2.2.2.2.2.2.1, .int .i64 (v81 a0.2.1).2.2.2.2.2.2.2.1, .int .i64 (v81 a0.2.1).2.2.2.2.2.2.2.2.1, .int .i64 (v81 a0.2.1).2.2.2.2.2.2.2.2.2.1, .int .i64 (v81 a0.2.1).2.2.2.2.2.2.2.2.2.2.1, .bool (v81 a0.2.1).2.2.2.2.2.2.2.2.2.2.2.1, .sl 86016, .int .i64 (v81 a0.2.1).2.2.2.2.2.2.2.2.2.2.2.2.1, .int .i64 (v81 a0.2.1).2.2.2.2.2.2.2.2.2.2.2.2.2.1, .int .i64 a0.2.2.1, .sl 102400], [(86016, .arr 56 y48 (v81 a0.2.1).2.2.2.2.2.2.2.2.2.2.2.2.2.2 false), (102400, .arr 56 y48 (v164 a0.2.2.2) false)])) (none)) (none)
def v133 (a0 : Ty.T y176) : Int × Int × Int × Int × Int × (Ty.T y96) × (Ty.T y98) × Int × Int × Int × Int × Int × Bool × Int × Int × Int × (List (Ty.T y48)) × (List (Ty.T y48)) := cond (d81 a0.2.1) (cond (d164 a0.2.2.2) ((a0.1, (v81 a0.2.1).1, (v81 a0.2.1).2.1, (v81 a0.2.1).2.2.1, (v81 a0.2.1).2.2.2.1, (v81 a0.2.1).2.2.2.2.1, (v81 a0.2.1).2.2.2.2.2.1, (v81 a0.2.1).2.2.2.2.2.2.1, (v81 a0.2.1).2.2.2.2.2.2.2.1, (v81 a0.2.1).2.2.2.2.2.2.2.2.1, (v81 a0.2.1).2.2.2.2.2.2.2.2.2.1, (v81 a0.2.1).2.2.2.2.2.2.2.2.2.2.1, (v81 a0.2.1).2.2.2.2.2.2.2.2.2.2.2.1, (v81 a0.2.1).2.2.2.2.2.2.2.2.2.2.2.2.1, (v81 a0.2.1).2.2.2.2.2.2.2.2.2.2.2.2.2.1, a0.2.2.1, (v81 a0.2.1).2.2.2.2.2.2.2.2.2.2.2.2.2.2, (v164 a0.2.2.2))) ((0, 0, 0, 0, 0, (0, 0, 0, 0, 0, 0, 0), (0, 0), 0, 0, 0, 0, 0, false, 0, 0, 0, [], []))) ((0, 0, 0, 0, 0, (0, 0, 0, 0, 0, 0, 0), (0, 0), 0, 0, 0, 0, 0, false, 0, 0, 0, [], []))
def d133 (a0 : Ty.T y176) : Bool := cond (d81 a0.2.1) (cond (d164 a0.2.2.2) (true) (false)) (false)
theorem o133 (a0 : Ty.T y176) : u133 a0 = cond (d133 a0) (some (f133 (v133 a0))) none := (pC (pC (by kernel_rfl) (pN _)) (pN _))
def p133 : Prim := ⟨[.agg [.dat y176 true]], fun v => .br (d133 v.1) (.done (f133 (v133 v.1))) .no⟩
theorem ok133 : PO 133 p133 := pK E133 fun v => Eq.trans (b := u133 v.1) (by kernel_rfl) (o133 v.1)
def f59 (r : (List (Ty.T y105))) : AV × Sig := (.one (.nl 4096), [(4096, .nst 106 y105 r)])
def E59 := ((E0.p ok133)).n
@[reducible] def ss59_0 : List SP := .one (.dat (.sl 177 y176) true) :: .und :: .one (.dat (.sl 106 y105) false) :: .one (.nest 7) :: oI :: U16 (U2 ([]))
@[reducible] def gs59_0 : List (Nat × GP) := [(7, .nst 106 y105)]
@[reducible] def V59_0 : Type := (List (Ty.T y176)) × (List (Ty.T y105)) × Int × (List (Ty.T y105)) × Unit
def t59_0 (v : V59_0) {Z : Type} (κ : Nat × V59_0 -> Option Z) : Option Z := cond (decide (v.2.2.1 < ((v.1).length : Int))) (if 0 <= v.2.2.1 then (optC ((v.1)[(v.2.2.1).toNat]?) (fun x1 => cond (d133 x1) (if 0 <= v.2.2.1 then (if v.2.2.1 < ((v.2.2.2.1).length : Int) then (optC ((v.2.2.2.1)[(v.2.2.1).toNat]?) (fun x2 => κ (0, (v.1, v.2.1, IntKind.wrap .i64 (v.2.2.1 + (1 : Int)), v.2.2.2.1.set ((v.2.2.1).toNat) ((v133 x1).1, ((v133 x1).2.1, (v133 x1).2.2.1, (v133 x1).2.2.2.1, (v133 x1).2.2.2.2.1, (v133 x1).2.2.2.2.2.1, (v133 x1).2.2.2.2.2.2.1, ((v133 x1).2.2.2.2.2.2.2.1, (v133 x1).2.2.2.2.2.2.2.2.1, (v133 x1).2.2.2.2.2.2.2.2.2.1, (v133 x1).2.2.2.2.2.2.2.2.2.2.1, (v133 x1).2.2.2.2.2.2.2.2.2.2.2.1, (v133 x1).2.2.2.2.2.2.2.2.2.2.2.2.1, (v133 x1).2.2.2.2.2.2.2.2.2.2.2.2.2.2.2.2.1), (v133 x1).2.2.2.2.2.2.2.2.2.2.2.2.2.1, (v133 x1).2.2.2.2.2.2.2.2.2.2.2.2.2.2.1), (v133 x1).2.2.2.2.2.2.2.2.2.2.2.2.2.2.2.1, (v133 x1).2.2.2.2.2.2.2.2.2.2.2.2.2.2.2.2.2), ())))) else none) else none) (none))) else none) (κ (1, (v.1, v.2.1, v.2.2.1, v.2.2.2.1, ())))
def s59_0 (v : V59_0) : Option (Nat × V59_0) := t59_0 v some
def n59_0 (v : V59_0) : Nat := v.1.length + v.2.1.length + v.2.2.1.toNat + v.2.2.2.1.length + 100
def k59_0 (h0 : List (Ty.T y176)) (h1 : List (Ty.T y105)) (h2 : Int) (h3 : List (Ty.T y105)) (c : Nat) : Bool := iK s59_0 n59_0 (h0, h1, h2, h3, ()) c
def w59_0 (h0 : List (Ty.T y176)) (h1 : List (Ty.T y105)) (h2 : Int) (h3 : List (Ty.T y105)) : V59_0 := iW s59_0 n59_0 (h0, h1, h2, h3, ())
def F59_0 (v : V59_0) : Ways (Ex × St) := waysOf s59_0 (n59_0 v) v (bldSt ss59_0 gs59_0) [.exit 0] 0
theorem l59_0 : LoopOk Tryz.prog (loopAt (pb 4 11) (bodyOf Tryz.f59)) ss59_0 gs59_0 F59_0 := loopOk_iter (lt := .none) E59.ok orders (LtOk.no _) fun n v K => Eq.trans (b := t59_0 v (kont _ _ _ _ _ K)) (by kernel_rfl) (show t59_0 v _ = (t59_0 v some).bind _ from (bC (bI (bO fun x1 => (bC (bI (bI (bO fun x2 => rfl))) rfl))) rfl))
def E59l := E59.l (g := 59) (t := (ltPut (pb 4 11) (bodyOf Tryz.f59) .none (.sum ss59_0 gs59_0 F59_0))) (ltOk_of Tryz.func59 (LtOk.put (wf_of (by kernel_rfl)) (LtOk.no _) l59_0))
def u59 (a0 : List (Ty.T y176)) : Option (AV × Sig) := if ((a0).length : Int) = ((a0).length : Int) then (if ((a0).length : Int).toNat * 232 <= 140737488351232 then (cond (k59_0 a0 [] 0 (List.replicate ((a0).length : Int).toNat ((0, (0, 0, 0, 0, (0, 0, 0, 0, 0, 0, 0), (0, 0), (0, 0, 0, 0, 0, false, []), 0, 0), 0, []) : Ty.T y105)) 0) (some (.one (.nl 4096), [(4096, .nst 106 y105 (w59_0 a0 [] 0 (List.replicate ((a0).length : Int).toNat ((0, (0, 0, 0, 0, (0, 0, 0, 0, 0, 0, 0), (0, 0), (0, 0, 0, 0, 0, false, []), 0, 0), 0, []) : Ty.T y105))).2.2.2.1)])) (none)) else none) else none
def v59 (a0 : List (Ty.T y176)) : (List (Ty.T y105)) := cond (k59_0 a0 [] 0 (List.replicate ((a0).length : Int).toNat ((0, (0, 0, 0, 0, (0, 0, 0, 0, 0, 0, 0), (0, 0), (0, 0, 0, 0, 0, false, []), 0, 0), 0, []) : Ty.T y105)) 0) ((w59_0 a0 [] 0 (List.replicate ((a0).length : Int).toNat ((0, (0, 0, 0, 0, (0, 0, 0, 0, 0, 0, 0), (0, 0), (0, 0, 0, 0, 0, false, []), 0, 0), 0, []) : Ty.T y105))).2.2.2.1) ([])
def d59 (a0 : List (Ty.T y176)) : Bool := decide (((a0).length : Int) = ((a0).length : Int)) && (decide (((a0).length : Int).toNat * 232 <= 140737488351232) && (cond (k59_0 a0 [] 0 (List.replicate ((a0).length : Int).toNat ((0, (0, 0, 0, 0, (0, 0, 0, 0, 0, 0, 0), (0, 0), (0, 0, 0, 0, 0, false, []), 0, 0), 0, []) : Ty.T y105)) 0) (true) (false)))
theorem o59 (a0 : List (Ty.T y176)) : u59 a0 = cond (d59 a0) (some (f59 (v59 a0))) none := (pI (pI (pC (pS _) (pN _))))
def p59 : Prim := ⟨[.one (.dat (.sl 177 y176) true)], fun v => .br (d59 v.1) (.done (f59 (v59 v.1))) .no⟩
theorem ok59 : PO 59 p59 := pK E59l fun v => Eq.trans (b := u59 v.1) (by kernel_rfl) (o59 v.1)
def f60 (r : (List (Ty.T (.int .i64)))) : AV × Sig := (.one (.sl 4096), [(4096, .arr 3 (.int .i64) r false)])
def E60 := (E0).n
@[reducible] def ss60_0 : List SP := .one (.dat (.sl 3 (.int .i64)) true) :: .und :: .one (.dat (.sl 3 (.int .i64)) false) :: .one (.own 7) :: oI :: U16 (.und :: [])
@[reducible] def gs60_0 : List (Nat × GP) := [(7, .arr 3 (.int .i64) false)]
@[reducible] def V60_0 : Type := (List (Ty.T (.int .i64))) × (List (Ty.T (.int .i64))) × Int × (List (Ty.T (.int .i64))) × Unit
def t60_0 (v : V60_0) {Z : Type} (κ : Nat × V60_0 -> Option Z) : Option Z := cond (decide (v.2.2.1 < ((v.1).length : Int))) (if 0 <= v.2.2.1 then (optC ((v.1)[(v.2.2.1).toNat]?) (fun x1 => if 0 <= v.2.2.1 then (if v.2.2.1 < ((v.2.2.2.1).length : Int) then (optC ((v.2.2.2.1)[(v.2.2.1).toNat]?) (fun x2 => κ (0, (v.1, v.2.1, IntKind.wrap .i64 (v.2.2.1 + (1 : Int)), v.2.2.2.1.set ((v.2.2.1).toNat) x1, ())))) else none) else none)) else none) (κ (1, (v.1, v.2.1, v.2.2.1, v.2.2.2.1, ())))
def s60_0 (v : V60_0) : Option (Nat × V60_0) := t60_0 v some
def n60_0 (v : V60_0) : Nat := v.1.length + v.2.1.length + v.2.2.1.toNat + v.2.2.2.1.length + 100
def k60_0 (h0 : List (Ty.T (.int .i64))) (h1 : List (Ty.T (.int .i64))) (h2 : Int) (h3 : List (Ty.T (.int .i64))) (c : Nat) : Bool := iK s60_0 n60_0 (h0, h1, h2, h3, ()) c
def w60_0 (h0 : List (Ty.T (.int .i64))) (h1 : List (Ty.T (.int .i64))) (h2 : Int) (h3 : List (Ty.T (.int .i64))) : V60_0 := iW s60_0 n60_0 (h0, h1, h2, h3, ())
def F60_0 (v : V60_0) : Ways (Ex × St) := waysOf s60_0 (n60_0 v) v (bldSt ss60_0 gs60_0) [.exit 0] 0
theorem l60_0 : LoopOk Tryz.prog (loopAt (pb 4 11) (bodyOf Tryz.f60)) ss60_0 gs60_0 F60_0 := loopOk_iter (lt := .none) E60.ok orders (LtOk.no _) fun n v K => Eq.trans (b := t60_0 v (kont _ _ _ _ _ K)) (by kernel_rfl) (show t60_0 v _ = (t60_0 v some).bind _ from (bC (bI (bO fun x1 => (bI (bI (bO fun x2 => rfl))))) rfl))
def E60l := E60.l (g := 60) (t := (ltPut (pb 4 11) (bodyOf Tryz.f60) .none (.sum ss60_0 gs60_0 F60_0))) (ltOk_of Tryz.func60 (LtOk.put (wf_of (by kernel_rfl)) (LtOk.no _) l60_0))
def u60 (a0 : List (Ty.T (.int .i64))) : Option (AV × Sig) := if ((a0).length : Int) = ((a0).length : Int) then (if ((a0).length : Int).toNat * 8 <= 140737488351232 then (cond (k60_0 a0 [] 0 (List.replicate ((a0).length : Int).toNat (0 : Ty.T (.int .i64))) 0) (some (.one (.sl 4096), [(4096, .arr 3 (.int .i64) (w60_0 a0 [] 0 (List.replicate ((a0).length : Int).toNat (0 : Ty.T (.int .i64)))).2.2.2.1 false)])) (none)) else none) else none
def v60 (a0 : List (Ty.T (.int .i64))) : (List (Ty.T (.int .i64))) := cond (k60_0 a0 [] 0 (List.replicate ((a0).length : Int).toNat (0 : Ty.T (.int .i64))) 0) ((w60_0 a0 [] 0 (List.replicate ((a0).length : Int).toNat (0 : Ty.T (.int .i64)))).2.2.2.1) ([])
def d60 (a0 : List (Ty.T (.int .i64))) : Bool := decide (((a0).length : Int) = ((a0).length : Int)) && (decide (((a0).length : Int).toNat * 8 <= 140737488351232) && (cond (k60_0 a0 [] 0 (List.replicate ((a0).length : Int).toNat (0 : Ty.T (.int .i64))) 0) (true) (false)))
theorem o60 (a0 : List (Ty.T (.int .i64))) : u60 a0 = cond (d60 a0) (some (f60 (v60 a0))) none := (pI (pI (pC (pS _) (pN _))))
def p60 : Prim := ⟨[.one (.dat (.sl 3 (.int .i64)) true)], fun v => .br (d60 v.1) (.done (f60 (v60 v.1))) .no⟩
theorem ok60 : PO 60 p60 := pK E60l fun v => Eq.trans (b := u60 v.1) (by kernel_rfl) (o60 v.1)
def f10 (r : Int × Int × (List (Ty.T y179)) × (List (Ty.T y181)) × (List (Ty.T y102)) × (List (Ty.T y105)) × (List (Ty.T (.int .i64)))) : AV × Sig := (.agg ([.sl 4096] ++ [.sl 8192] ++ [.int .i64 r.1] ++ [.int .i64 r.2.1] ++ [.nl 20480] ++ [.nl 24576] ++ [.sl 28672]), [(4096, .arr 180 y179 r.2.2.1 false), (8192, .arr 182 y181 r.2.2.2.1 false), (20480, .nst 103 y102 r.2.2.2.2.1), (24576, .nst 106 y105 r.2.2.2.2.2.1), (28672, .arr 3 (.int .i64) r.2.2.2.2.2.2 false)])
def E10 := (((((E0.p ok20).p ok21).p ok59).p ok60)).n
def u10 (a0 : Ty.T y29) : Option (AV × Sig) := cond (d20 a0.1) (cond (d21 a0.2.1) (cond (d59 a0.2.2.1) (cond (d60 a0.2.2.2) (some (.agg [.sl 4096, .sl 8192, .int .i64 (v20 a0.1).1, .int .i64 (v20 a0.1).2.1, .nl 20480, .nl 24576, .sl 28672], [(4096, .arr 180 y179 (v20 a0.1).2.2.1 false), (8192, .arr 182 y181 (v20 a0.1).2.2.2 false), (20480, .nst 103 y102 (v21 a0.2.1)), (24576, .nst 106 y105 (v59 a0.2.2.1)), (28672, .arr 3 (.int .i64) (v60 a0.2.2.2) false)])) (none)) (none)) (none)) (none)
def v10 (a0 : Ty.T y29) : Int × Int × (List (Ty.T y179)) × (List (Ty.T y181)) × (List (Ty.T y102)) × (List (Ty.T y105)) × (List (Ty.T (.int .i64))) := cond (d20 a0.1) (cond (d21 a0.2.1) (cond (d59 a0.2.2.1) (cond (d60 a0.2.2.2) (((v20 a0.1).1, (v20 a0.1).2.1, (v20 a0.1).2.2.1, (v20 a0.1).2.2.2, (v21 a0.2.1), (v59 a0.2.2.1), (v60 a0.2.2.2))) ((0, 0, [], [], [], [], []))) ((0, 0, [], [], [], [], []))) ((0, 0, [], [], [], [], []))) ((0, 0, [], [], [], [], []))
def d10 (a0 : Ty.T y29) : Bool := cond (d20 a0.1) (cond (d21 a0.2.1) (cond (d59 a0.2.2.1) (cond (d60 a0.2.2.2) (true) (false)) (false)) (false)) (false)
theorem o10 (a0 : Ty.T y29) : u10 a0 = cond (d10 a0) (some (f10 (v10 a0))) none := (pC (pC (pC (pC (pS _) (pN _)) (pN _)) (pN _)) (pN _))
def p10 : Prim := ⟨[.agg [.dat y29 true]], fun v => .br (d10 v.1) (.done (f10 (v10 v.1))) .no⟩
theorem ok10 : PO 10 p10 := pK E10 fun v => Eq.trans (b := u10 v.1) (by kernel_rfl) (o10 v.1)
def f99 (r : Bool) : AV × Sig := (.one (.bool r), [])
def E99 := E0
def u99 (a0 : Int) (a1 : Int) (a2 : Int) : Option (AV × Sig) := cond (decide (a0 ≥ a1)) (some (.one (.bool (decide (a0 <= a2))), [])) (some (.one (.bool false), []))
def v99 (a0 : Int) (a1 : Int) (a2 : Int) : Bool := cond (decide (a0 ≥ a1)) (decide (a0 <= a2)) (false)
theorem o99 (a0 : Int) (a1 : Int) (a2 : Int) : u99 a0 a1 a2 = some (f99 (v99 a0 a1 a2)) := (tC rfl rfl)
def p99 : Prim := ⟨[oI, oI, oI], fun v => .done (f99 (v99 v.1 v.2.1 v.2.2.1))⟩
theorem ok99 : PO 99 p99 := pK E99 fun v => Eq.trans (b := u99 v.1 v.2.1 v.2.2.1) (by kernel_rfl) (o99 v.1 v.2.1 v.2.2.1)
def f166 (r : Bool) : AV × Sig := (.one (.bool r), [])
def E166 := (E0.p ok99)
def u166 (a0 : Ty.T y36) (a1 : Int) : Option (AV × Sig) := some (.one (.bool (v99 a1 0 (IntKind.wrap .i64 (((a0.2.1).length : Int) - (1 : Int))))), [])
def v166 (a0 : Ty.T y36) (a1 : Int) : Bool := (v99 a1 0 (IntKind.wrap .i64 (((a0.2.1).length : Int) - (1 : Int))))
theorem o166 (a0 : Ty.T y36) (a1 : Int) : u166 a0 a1 = some (f166 (v166 a0 a1)) := rfl
def p166 : Prim := ⟨[.agg [.dat y36 true], oI], fun v => .done (f166 (v166 v.1 v.2.1))⟩
theorem ok166 : PO 166 p166 := pK E166 fun v => Eq.trans (b := u166 v.1 v.2.1) (by kernel_rfl) (o166 v.1 v.2.1)
def f167 (r : Bool) : AV × Sig := (.one (.bool r), [])
def E167 := (E0.p ok99)
def u167 (a0 : Int) : Option (AV × Sig) := some (.one (.bool (v99 a0 0 9999)), [])
def v167 (a0 : Int) : Bool := (v99 a0 0 9999)
theorem o167 (a0 : Int) : u167 a0 = some (f167 (v167 a0)) := rfl
def p167 : Prim := ⟨[oI], fun v => .done (f167 (v167 v.1))⟩
theorem ok167 : PO 167 p167 := pK E167 fun v => Eq.trans (b := u167 v.1) (by kernel_rfl) (o167 v.1)
def f171 (r : Bool) : AV × Sig := (.one (.bool r), [])
def E171 := (E0.p ok99)
def u171 (a0 : Int) : Option (AV × Sig) := some (.one (.bool (v99 a0 0 2147483647)), [])
def v171 (a0 : Int) : Bool := (v99 a0 0 2147483647)
theorem o171 (a0 : Int) : u171 a0 = some (f171 (v171 a0)) := rfl
def p171 : Prim := ⟨[oI], fun v => .done (f171 (v171 v.1))⟩
theorem ok171 : PO 171 p171 := pK E171 fun v => Eq.trans (b := u171 v.1) (by kernel_rfl) (o171 v.1)
def f172 (r : Bool) : AV × Sig := (.one (.bool r), [])
def E172 := (E0.p ok99)
def u172 (a0 : Int) : Option (AV × Sig) := some (.one (.bool (v99 a0 1 99)), [])
def v172 (a0 : Int) : Bool := (v99 a0 1 99)
theorem o172 (a0 : Int) : u172 a0 = some (f172 (v172 a0)) := rfl
def p172 : Prim := ⟨[oI], fun v => .done (f172 (v172 v.1))⟩
theorem ok172 : PO 172 p172 := pK E172 fun v => Eq.trans (b := u172 v.1) (by kernel_rfl) (o172 v.1)
def f175 (r : Bool) : AV × Sig := (.one (.bool r), [])
def E175 := (E0.p ok99)
def u175 (a0 : Int) : Option (AV × Sig) := some (.one (.bool (v99 a0 1 4)), [])
def v175 (a0 : Int) : Bool := (v99 a0 1 4)
theorem o175 (a0 : Int) : u175 a0 = some (f175 (v175 a0)) := rfl
def p175 : Prim := ⟨[oI], fun v => .done (f175 (v175 v.1))⟩
theorem ok175 : PO 175 p175 := pK E175 fun v => Eq.trans (b := u175 v.1) (by kernel_rfl) (o175 v.1)
def f220 (r : Bool) : AV × Sig := (.one (.bool r), [])
def E220 := (E0.p ok99)
def u220 (a0 : Int) : Option (AV × Sig) := some (.one (.bool (v99 a0 0 2)), [])
def v220 (a0 : Int) : Bool := (v99 a0 0 2)
theorem o220 (a0 : Int) : u220 a0 = some (f220 (v220 a0)) := rfl
def p220 : Prim := ⟨[oI], fun v => .done (f220 (v220 v.1))⟩
theorem ok220 : PO 220 p220 := pK E220 fun v => Eq.trans (b := u220 v.1) (by kernel_rfl) (o220 v.1)
def f221 (r : Bool) : AV × Sig := (.one (.bool r), [])
def E221 := (E0.p ok99)
def u221 (a0 : Int) : Option (AV × Sig) := some (.one (.bool (v99 a0 0 63)), [])
def v221 (a0 : Int) : Bool := (v99 a0 0 63)
theorem o221 (a0 : Int) : u221 a0 = some (f221 (v221 a0)) := rfl
def p221 : Prim := ⟨[oI], fun v => .done (f221 (v221 v.1))⟩
theorem ok221 : PO 221 p221 := pK E221 fun v => Eq.trans (b := u221 v.1) (by kernel_rfl) (o221 v.1)
def f168 (r : Bool) : AV × Sig := (.one (.bool r), [])
def E168 := (((((((E0.p ok167).p ok171).p ok172).p ok175).p ok220).p ok221).p ok99)
def t168 (a0 : Ty.T y179) {Z : Type} (κ : Bool -> Z) : Z := cond (!(v172 a0.1)) (κ false) (cond (!(v220 a0.2.1)) (κ false) (cond (!(v220 a0.2.2.1)) (κ false) (cond (!(v175 a0.2.2.2.1)) (κ false) (cond (!(v167 a0.2.2.2.2.1)) (κ false) (cond (!(v99 a0.2.2.2.2.2.1 0 999)) (κ false) (cond (!(v99 a0.2.2.2.2.2.2.1 0 999)) (κ false) (cond (!(v221 a0.2.2.2.2.2.2.2.1)) (κ false) (cond (a0.2.2.2.1 != (2 : Int)) (cond (a0.2.2.1 == a0.2.1) (cond (a0.2.2.2.2.2.2.2.2.1 == (0 : Int)) (cond (a0.2.2.2.2.2.2.2.2.2.1 == (0 : Int)) (cond (a0.2.2.2.2.2.2.2.2.2.2.1 == (0 : Int)) (cond (!a0.2.2.2.2.2.2.2.2.2.2.2.1) (κ (!a0.2.2.2.2.2.2.2.2.2.2.2.2)) (κ false)) (κ false)) (κ false)) (κ false)) (κ false)) (cond (v171 a0.2.2.2.2.2.2.2.2.1) (cond (v171 a0.2.2.2.2.2.2.2.2.2.1) (κ (v171 a0.2.2.2.2.2.2.2.2.2.2.1)) (κ false)) (κ false))))))))))
def v168 (a0 : Ty.T y179) : Bool := t168 a0 fun r => r
def p168 : Prim := ⟨[.agg [.dat y179 true]], fun v => .done (f168 (v168 v.1))⟩
theorem ok168 : PO 168 p168 := pK E168 fun v => Eq.trans (b := (t168 v.1 (sm f168))) (by kernel_rfl) (show t168 v.1 (sm f168) = some (f168 (t168 v.1 fun r => r)) from (tC rfl (tC rfl (tC rfl (tC rfl (tC rfl (tC rfl (tC rfl (tC rfl (tC (tC (tC (tC (tC (tC rfl rfl) rfl) rfl) rfl) rfl) (tC (tC rfl rfl) rfl)))))))))))
def f139 (r : Int) : AV × Sig := (.one (.int .i64 r), [])
def E139 := E0
def u139 (a0 : Int) : Option (AV × Sig) := some (.one (.int .i64 (if (if (2147483647 : Int) < a0 then 2147483647 else a0) > (-2147483647 : Int) then if (2147483647 : Int) < a0 then 2147483647 else a0 else (-2147483647))), [])
def v139 (a0 : Int) : Int := if (if (2147483647 : Int) < a0 then 2147483647 else a0) > (-2147483647 : Int) then if (2147483647 : Int) < a0 then 2147483647 else a0 else (-2147483647)
theorem o139 (a0 : Int) : u139 a0 = some (f139 (v139 a0)) := rfl
def p139 : Prim := ⟨[oI], fun v => .done (f139 (v139 v.1))⟩
theorem ok139 : PO 139 p139 := pK E139 fun v => Eq.trans (b := u139 v.1) (by kernel_rfl) (o139 v.1)
def f170 (r : Bool) : AV × Sig := (.one (.bool r), [])
def E170 := ((E0.p ok139).p ok171)
def u170 (a0 : Ty.T y181) : Option (AV × Sig) := cond ((v139 a0.1) != a0.1) (some (.one (.bool true), [])) (some (.one (.bool (!(v171 a0.2.1))), []))
def v170 (a0 : Ty.T y181) : Bool := cond ((v139 a0.1) != a0.1) (true) (!(v171 a0.2.1))
theorem o170 (a0 : Ty.T y181) : u170 a0 = some (f170 (v170 a0)) := (tC rfl rfl)
def p170 : Prim := ⟨[.agg [.dat y181 true]], fun v => .done (f170 (v170 v.1))⟩
theorem ok170 : PO 170 p170 := pK E170 fun v => Eq.trans (b := u170 v.1) (by kernel_rfl) (o170 v.1)
def f222c1 (r : Int) : AV × Sig := (.one (.int .i64 r), [])
def E222c1 := (E0.p ok170)
@[reducible] def ss222c1_0 : List SP := .one (.dat (.sl 182 y181) true) :: .one (.fnc 170 []) :: U2 (oI :: U2 (oI :: oI :: U8 (U2 ([]))))
@[reducible] def V222c1_0 : Type := (List (Ty.T y181)) × Int × Int × Int × Unit
def t222c1_0 (v : V222c1_0) {Z : Type} (κ : Nat × V222c1_0 -> Option Z) : Option Z := cond (decide (v.2.2.2.1 < v.2.2.1)) (if 0 <= v.2.2.2.1 then (optC ((v.1)[(v.2.2.2.1).toNat]?) (fun x1 => cond (v170 x1) (κ (1, (v.1, v.2.2.2.1, v.2.2.1, v.2.2.2.1, ()))) (κ (0, (v.1, v.2.1, v.2.2.1, IntKind.wrap .i64 (v.2.2.2.1 + (1 : Int)), ()))))) else none) (κ (2, (v.1, v.2.1, v.2.2.1, v.2.2.2.1, ())))
def s222c1_0 (v : V222c1_0) : Option (Nat × V222c1_0) := t222c1_0 v some
def n222c1_0 (v : V222c1_0) : Nat := v.1.length + v.2.1.toNat + v.2.2.1.toNat + v.2.2.2.1.toNat + 100
def k222c1_0 (h0 : List (Ty.T y181)) (h1 : Int) (h2 : Int) (h3 : Int) (c : Nat) : Bool := iK s222c1_0 n222c1_0 (h0, h1, h2, h3, ()) c
def w222c1_0 (h0 : List (Ty.T y181)) (h1 : Int) (h2 : Int) (h3 : Int) : V222c1_0 := iW s222c1_0 n222c1_0 (h0, h1, h2, h3, ())
def F222c1_0 (v : V222c1_0) : Ways (Ex × St) := waysOf s222c1_0 (n222c1_0 v) v (bldSt ss222c1_0 gs18_0) [.ret, .exit 0] 0
theorem l222c1_0 : LoopOk Tryz.prog (loopAt (pb 3 5) (bodyOf Tryz.f222)) ss222c1_0 gs18_0 F222c1_0 := loopOk_iter (lt := .none) E222c1.ok orders (LtOk.no _) fun n v K => Eq.trans (b := t222c1_0 v (kont _ _ _ _ _ K)) (by kernel_rfl) (show t222c1_0 v _ = (t222c1_0 v some).bind _ from (bC (bI (bO fun x1 => (bC rfl rfl))) rfl))
def E222c1l := E222c1.l (g := 222) (t := (ltPut (pb 3 5) (bodyOf Tryz.f222) .none (.sum ss222c1_0 gs18_0 F222c1_0))) (ltOk_of Tryz.func222 (LtOk.put (wf_of (by kernel_rfl)) (LtOk.no _) l222c1_0))
def u222c1 (a0 : List (Ty.T y181)) : Option (AV × Sig) := cond (k222c1_0 a0 0 ((a0).length : Int) 0 0) (some (.one (.int .i64 (w222c1_0 a0 0 ((a0).length : Int) 0).2.1), [])) (cond (k222c1_0 a0 0 ((a0).length : Int) 0 1) (some (.one (.int .i64 (-1)), [])) (none))
def v222c1 (a0 : List (Ty.T y181)) : Int := cond (k222c1_0 a0 0 ((a0).length : Int) 0 0) ((w222c1_0 a0 0 ((a0).length : Int) 0).2.1) (cond (k222c1_0 a0 0 ((a0).length : Int) 0 1) ((-1)) (0))
def d222c1 (a0 : List (Ty.T y181)) : Bool := cond (k222c1_0 a0 0 ((a0).length : Int) 0 0) (true) (cond (k222c1_0 a0 0 ((a0).length : Int) 0 1) (true) (false))
theorem o222c1 (a0 : List (Ty.T y181)) : u222c1 a0 = cond (d222c1 a0) (some (f222c1 (v222c1 a0))) none := (pC (pS _) (pC (pS _) (pN _)))
def p222c1 : Prim := ⟨[.one (.dat (.sl 182 y181) true), .one (.fnc 170 [])], fun v => .br (d222c1 v.1) (.done (f222c1 (v222c1 v.1))) .no⟩
theorem ok222c1 : PO 222 p222c1 := pK E222c1l fun v => Eq.trans (b := u222c1 v.1) (by kernel_rfl) (o222c1 v.1)
def f169c1 (r : Bool) : AV × Sig := (.one (.bool r), [])
def E169c1 := (E0.p ok222c1)
def u169c1 (a0 : List (Ty.T y181)) : Option (AV × Sig) := cond (d222c1 a0) (some (.one (.bool (decide ((v222c1 a0) ≥ (0 : Int)))), [])) (none)
def v169c1 (a0 : List (Ty.T y181)) : Bool := cond (d222c1 a0) (decide ((v222c1 a0) ≥ (0 : Int))) (false)
def d169c1 (a0 : List (Ty.T y181)) : Bool := cond (d222c1 a0) (true) (false)
theorem o169c1 (a0 : List (Ty.T y181)) : u169c1 a0 = cond (d169c1 a0) (some (f169c1 (v169c1 a0))) none := (pC (pS _) (pN _))
def p169c1 : Prim := ⟨[.one (.dat (.sl 182 y181) true), .one (.fnc 170 [])], fun v => .br (d169c1 v.1) (.done (f169c1 (v169c1 v.1))) .no⟩
theorem ok169c1 : PO 169 p169c1 := pK E169c1 fun v => Eq.trans (b := u169c1 v.1) (by kernel_rfl) (o169c1 v.1)
def f95 (r : Bool) : AV × Sig := (.one (.bool r), [])
def E95 := (((((E0.p ok169c1).p ok166).p ok167).p ok168).p ok99)
@[reducible] def ss95_0 : List SP := .und :: .one (.ptr 1 0) :: .one (.dat .bool true) :: U16 (U8 (U2 (.und :: .one (.dat (.sl 180 y179) true) :: oI :: oI :: U32 (U16 (.und :: [])))))
@[reducible] def V95_0 : Type := Bool × (List (Ty.T y179)) × Int × Int × (Ty.T y36) × Unit
def t95_0 (v : V95_0) {Z : Type} (κ : Nat × V95_0 -> Option Z) : Option Z := cond (decide (v.2.2.2.1 < v.2.2.1)) (if 0 <= v.2.2.2.1 then (optC ((v.2.1)[(v.2.2.2.1).toNat]?) (fun x1 => cond (!(v168 x1)) (κ (1, (false, v.2.1, v.2.2.1, v.2.2.2.1, v.2.2.2.2.1, ()))) (cond (!(v166 v.2.2.2.2.1 x1.2.1)) (κ (1, (false, v.2.1, v.2.2.1, v.2.2.2.1, v.2.2.2.2.1, ()))) (cond (!(v166 v.2.2.2.2.1 x1.2.2.1)) (κ (1, (false, v.2.1, v.2.2.1, v.2.2.2.1, v.2.2.2.2.1, ()))) (cond (decide (x1.2.2.2.2.1 > v.2.2.2.2.1.2.2.2)) (κ (1, (false, v.2.1, v.2.2.1, v.2.2.2.1, v.2.2.2.2.1, ()))) (cond (decide (v.2.2.2.1 > (0 : Int))) (if 0 <= (IntKind.wrap .i64 (v.2.2.2.1 - (1 : Int))) then (optC ((v.2.2.2.2.1.1)[(IntKind.wrap .i64 (v.2.2.2.1 - (1 : Int))).toNat]?) (fun x2 => cond (decide (x2.1 ≥ x1.1)) (κ (1, (false, v.2.1, v.2.2.1, v.2.2.2.1, v.2.2.2.2.1, ()))) (κ (0, (v.1, v.2.1, v.2.2.1, IntKind.wrap .i64 (v.2.2.2.1 + (1 : Int)), v.2.2.2.2.1, ()))))) else none) (κ (0, (v.1, v.2.1, v.2.2.1, IntKind.wrap .i64 (v.2.2.2.1 + (1 : Int)), v.2.2.2.2.1, ()))))))))) else none) (κ (2, (v.1, v.2.1, v.2.2.1, v.2.2.2.1, v.2.2.2.2.1, ())))
def s95_0 (v : V95_0) : Option (Nat × V95_0) := t95_0 v some
def n95_0 (v : V95_0) : Nat := v.2.1.length + v.2.2.1.toNat + v.2.2.2.1.toNat + v.2.2.2.2.1.1.length + v.2.2.2.2.1.2.1.length + 100
def k95_0 (h0 : Bool) (h1 : List (Ty.T y179)) (h2 : Int) (h3 : Int) (h4 : Ty.T y36) (c : Nat) : Bool := iK s95_0 n95_0 (h0, h1, h2, h3, h4, ()) c
def w95_0 (h0 : Bool) (h1 : List (Ty.T y179)) (h2 : Int) (h3 : Int) (h4 : Ty.T y36) : V95_0 := iW s95_0 n95_0 (h0, h1, h2, h3, h4, ())
def F95_0 (v : V95_0) : Ways (Ex × St) := waysOf s95_0 (n95_0 v) v (bldSt ss95_0 gs125_0) [.ret, .exit 0] 0
theorem l95_0 : LoopOk Tryz.prog (loopAt (pb 4 11) (bodyOf Tryz.f95)) ss95_0 gs125_0 F95_0 := loopOk_iter (lt := .none) E95.ok orders (LtOk.no _) fun n v K => Eq.trans (b := t95_0 v (kont _ _ _ _ _ K)) (by kernel_rfl) (show t95_0 v _ = (t95_0 v some).bind _ from (bC (bI (bO fun x1 => (bC rfl (bC rfl (bC rfl (bC rfl (bC (bI (bO fun x2 => (bC rfl rfl))) rfl))))))) rfl))
def E95l := E95.l (g := 95) (t := (ltPut (pb 4 11) (bodyOf Tryz.f95) .none (.sum ss95_0 gs125_0 F95_0))) (ltOk_of Tryz.func95 (LtOk.put (wf_of (by kernel_rfl)) (LtOk.no _) l95_0))
def t95 (a0 : Ty.T y36) {Z : Type} (κ : Bool -> Option Z) : Option Z := cond (decide (((a0.1).length : Int) > (8 : Int))) (κ false) (cond (!(v99 ((a0.2.1).length : Int) 2 3)) (κ false) (cond (!(v166 a0 a0.2.2.1)) (κ false) (cond (!(v167 a0.2.2.2)) (κ false) (cond (k95_0 false a0.1 ((a0.1).length : Int) 0 a0 0) (κ (w95_0 false a0.1 ((a0.1).length : Int) 0 a0).1) (cond (k95_0 false a0.1 ((a0.1).length : Int) 0 a0 1) (cond (d169c1 (w95_0 false a0.1 ((a0.1).length : Int) 0 a0).2.2.2.2.1.2.1) (κ (!(v169c1 (w95_0 false a0.1 ((a0.1).length : Int) 0 a0).2.2.2.2.1.2.1))) (none)) (none))))))
def v95 (a0 : Ty.T y36) : Bool := (t95 a0 some).getD false
def d95 (a0 : Ty.T y36) : Bool := (t95 a0 some).isSome
def p95 : Prim := ⟨[.agg [.dat y36 true]], fun v => .br (d95 v.1) (.done (f95 (v95 v.1))) .no⟩
theorem ok95 : PO 95 p95 := pK E95l fun v => Eq.trans (b := (t95 v.1 (sm f95))) (by kernel_rfl) (run_fin (show t95 v.1 (sm f95) = (t95 v.1 some).bind _ from by unfold t95; simp only [bb]))
def f259 (r : Bool) : AV × Sig := (.one (.bool r), [])
def E259 := (E0.p ok99)
def u259 (a0 : Int) : Option (AV × Sig) := some (.one (.bool (v99 a0 1 6)), [])
def v259 (a0 : Int) : Bool := (v99 a0 1 6)
theorem o259 (a0 : Int) : u259 a0 = some (f259 (v259 a0)) := rfl
def p259 : Prim := ⟨[oI], fun v => .done (f259 (v259 v.1))⟩
theorem ok259 : PO 259 p259 := pK E259 fun v => Eq.trans (b := u259 v.1) (by kernel_rfl) (o259 v.1)
def f223 (r : Bool) : AV × Sig := (.one (.bool r), [])
def E223 := ((((E0.p ok171).p ok221).p ok259).p ok99)
def t223 (a0 : Ty.T y96) {Z : Type} (κ : Bool -> Z) : Z := cond (!(v259 a0.1)) (κ false) (cond (!(v99 a0.2.1 0 2)) (κ false) (cond (!(v99 a0.2.2.1 0 99)) (κ false) (cond (!(v221 a0.2.2.2.1)) (κ false) (cond (!(v99 a0.2.2.2.2.1 0 99)) (κ false) (cond (!(v171 a0.2.2.2.2.2.1)) (κ false) (cond (!(v99 a0.2.2.2.2.2.2 0 4)) (κ false) (cond (a0.1 != (1 : Int)) (cond (a0.2.2.1 != (0 : Int)) (κ false) (cond (a0.2.2.2.1 != (0 : Int)) (κ false) (cond (a0.1 != (2 : Int)) (cond (a0.2.2.2.2.2.2 != (0 : Int)) (κ false) (cond (a0.2.2.2.2.1 == (0 : Int)) (κ true) (cond (a0.1 != (3 : Int)) (κ (a0.1 != (4 : Int))) (κ false)))) (cond (a0.2.2.2.2.1 == (0 : Int)) (κ true) (cond (a0.1 != (3 : Int)) (κ (a0.1 != (4 : Int))) (κ false)))))) (cond (a0.1 != (2 : Int)) (cond (a0.2.2.2.2.2.2 != (0 : Int)) (κ false) (cond (a0.2.2.2.2.1 == (0 : Int)) (κ true) (cond (a0.1 != (3 : Int)) (κ (a0.1 != (4 : Int))) (κ false)))) (cond (a0.2.2.2.2.1 == (0 : Int)) (κ true) (cond (a0.1 != (3 : Int)) (κ (a0.1 != (4 : Int))) (κ false)))))))))))
def v223 (a0 : Ty.T y96) : Bool := t223 a0 fun r => r
def p223 : Prim := ⟨[.agg [.dat y96 true]], fun v => .done (f223 (v223 v.1))⟩
theorem ok223 : PO 223 p223 := pK E223 fun v => Eq.trans (b := (t223 v.1 (sm f223))) (by kernel_rfl) (show t223 v.1 (sm f223) = some (f223 (t223 v.1 fun r => r)) from (tC rfl (tC rfl (tC rfl (tC rfl (tC rfl (tC rfl (tC rfl (tC (tC rfl (tC rfl (tC (tC rfl (tC rfl (tC rfl rfl))) (tC rfl (tC rfl rfl))))) (tC (tC rfl (tC rfl (tC rfl rfl))) (tC rfl (tC rfl rfl))))))))))))
def f224 (r : Bool) : AV × Sig := (.one (.bool r), [])
def E224 := ((E0.p ok139).p ok99)
def t224 (a0 : Ty.T y98) {Z : Type} (κ : Bool -> Z) : Z := cond (a0.1 == (0 : Int)) (cond (a0.1 == (0 : Int)) (κ (a0.2 == (0 : Int))) (cond (a0.1 == (1 : Int)) (κ ((v139 a0.2) == a0.2)) (cond (a0.1 == (2 : Int)) (cond (a0.1 == (2 : Int)) (κ (v99 a0.2 0 8)) (κ false)) (cond (a0.1 == (4 : Int)) (κ (v99 a0.2 0 8)) (κ false))))) (cond (a0.1 == (3 : Int)) (κ (a0.2 == (0 : Int))) (cond (a0.1 == (1 : Int)) (κ ((v139 a0.2) == a0.2)) (cond (a0.1 == (2 : Int)) (cond (a0.1 == (2 : Int)) (κ (v99 a0.2 0 8)) (κ false)) (cond (a0.1 == (4 : Int)) (κ (v99 a0.2 0 8)) (κ false)))))
def v224 (a0 : Ty.T y98) : Bool := t224 a0 fun r => r
def p224 : Prim := ⟨[.agg [.dat y98 true]], fun v => .done (f224 (v224 v.1))⟩
theorem ok224 : PO 224 p224 := pK E224 fun v => Eq.trans (b := (t224 v.1 (sm f224))) (by kernel_rfl) (show t224 v.1 (sm f224) = some (f224 (t224 v.1 fun r => r)) from (tC (tC rfl (tC rfl (tC (tC rfl rfl) (tC rfl rfl)))) (tC rfl (tC rfl (tC (tC rfl rfl) (tC rfl rfl))))))
def f173 (r : Bool) : AV × Sig := (.one (.bool r), [])
def E173 := (E0.p ok172)
def u173 (a0 : Ty.T y48) : Option (AV × Sig) := cond (v172 a0.2.2.1) (some (.one (.bool (a0.2.2.2.1 == (-1 : Int))), [])) (some (.one (.bool false), []))
def v173 (a0 : Ty.T y48) : Bool := cond (v172 a0.2.2.1) ((a0.2.2.2.1 == (-1 : Int))) (false)
theorem o173 (a0 : Ty.T y48) : u173 a0 = some (f173 (v173 a0)) := (tC rfl rfl)
def p173 : Prim := ⟨[.agg [.dat y48 true]], fun v => .done (f173 (v173 v.1))⟩
theorem ok173 : PO 173 p173 := pK E173 fun v => Eq.trans (b := u173 v.1) (by kernel_rfl) (o173 v.1)
def f174 (r : Bool) : AV × Sig := (.one (.bool r), [])
def E174 := (E0.p ok220)
def u174 (a0 : Ty.T y48) : Option (AV × Sig) := cond (a0.2.2.1 == (0 : Int)) (some (.one (.bool (v220 a0.2.2.2.1)), [])) (some (.one (.bool false), []))
def v174 (a0 : Ty.T y48) : Bool := cond (a0.2.2.1 == (0 : Int)) ((v220 a0.2.2.2.1)) (false)
theorem o174 (a0 : Ty.T y48) : u174 a0 = some (f174 (v174 a0)) := (tC rfl rfl)
def p174 : Prim := ⟨[.agg [.dat y48 true]], fun v => .done (f174 (v174 v.1))⟩
theorem ok174 : PO 174 p174 := pK E174 fun v => Eq.trans (b := u174 v.1) (by kernel_rfl) (o174 v.1)
def f96 (r : Bool) : AV × Sig := (.one (.bool r), [])
def E96 := (((((E0.p ok171).p ok172).p ok173).p ok174).p ok175)
def t96 (a0 : Ty.T y48) {Z : Type} (κ : Bool -> Z) : Z := cond (!(v171 a0.2.2.2.2.1)) (κ false) (cond (a0.1 != (1 : Int)) (cond (a0.2.1 != (0 : Int)) (κ false) (cond (a0.1 != (2 : Int)) (cond (a0.2.2.2.2.2.1 != (0 : Int)) (κ false) (cond a0.2.2.2.2.2.2 (κ false) (cond (a0.1 == (1 : Int)) (cond (v172 a0.2.1) (cond (v173 a0) (κ true) (κ (v174 a0))) (κ false)) (cond (a0.1 == (2 : Int)) (cond (a0.2.2.2.2.2.1 == (2 : Int)) (cond (v173 a0) (κ (decide (a0.2.2.2.2.1 <= (99 : Int)))) (κ false)) (cond (v173 a0) (cond (v175 a0.2.2.2.2.2.1) (cond (a0.2.2.2.2.1 == (0 : Int)) (κ (!a0.2.2.2.2.2.2)) (κ false)) (κ false)) (κ false))) (cond (a0.1 == (3 : Int)) (cond (a0.1 == (3 : Int)) (κ (v174 a0)) (cond (a0.1 == (5 : Int)) (cond (a0.1 == (5 : Int)) (κ (v173 a0)) (κ false)) (cond (a0.1 == (6 : Int)) (κ (v173 a0)) (κ false)))) (cond (a0.1 == (4 : Int)) (κ (v174 a0)) (cond (a0.1 == (5 : Int)) (cond (a0.1 == (5 : Int)) (κ (v173 a0)) (κ false)) (cond (a0.1 == (6 : Int)) (κ (v173 a0)) (κ false))))))))) (cond (a0.1 == (1 : Int)) (cond (v172 a0.2.1) (cond (v173 a0) (κ true) (κ (v174 a0))) (κ false)) (cond (a0.1 == (2 : Int)) (cond (a0.2.2.2.2.2.1 == (2 : Int)) (cond (v173 a0) (κ (decide (a0.2.2.2.2.1 <= (99 : Int)))) (κ false)) (cond (v173 a0) (cond (v175 a0.2.2.2.2.2.1) (cond (a0.2.2.2.2.1 == (0 : Int)) (κ (!a0.2.2.2.2.2.2)) (κ false)) (κ false)) (κ false))) (cond (a0.1 == (3 : Int)) (cond (a0.1 == (3 : Int)) (κ (v174 a0)) (cond (a0.1 == (5 : Int)) (cond (a0.1 == (5 : Int)) (κ (v173 a0)) (κ false)) (cond (a0.1 == (6 : Int)) (κ (v173 a0)) (κ false)))) (cond (a0.1 == (4 : Int)) (κ (v174 a0)) (cond (a0.1 == (5 : Int)) (cond (a0.1 == (5 : Int)) (κ (v173 a0)) (κ false)) (cond (a0.1 == (6 : Int)) (κ (v173 a0)) (κ false))))))))) (cond (a0.1 != (2 : Int)) (cond (a0.2.2.2.2.2.1 != (0 : Int)) (κ false) (cond a0.2.2.2.2.2.2 (κ false) (cond (a0.1 == (1 : Int)) (cond (v172 a0.2.1) (cond (v173 a0) (κ true) (κ (v174 a0))) (κ false)) (cond (a0.1 == (2 : Int)) (cond (a0.2.2.2.2.2.1 == (2 : Int)) (cond (v173 a0) (κ (decide (a0.2.2.2.2.1 <= (99 : Int)))) (κ false)) (cond (v173 a0) (cond (v175 a0.2.2.2.2.2.1) (cond (a0.2.2.2.2.1 == (0 : Int)) (κ (!a0.2.2.2.2.2.2)) (κ false)) (κ false)) (κ false))) (cond (a0.1 == (3 : Int)) (cond (a0.1 == (3 : Int)) (κ (v174 a0)) (cond (a0.1 == (5 : Int)) (cond (a0.1 == (5 : Int)) (κ (v173 a0)) (κ false)) (cond (a0.1 == (6 : Int)) (κ (v173 a0)) (κ false)))) (cond (a0.1 == (4 : Int)) (κ (v174 a0)) (cond (a0.1 == (5 : Int)) (cond (a0.1 == (5 : Int)) (κ (v173 a0)) (κ false)) (cond (a0.1 == (6 : Int)) (κ (v173 a0)) (κ false))))))))) (cond (a0.1 == (1 : Int)) (cond (v172 a0.2.1) (cond (v173 a0) (κ true) (κ (v174 a0))) (κ false)) (cond (a0.1 == (2 : Int)) (cond (a0.2.2.2.2.2.1 == (2 : Int)) (cond (v173 a0) (κ (decide (a0.2.2.2.2.1 <= (99 : Int)))) (κ false)) (cond (v173 a0) (cond (v175 a0.2.2.2.2.2.1) (cond (a0.2.2.2.2.1 == (0 : Int)) (κ (!a0.2.2.2.2.2.2)) (κ false)) (κ false)) (κ false))) (cond (a0.1 == (3 : Int)) (cond (a0.1 == (3 : Int)) (κ (v174 a0)) (cond (a0.1 == (5 : Int)) (cond (a0.1 == (5 : Int)) (κ (v173 a0)) (κ false)) (cond (a0.1 == (6 : Int)) (κ (v173 a0)) (κ false)))) (cond (a0.1 == (4 : Int)) (κ (v174 a0)) (cond (a0.1 == (5 : Int)) (cond (a0.1 == (5 : Int)) (κ (v173 a0)) (κ false)) (cond (a0.1 == (6 : Int)) (κ (v173 a0)) (κ false)))))))))
def v96 (a0 : Ty.T y48) : Bool := t96 a0 fun r => r
def p96 : Prim := ⟨[.agg [.dat y48 true]], fun v => .done (f96 (v96 v.1))⟩
theorem ok96 : PO 96 p96 := pK E96 fun v => Eq.trans (b := (t96 v.1 (sm f96))) (by kernel_rfl) (show t96 v.1 (sm f96) = some (f96 (t96 v.1 fun r => r)) from (tC rfl (tC (tC rfl (tC (tC rfl (tC rfl (tC (tC (tC rfl rfl) rfl) (tC (tC (tC rfl rfl) (tC (tC (tC rfl rfl) rfl) rfl)) (tC (tC rfl (tC (tC rfl rfl) (tC rfl rfl))) (tC rfl (tC (tC rfl rfl) (tC rfl rfl)))))))) (tC (tC (tC rfl rfl) rfl) (tC (tC (tC rfl rfl) (tC (tC (tC rfl rfl) rfl) rfl)) (tC (tC rfl (tC (tC rfl rfl) (tC rfl rfl))) (tC rfl (tC (tC rfl rfl) (tC rfl rfl)))))))) (tC (tC rfl (tC rfl (tC (tC (tC rfl rfl) rfl) (tC (tC (tC rfl rfl) (tC (tC (tC rfl rfl) rfl) rfl)) (tC (tC rfl (tC (tC rfl rfl) (tC rfl rfl))) (tC rfl (tC (tC rfl rfl) (tC rfl rfl)))))))) (tC (tC (tC rfl rfl) rfl) (tC (tC (tC rfl rfl) (tC (tC (tC rfl rfl) rfl) rfl)) (tC (tC rfl (tC (tC rfl rfl) (tC rfl rfl))) (tC rfl (tC (tC rfl rfl) (tC rfl rfl))))))))))
def f261 (r : Bool) : AV × Sig := (.one (.bool r), [])
def E261 := (E0.p ok96)
def u261 (a0 : Ty.T y48) : Option (AV × Sig) := cond (v96 a0) (some (.one (.bool true), [])) (cond (a0.1 != (2 : Int)) (cond (a0.2.2.2.2.1 == (-1 : Int)) (some (.one (.bool (v96 (a0.1, a0.2.1, a0.2.2.1, a0.2.2.2.1, 0, a0.2.2.2.2.2))), [])) (some (.one (.bool false), []))) (some (.one (.bool false), [])))
def v261 (a0 : Ty.T y48) : Bool := cond (v96 a0) (true) (cond (a0.1 != (2 : Int)) (cond (a0.2.2.2.2.1 == (-1 : Int)) ((v96 (a0.1, a0.2.1, a0.2.2.1, a0.2.2.2.1, 0, a0.2.2.2.2.2))) (false)) (false))
theorem o261 (a0 : Ty.T y48) : u261 a0 = some (f261 (v261 a0)) := (tC rfl (tC (tC rfl rfl) rfl))
def p261 : Prim := ⟨[.agg [.dat y48 true]], fun v => .done (f261 (v261 v.1))⟩
theorem ok261 : PO 261 p261 := pK E261 fun v => Eq.trans (b := u261 v.1) (by kernel_rfl) (o261 v.1)
def f260 (r : Bool) : AV × Sig := (.one (.bool r), [])
def E260 := (E0.p ok261)
def u260 (a0 : Ty.T y48) : Option (AV × Sig) := some (.one (.bool (!(v261 a0))), [])
def v260 (a0 : Ty.T y48) : Bool := !(v261 a0)
theorem o260 (a0 : Ty.T y48) : u260 a0 = some (f260 (v260 a0)) := rfl
def p260 : Prim := ⟨[.agg [.dat y48 true]], fun v => .done (f260 (v260 v.1))⟩
theorem ok260 : PO 260 p260 := pK E260 fun v => Eq.trans (b := u260 v.1) (by kernel_rfl) (o260 v.1)
def f271c1 (r : Int) : AV × Sig := (.one (.int .i64 r), [])
def E271c1 := (E0.p ok260)
@[reducible] def ss271c1_0 : List SP := .one (.dat (.sl 56 y48) true) :: .one (.fnc 260 []) :: U2 (oI :: U2 (oI :: oI :: U8 (U2 ([]))))
@[reducible] def V271c1_0 : Type := (List (Ty.T y48)) × Int × Int × Int × Unit
def t271c1_0 (v : V271c1_0) {Z : Type} (κ : Nat × V271c1_0 -> Option Z) : Option Z := cond (decide (v.2.2.2.1 < v.2.2.1)) (if 0 <= v.2.2.2.1 then (optC ((v.1)[(v.2.2.2.1).toNat]?) (fun x1 => cond (v260 x1) (κ (1, (v.1, v.2.2.2.1, v.2.2.1, v.2.2.2.1, ()))) (κ (0, (v.1, v.2.1, v.2.2.1, IntKind.wrap .i64 (v.2.2.2.1 + (1 : Int)), ()))))) else none) (κ (2, (v.1, v.2.1, v.2.2.1, v.2.2.2.1, ())))
def s271c1_0 (v : V271c1_0) : Option (Nat × V271c1_0) := t271c1_0 v some
def n271c1_0 (v : V271c1_0) : Nat := v.1.length + v.2.1.toNat + v.2.2.1.toNat + v.2.2.2.1.toNat + 100
def k271c1_0 (h0 : List (Ty.T y48)) (h1 : Int) (h2 : Int) (h3 : Int) (c : Nat) : Bool := iK s271c1_0 n271c1_0 (h0, h1, h2, h3, ()) c
def w271c1_0 (h0 : List (Ty.T y48)) (h1 : Int) (h2 : Int) (h3 : Int) : V271c1_0 := iW s271c1_0 n271c1_0 (h0, h1, h2, h3, ())
def F271c1_0 (v : V271c1_0) : Ways (Ex × St) := waysOf s271c1_0 (n271c1_0 v) v (bldSt ss271c1_0 gs18_0) [.ret, .exit 0] 0
theorem l271c1_0 : LoopOk Tryz.prog (loopAt (pb 3 5) (bodyOf Tryz.f271)) ss271c1_0 gs18_0 F271c1_0 := loopOk_iter (lt := .none) E271c1.ok orders (LtOk.no _) fun n v K => Eq.trans (b := t271c1_0 v (kont _ _ _ _ _ K)) (by kernel_rfl) (show t271c1_0 v _ = (t271c1_0 v some).bind _ from (bC (bI (bO fun x1 => (bC rfl rfl))) rfl))
def E271c1l := E271c1.l (g := 271) (t := (ltPut (pb 3 5) (bodyOf Tryz.f271) .none (.sum ss271c1_0 gs18_0 F271c1_0))) (ltOk_of Tryz.func271 (LtOk.put (wf_of (by kernel_rfl)) (LtOk.no _) l271c1_0))
def u271c1 (a0 : List (Ty.T y48)) : Option (AV × Sig) := cond (k271c1_0 a0 0 ((a0).length : Int) 0 0) (some (.one (.int .i64 (w271c1_0 a0 0 ((a0).length : Int) 0).2.1), [])) (cond (k271c1_0 a0 0 ((a0).length : Int) 0 1) (some (.one (.int .i64 (-1)), [])) (none))
def v271c1 (a0 : List (Ty.T y48)) : Int := cond (k271c1_0 a0 0 ((a0).length : Int) 0 0) ((w271c1_0 a0 0 ((a0).length : Int) 0).2.1) (cond (k271c1_0 a0 0 ((a0).length : Int) 0 1) ((-1)) (0))
def d271c1 (a0 : List (Ty.T y48)) : Bool := cond (k271c1_0 a0 0 ((a0).length : Int) 0 0) (true) (cond (k271c1_0 a0 0 ((a0).length : Int) 0 1) (true) (false))
theorem o271c1 (a0 : List (Ty.T y48)) : u271c1 a0 = cond (d271c1 a0) (some (f271c1 (v271c1 a0))) none := (pC (pS _) (pC (pS _) (pN _)))
def p271c1 : Prim := ⟨[.one (.dat (.sl 56 y48) true), .one (.fnc 260 [])], fun v => .br (d271c1 v.1) (.done (f271c1 (v271c1 v.1))) .no⟩
theorem ok271c1 : PO 271 p271c1 := pK E271c1l fun v => Eq.trans (b := u271c1 v.1) (by kernel_rfl) (o271c1 v.1)
def f247c1 (r : Bool) : AV × Sig := (.one (.bool r), [])
def E247c1 := (E0.p ok271c1)
def u247c1 (a0 : List (Ty.T y48)) : Option (AV × Sig) := cond (d271c1 a0) (some (.one (.bool (decide ((v271c1 a0) ≥ (0 : Int)))), [])) (none)
def v247c1 (a0 : List (Ty.T y48)) : Bool := cond (d271c1 a0) (decide ((v271c1 a0) ≥ (0 : Int))) (false)
def d247c1 (a0 : List (Ty.T y48)) : Bool := cond (d271c1 a0) (true) (false)
theorem o247c1 (a0 : List (Ty.T y48)) : u247c1 a0 = cond (d247c1 a0) (some (f247c1 (v247c1 a0))) none := (pC (pS _) (pN _))
def p247c1 : Prim := ⟨[.one (.dat (.sl 56 y48) true), .one (.fnc 260 [])], fun v => .br (d247c1 v.1) (.done (f247c1 (v247c1 v.1))) .no⟩
theorem ok247c1 : PO 247 p247c1 := pK E247c1 fun v => Eq.trans (b := u247c1 v.1) (by kernel_rfl) (o247c1 v.1)
def f225 (r : Bool) : AV × Sig := (.one (.bool r), [])
def E225 := (((((E0.p ok247c1).p ok172).p ok175).p ok220).p ok99)
@[reducible] def ss225_0 : List SP := .und :: .one (.ptr 1 0) :: .one (.dat .bool true) :: U64 (U32 (U16 ([])))
@[reducible] def sx225_0 : List SP := .und :: .one (.ptr 1 0) :: .one (.dat .bool true) :: U32 (U16 (U8 (.und :: .one (.dat .bool true) :: U32 (U16 (U4 (U2 ([])))))))
def f225_0 (v : V243_1) (r : Bool) : Ex × St := (.normal, bldSt sx225_0 gs243_0 (v.1, r, v.2.1, ()))
def t225_0 (v : V243_1) {Z : Type} (κ : Bool -> Z) : Z := cond (v.2.1.1 != (3 : Int)) (cond (v.2.1.1 != (8 : Int)) (cond (v.2.1.2.1 != (0 : Int)) (κ true) (cond (v.2.1.1 != (6 : Int)) (cond (v.2.1.2.2.1 != (0 : Int)) (κ true) (cond (v.2.1.2.2.2.1 != (-1 : Int)) (κ true) (cond (v.2.1.1 != (7 : Int)) (cond (v.2.1.2.2.2.2.1 != (0 : Int)) (κ true) (cond (v.2.1.1 != (8 : Int)) (cond v.2.1.2.2.2.2.2.1 (κ true) (cond (v.2.1.1 != (9 : Int)) (κ (decide (((v.2.1.2.2.2.2.2.2).length : Int) > (0 : Int)))) (κ false))) (cond (v.2.1.1 != (9 : Int)) (κ (decide (((v.2.1.2.2.2.2.2.2).length : Int) > (0 : Int)))) (κ false)))) (cond (v.2.1.1 != (8 : Int)) (cond v.2.1.2.2.2.2.2.1 (κ true) (cond (v.2.1.1 != (9 : Int)) (κ (decide (((v.2.1.2.2.2.2.2.2).length : Int) > (0 : Int)))) (κ false))) (cond (v.2.1.1 != (9 : Int)) (κ (decide (((v.2.1.2.2.2.2.2.2).length : Int) > (0 : Int)))) (κ false)))))) (cond (v.2.1.1 != (7 : Int)) (cond (v.2.1.2.2.2.2.1 != (0 : Int)) (κ true) (cond (v.2.1.1 != (8 : Int)) (cond v.2.1.2.2.2.2.2.1 (κ true) (cond (v.2.1.1 != (9 : Int)) (κ (decide (((v.2.1.2.2.2.2.2.2).length : Int) > (0 : Int)))) (κ false))) (cond (v.2.1.1 != (9 : Int)) (κ (decide (((v.2.1.2.2.2.2.2.2).length : Int) > (0 : Int)))) (κ false)))) (cond (v.2.1.1 != (8 : Int)) (cond v.2.1.2.2.2.2.2.1 (κ true) (cond (v.2.1.1 != (9 : Int)) (κ (decide (((v.2.1.2.2.2.2.2.2).length : Int) > (0 : Int)))) (κ false))) (cond (v.2.1.1 != (9 : Int)) (κ (decide (((v.2.1.2.2.2.2.2.2).length : Int) > (0 : Int)))) (κ false)))))) (cond (v.2.1.1 != (6 : Int)) (cond (v.2.1.2.2.1 != (0 : Int)) (κ true) (cond (v.2.1.2.2.2.1 != (-1 : Int)) (κ true) (cond (v.2.1.1 != (7 : Int)) (cond (v.2.1.2.2.2.2.1 != (0 : Int)) (κ true) (cond (v.2.1.1 != (8 : Int)) (cond v.2.1.2.2.2.2.2.1 (κ true) (cond (v.2.1.1 != (9 : Int)) (κ (decide (((v.2.1.2.2.2.2.2.2).length : Int) > (0 : Int)))) (κ false))) (cond (v.2.1.1 != (9 : Int)) (κ (decide (((v.2.1.2.2.2.2.2.2).length : Int) > (0 : Int)))) (κ false)))) (cond (v.2.1.1 != (8 : Int)) (cond v.2.1.2.2.2.2.2.1 (κ true) (cond (v.2.1.1 != (9 : Int)) (κ (decide (((v.2.1.2.2.2.2.2.2).length : Int) > (0 : Int)))) (κ false))) (cond (v.2.1.1 != (9 : Int)) (κ (decide (((v.2.1.2.2.2.2.2.2).length : Int) > (0 : Int)))) (κ false)))))) (cond (v.2.1.1 != (7 : Int)) (cond (v.2.1.2.2.2.2.1 != (0 : Int)) (κ true) (cond (v.2.1.1 != (8 : Int)) (cond v.2.1.2.2.2.2.2.1 (κ true) (cond (v.2.1.1 != (9 : Int)) (κ (decide (((v.2.1.2.2.2.2.2.2).length : Int) > (0 : Int)))) (κ false))) (cond (v.2.1.1 != (9 : Int)) (κ (decide (((v.2.1.2.2.2.2.2.2).length : Int) > (0 : Int)))) (κ false)))) (cond (v.2.1.1 != (8 : Int)) (cond v.2.1.2.2.2.2.2.1 (κ true) (cond (v.2.1.1 != (9 : Int)) (κ (decide (((v.2.1.2.2.2.2.2.2).length : Int) > (0 : Int)))) (κ false))) (cond (v.2.1.1 != (9 : Int)) (κ (decide (((v.2.1.2.2.2.2.2.2).length : Int) > (0 : Int)))) (κ false)))))) (cond (v.2.1.1 != (6 : Int)) (cond (v.2.1.2.2.1 != (0 : Int)) (κ true) (cond (v.2.1.2.2.2.1 != (-1 : Int)) (κ true) (cond (v.2.1.1 != (7 : Int)) (cond (v.2.1.2.2.2.2.1 != (0 : Int)) (κ true) (cond (v.2.1.1 != (8 : Int)) (cond v.2.1.2.2.2.2.2.1 (κ true) (cond (v.2.1.1 != (9 : Int)) (κ (decide (((v.2.1.2.2.2.2.2.2).length : Int) > (0 : Int)))) (κ false))) (cond (v.2.1.1 != (9 : Int)) (κ (decide (((v.2.1.2.2.2.2.2.2).length : Int) > (0 : Int)))) (κ false)))) (cond (v.2.1.1 != (8 : Int)) (cond v.2.1.2.2.2.2.2.1 (κ true) (cond (v.2.1.1 != (9 : Int)) (κ (decide (((v.2.1.2.2.2.2.2.2).length : Int) > (0 : Int)))) (κ false))) (cond (v.2.1.1 != (9 : Int)) (κ (decide (((v.2.1.2.2.2.2.2.2).length : Int) > (0 : Int)))) (κ false)))))) (cond (v.2.1.1 != (7 : Int)) (cond (v.2.1.2.2.2.2.1 != (0 : Int)) (κ true) (cond (v.2.1.1 != (8 : Int)) (cond v.2.1.2.2.2.2.2.1 (κ true) (cond (v.2.1.1 != (9 : Int)) (κ (decide (((v.2.1.2.2.2.2.2.2).length : Int) > (0 : Int)))) (κ false))) (cond (v.2.1.1 != (9 : Int)) (κ (decide (((v.2.1.2.2.2.2.2.2).length : Int) > (0 : Int)))) (κ false)))) (cond (v.2.1.1 != (8 : Int)) (cond v.2.1.2.2.2.2.2.1 (κ true) (cond (v.2.1.1 != (9 : Int)) (κ (decide (((v.2.1.2.2.2.2.2.2).length : Int) > (0 : Int)))) (κ false))) (cond (v.2.1.1 != (9 : Int)) (κ (decide (((v.2.1.2.2.2.2.2.2).length : Int) > (0 : Int)))) (κ false)))))
def c225_0 (v : V243_1) : Bool := t225_0 v id
def F225_0 (v : V243_1) : Ways (Ex × St) := .done (f225_0 v (c225_0 v))
theorem l225_0 : CodeOk Tryz.prog (pieceAt (pb 3 1) (bodyOf Tryz.f225)) ss225_0 gs243_0 F225_0 := codeOk_eq (lt := .none) (sx := sx225_0) (gx := gs243_0) E225.ok orders (LtOk.no _) fun v => Eq.trans (b := t225_0 v (sm (f225_0 v))) (by kernel_rfl) (show t225_0 v (sm (f225_0 v)) = some (f225_0 v (t225_0 v id)) from (tC (tC (tC rfl (tC (tC rfl (tC rfl (tC (tC rfl (tC (tC rfl (tC rfl rfl)) (tC rfl rfl))) (tC (tC rfl (tC rfl rfl)) (tC rfl rfl))))) (tC (tC rfl (tC (tC rfl (tC rfl rfl)) (tC rfl rfl))) (tC (tC rfl (tC rfl rfl)) (tC rfl rfl))))) (tC (tC rfl (tC rfl (tC (tC rfl (tC (tC rfl (tC rfl rfl)) (tC rfl rfl))) (tC (tC rfl (tC rfl rfl)) (tC rfl rfl))))) (tC (tC rfl (tC (tC rfl (tC rfl rfl)) (tC rfl rfl))) (tC (tC rfl (tC rfl rfl)) (tC rfl rfl))))) (tC (tC rfl (tC rfl (tC (tC rfl (tC (tC rfl (tC rfl rfl)) (tC rfl rfl))) (tC (tC rfl (tC rfl rfl)) (tC rfl rfl))))) (tC (tC rfl (tC (tC rfl (tC rfl rfl)) (tC rfl rfl))) (tC (tC rfl (tC rfl rfl)) (tC rfl rfl))))))
@[reducible] def ss225_1 : List SP := .und :: .one (.ptr 1 0) :: .one (.dat .bool true) :: U32 (U16 (U8 (U2 (.und :: oI :: .one (.dat .bool true) :: U32 (U16 (U2 (.und :: [])))))))
def f225_1 (v : V243_0) (r : Bool) : Ex × St := (.normal, bldSt ss225_1 gs243_0 (v.1, v.2.1, r, v.2.2.2.1, ()))
def t225_1 (v : V243_0) {Z : Type} (κ : Bool -> Z) : Z := cond v.2.2.1 (κ v.2.2.1) (cond (v.2.1 == (2 : Int)) (κ (v.2.1 == (2 : Int))) (cond (v.2.1 == (4 : Int)) (κ (v.2.1 == (4 : Int))) (κ (v.2.1 == (5 : Int)))))
def c225_1 (v : V243_0) : Bool := t225_1 v id
def F225_1 (v : V243_0) : Ways (Ex × St) := .done (f225_1 v (c225_1 v))
theorem l225_1 : CodeOk Tryz.prog (pieceAt (pb 6 43) (bodyOf Tryz.f225)) ss225_1 gs243_0 F225_1 := codeOk_eq (lt := .none) (sx := ss225_1) (gx := gs243_0) E225.ok orders (LtOk.no _) fun v => Eq.trans (b := t225_1 v (sm (f225_1 v))) (by kernel_rfl) (show t225_1 v (sm (f225_1 v)) = some (f225_1 v (t225_1 v id)) from (tC rfl (tC rfl (tC rfl rfl))))
@[reducible] def sx225_2 : List SP := U2 (.one (.dat .bool true) :: U64 (U32 (U16 ([]))))
def f225_2 (v : V243_1) (r : Bool) : Ex × St := (.normal, bldSt sx225_2 gs18_0 (r, ()))
def t225_2 (v : V243_1) {Z : Type} (κ : Bool -> Z) : Z := cond (v172 v.2.1.2.2.1) (cond (v.2.1.2.2.2.1 == (-1 : Int)) (κ true) (cond (v.2.1.2.2.1 == (0 : Int)) (κ (v220 v.2.1.2.2.2.1)) (κ false))) (cond (v.2.1.2.2.1 == (0 : Int)) (κ (v220 v.2.1.2.2.2.1)) (κ false))
def c225_2 (v : V243_1) : Bool := t225_2 v id
def F225_2 (v : V243_1) : Ways (Ex × St) := .done (f225_2 v (c225_2 v))
theorem l225_2 : CodeOk Tryz.prog (pieceAt (pb 11 507) (bodyOf Tryz.f225)) ss225_0 gs243_0 F225_2 := codeOk_eq (lt := .none) (sx := sx225_2) (gx := gs18_0) E225.ok orders (LtOk.no _) fun v => Eq.trans (b := t225_2 v (sm (f225_2 v))) (by kernel_rfl) (show t225_2 v (sm (f225_2 v)) = some (f225_2 v (t225_2 v id)) from (tC (tC rfl (tC rfl rfl)) (tC rfl rfl)))
def f225_3 (v : V243_1) (r : Bool) : Ex × St := (.normal, bldSt sx225_2 gs18_0 (r, ()))
def t225_3 (v : V243_1) {Z : Type} (κ : Bool -> Option Z) : Option Z := cond (v99 ((v.2.1.2.2.2.2.2.2).length : Int) 1 3) (cond (d247c1 v.2.1.2.2.2.2.2.2) (κ (!(v247c1 v.2.1.2.2.2.2.2.2))) (none)) (κ false)
def c225_3 (v : V243_1) : Bool := (t225_3 v some).getD false
def g225_3 (v : V243_1) : Bool := (t225_3 v some).isSome
def F225_3 (v : V243_1) : Ways (Ex × St) := .br (g225_3 v) (.done (f225_3 v (c225_3 v))) .no
theorem l225_3 : CodeOk Tryz.prog (pieceAt (pb 17 32763) (bodyOf Tryz.f225)) ss225_0 gs243_0 F225_3 := codeOk_eq (lt := .none) (sx := sx225_2) (gx := gs18_0) E225.ok orders (LtOk.no _) fun v => Eq.trans (b := t225_3 v (sm (f225_3 v))) (by kernel_rfl) (run_fin (show t225_3 v (sm (f225_3 v)) = (t225_3 v some).bind _ from (bC (bC rfl rfl) rfl)))
def E225l := E225.l (g := 225) (t := (ltPutC (pb 17 32763) (bodyOf Tryz.f225) (ltPutC (pb 11 507) (bodyOf Tryz.f225) (ltPutC (pb 6 43) (bodyOf Tryz.f225) (ltPutC (pb 3 1) (bodyOf Tryz.f225) .none (.sum ss225_0 gs243_0 F225_0)) (.sum ss225_1 gs243_0 F225_1)) (.sum ss225_0 gs243_0 F225_2)) (.sum ss225_0 gs243_0 F225_3))) (ltOk_of Tryz.func225 (LtOk.putC (wf_of (by kernel_rfl)) (LtOk.putC (wf_of (by kernel_rfl)) (LtOk.putC (wf_of (by kernel_rfl)) (LtOk.putC (wf_of (by kernel_rfl)) (LtOk.no _) l225_0) l225_1) l225_2) l225_3))
def t225 (a0 : Ty.T y100) {Z : Type} (κ : Bool -> Option Z) : Option Z := cond (c225_0 (false, a0, ())) (κ false) (cond (c225_1 (false, a0.1, (a0.1 == (1 : Int)), a0, ())) (κ true) (cond (a0.1 == (3 : Int)) (κ (v99 a0.2.1 1 2147483647)) (cond (a0.1 == (6 : Int)) (κ (c225_2 (false, a0, ()))) (cond (a0.1 == (7 : Int)) (κ (v175 a0.2.2.2.2.1)) (cond (a0.1 == (8 : Int)) (κ (v99 a0.2.1 0 99)) (cond (a0.1 == (9 : Int)) (cond (g225_3 (false, a0, ())) (κ (c225_3 (false, a0, ()))) (none)) (κ false)))))))
def v225 (a0 : Ty.T y100) : Bool := (t225 a0 some).getD false
def d225 (a0 : Ty.T y100) : Bool := (t225 a0 some).isSome
def p225 : Prim := ⟨[.agg [.dat y100 true]], fun v => .br (d225 v.1) (.done (f225 (v225 v.1))) .no⟩
theorem ok225 : PO 225 p225 := pK E225l fun v => Eq.trans (b := (t225 v.1 (sm f225))) (by kernel_rfl) (run_fin (show t225 v.1 (sm f225) = (t225 v.1 some).bind _ from by unfold t225; simp only [bb]))
def f226 (r : Bool) : AV × Sig := (.one (.bool r), [])
def E226 := (E0.p ok259)
def t226 (a0 : Ty.T y100) (a1 : Int) {Z : Type} (κ : Bool -> Z) : Z := cond (!(v259 a1)) (κ false) (cond (a0.1 == (1 : Int)) (cond (a0.1 == (1 : Int)) (κ true) (cond (a0.1 == (2 : Int)) (cond (a0.1 == (2 : Int)) (κ (a1 == (1 : Int))) (cond (a0.1 == (3 : Int)) (cond (a0.1 == (3 : Int)) (κ (a1 != (2 : Int))) (cond (a0.1 == (7 : Int)) (cond (a0.1 == (7 : Int)) (κ (a1 == (2 : Int))) (κ false)) (cond (a0.1 == (8 : Int)) (κ (a1 == (2 : Int))) (κ false)))) (cond (a0.1 == (4 : Int)) (cond (a0.1 == (4 : Int)) (κ (a1 != (2 : Int))) (cond (a0.1 == (7 : Int)) (cond (a0.1 == (7 : Int)) (κ (a1 == (2 : Int))) (κ false)) (cond (a0.1 == (8 : Int)) (κ (a1 == (2 : Int))) (κ false)))) (cond (a0.1 == (5 : Int)) (κ (a1 != (2 : Int))) (cond (a0.1 == (7 : Int)) (cond (a0.1 == (7 : Int)) (κ (a1 == (2 : Int))) (κ false)) (cond (a0.1 == (8 : Int)) (κ (a1 == (2 : Int))) (κ false))))))) (cond (a0.1 == (6 : Int)) (κ (a1 == (1 : Int))) (cond (a0.1 == (3 : Int)) (cond (a0.1 == (3 : Int)) (κ (a1 != (2 : Int))) (cond (a0.1 == (7 : Int)) (cond (a0.1 == (7 : Int)) (κ (a1 == (2 : Int))) (κ false)) (cond (a0.1 == (8 : Int)) (κ (a1 == (2 : Int))) (κ false)))) (cond (a0.1 == (4 : Int)) (cond (a0.1 == (4 : Int)) (κ (a1 != (2 : Int))) (cond (a0.1 == (7 : Int)) (cond (a0.1 == (7 : Int)) (κ (a1 == (2 : Int))) (κ false)) (cond (a0.1 == (8 : Int)) (κ (a1 == (2 : Int))) (κ false)))) (cond (a0.1 == (5 : Int)) (κ (a1 != (2 : Int))) (cond (a0.1 == (7 : Int)) (cond (a0.1 == (7 : Int)) (κ (a1 == (2 : Int))) (κ false)) (cond (a0.1 == (8 : Int)) (κ (a1 == (2 : Int))) (κ false))))))))) (cond (a0.1 == (9 : Int)) (κ true) (cond (a0.1 == (2 : Int)) (cond (a0.1 == (2 : Int)) (κ (a1 == (1 : Int))) (cond (a0.1 == (3 : Int)) (cond (a0.1 == (3 : Int)) (κ (a1 != (2 : Int))) (cond (a0.1 == (7 : Int)) (cond (a0.1 == (7 : Int)) (κ (a1 == (2 : Int))) (κ false)) (cond (a0.1 == (8 : Int)) (κ (a1 == (2 : Int))) (κ false)))) (cond (a0.1 == (4 : Int)) (cond (a0.1 == (4 : Int)) (κ (a1 != (2 : Int))) (cond (a0.1 == (7 : Int)) (cond (a0.1 == (7 : Int)) (κ (a1 == (2 : Int))) (κ false)) (cond (a0.1 == (8 : Int)) (κ (a1 == (2 : Int))) (κ false)))) (cond (a0.1 == (5 : Int)) (κ (a1 != (2 : Int))) (cond (a0.1 == (7 : Int)) (cond (a0.1 == (7 : Int)) (κ (a1 == (2 : Int))) (κ false)) (cond (a0.1 == (8 : Int)) (κ (a1 == (2 : Int))) (κ false))))))) (cond (a0.1 == (6 : Int)) (κ (a1 == (1 : Int))) (cond (a0.1 == (3 : Int)) (cond (a0.1 == (3 : Int)) (κ (a1 != (2 : Int))) (cond (a0.1 == (7 : Int)) (cond (a0.1 == (7 : Int)) (κ (a1 == (2 : Int))) (κ false)) (cond (a0.1 == (8 : Int)) (κ (a1 == (2 : Int))) (κ false)))) (cond (a0.1 == (4 : Int)) (cond (a0.1 == (4 : Int)) (κ (a1 != (2 : Int))) (cond (a0.1 == (7 : Int)) (cond (a0.1 == (7 : Int)) (κ (a1 == (2 : Int))) (κ false)) (cond (a0.1 == (8 : Int)) (κ (a1 == (2 : Int))) (κ false)))) (cond (a0.1 == (5 : Int)) (κ (a1 != (2 : Int))) (cond (a0.1 == (7 : Int)) (cond (a0.1 == (7 : Int)) (κ (a1 == (2 : Int))) (κ false)) (cond (a0.1 == (8 : Int)) (κ (a1 == (2 : Int))) (κ false))))))))))
def v226 (a0 : Ty.T y100) (a1 : Int) : Bool := t226 a0 a1 fun r => r
def p226 : Prim := ⟨[.agg [.dat y100 true], oI], fun v => .done (f226 (v226 v.1 v.2.1))⟩
theorem ok226 : PO 226 p226 := pK E226 fun v => Eq.trans (b := (t226 v.1 v.2.1 (sm f226))) (by kernel_rfl) (show t226 v.1 v.2.1 (sm f226) = some (f226 (t226 v.1 v.2.1 fun r => r)) from (tC rfl (tC (tC rfl (tC (tC rfl (tC (tC rfl (tC (tC rfl rfl) (tC rfl rfl))) (tC (tC rfl (tC (tC rfl rfl) (tC rfl rfl))) (tC rfl (tC (tC rfl rfl) (tC rfl rfl)))))) (tC rfl (tC (tC rfl (tC (tC rfl rfl) (tC rfl rfl))) (tC (tC rfl (tC (tC rfl rfl) (tC rfl rfl))) (tC rfl (tC (tC rfl rfl) (tC rfl rfl)))))))) (tC rfl (tC (tC rfl (tC (tC rfl (tC (tC rfl rfl) (tC rfl rfl))) (tC (tC rfl (tC (tC rfl rfl) (tC rfl rfl))) (tC rfl (tC (tC rfl rfl) (tC rfl rfl)))))) (tC rfl (tC (tC rfl (tC (tC rfl rfl) (tC rfl rfl))) (tC (tC rfl (tC (tC rfl rfl) (tC rfl rfl))) (tC rfl (tC (tC rfl rfl) (tC rfl rfl)))))))))))
def f176 (r : Bool) : AV × Sig := (.one (.bool r), [])
def E176 := (((((((E0.p ok172).p ok220).p ok223).p ok224).p ok225).p ok226).p ok99)
def t176 (a0 : Ty.T y102) {Z : Type} (κ : Bool -> Option Z) : Option Z := cond (a0.2.2.2.2.2.2.1.1 == (2 : Int)) (cond (v172 a0.1) (cond (v220 a0.2.1) (cond (v99 a0.2.2.1 0 99) (cond (v99 a0.2.2.2.1 0 4) (cond (a0.2.2.2.1 != (0 : Int)) (cond (v223 a0.2.2.2.2.1) (cond (v224 a0.2.2.2.2.2.1) (cond (d225 a0.2.2.2.2.2.2.1) (cond (v225 a0.2.2.2.2.2.2.1) (cond (v226 a0.2.2.2.2.2.2.1 a0.2.2.2.2.1.1) (cond (v99 a0.2.2.2.2.2.2.2.1 (-1) 9999) (κ (v99 a0.2.2.2.2.2.2.2.2 0 2147483647)) (κ false)) (κ false)) (κ false)) (none)) (κ false)) (κ false)) (cond (a0.2.2.1 != (0 : Int)) (cond (v223 a0.2.2.2.2.1) (cond (v224 a0.2.2.2.2.2.1) (cond (d225 a0.2.2.2.2.2.2.1) (cond (v225 a0.2.2.2.2.2.2.1) (cond (v226 a0.2.2.2.2.2.2.1 a0.2.2.2.2.1.1) (cond (v99 a0.2.2.2.2.2.2.2.1 (-1) 9999) (κ (v99 a0.2.2.2.2.2.2.2.2 0 2147483647)) (κ false)) (κ false)) (κ false)) (none)) (κ false)) (κ false)) (κ false))) (κ false)) (κ false)) (κ false)) (κ false)) (cond (v172 a0.1) (cond (v220 a0.2.1) (cond (v99 a0.2.2.1 0 99) (cond (v99 a0.2.2.2.1 0 4) (cond (a0.2.2.2.1 != (0 : Int)) (cond (v223 a0.2.2.2.2.1) (cond (v224 a0.2.2.2.2.2.1) (cond (d225 a0.2.2.2.2.2.2.1) (cond (v225 a0.2.2.2.2.2.2.1) (cond (v226 a0.2.2.2.2.2.2.1 a0.2.2.2.2.1.1) (cond (v99 a0.2.2.2.2.2.2.2.1 (-1) 9999) (κ (v99 a0.2.2.2.2.2.2.2.2 (-1) 2147483647)) (κ false)) (κ false)) (κ false)) (none)) (κ false)) (κ false)) (cond (a0.2.2.1 != (0 : Int)) (cond (v223 a0.2.2.2.2.1) (cond (v224 a0.2.2.2.2.2.1) (cond (d225 a0.2.2.2.2.2.2.1) (cond (v225 a0.2.2.2.2.2.2.1) (cond (v226 a0.2.2.2.2.2.2.1 a0.2.2.2.2.1.1) (cond (v99 a0.2.2.2.2.2.2.2.1 (-1) 9999) (κ (v99 a0.2.2.2.2.2.2.2.2 (-1) 2147483647)) (κ false)) (κ false)) (κ false)) (none)) (κ false)) (κ false)) (κ false))) (κ false)) (κ false)) (κ false)) (κ false))
def v176 (a0 : Ty.T y102) : Bool := (t176 a0 some).getD false
def d176 (a0 : Ty.T y102) : Bool := (t176 a0 some).isSome
def p176 : Prim := ⟨[.agg [.dat y102 true]], fun v => .br (d176 v.1) (.done (f176 (v176 v.1))) .no⟩
theorem ok176 : PO 176 p176 := pK E176 fun v => Eq.trans (b := (t176 v.1 (sm f176))) (by kernel_rfl) (run_fin (show t176 v.1 (sm f176) = (t176 v.1 some).bind _ from by unfold t176; simp only [bb]))
def f97 (r : Bool) : AV × Sig := (.one (.bool r), [])
def E97 := (E0.p ok176)
@[reducible] def ss97_0 : List SP := .one (.dat (.sl 103 y102) true) :: .und :: .one (.dat .bool true) :: U2 (.one (.dat (.sl 103 y102) true) :: oI :: oI :: U16 (U8 (U2 ([]))))
@[reducible] def V97_0 : Type := (List (Ty.T y102)) × Bool × (List (Ty.T y102)) × Int × Int × Unit
def t97_0 (v : V97_0) {Z : Type} (κ : Nat × V97_0 -> Option Z) : Option Z := cond (decide (v.2.2.2.2.1 < v.2.2.2.1)) (if 0 <= v.2.2.2.2.1 then (optC ((v.2.2.1)[(v.2.2.2.2.1).toNat]?) (fun x1 => cond (d176 x1) (cond (!(v176 x1)) (κ (1, (v.1, false, v.2.2.1, v.2.2.2.1, v.2.2.2.2.1, ()))) (cond (decide (v.2.2.2.2.1 > (0 : Int))) (if 0 <= (IntKind.wrap .i64 (v.2.2.2.2.1 - (1 : Int))) then (optC ((v.1)[(IntKind.wrap .i64 (v.2.2.2.2.1 - (1 : Int))).toNat]?) (fun x2 => cond (decide (x2.1 ≥ x1.1)) (κ (1, (v.1, false, v.2.2.1, v.2.2.2.1, v.2.2.2.2.1, ()))) (κ (0, (v.1, v.2.1, v.2.2.1, v.2.2.2.1, IntKind.wrap .i64 (v.2.2.2.2.1 + (1 : Int)), ()))))) else none) (κ (0, (v.1, v.2.1, v.2.2.1, v.2.2.2.1, IntKind.wrap .i64 (v.2.2.2.2.1 + (1 : Int)), ()))))) (none))) else none) (κ (2, (v.1, v.2.1, v.2.2.1, v.2.2.2.1, v.2.2.2.2.1, ())))
def s97_0 (v : V97_0) : Option (Nat × V97_0) := t97_0 v some
def n97_0 (v : V97_0) : Nat := v.1.length + v.2.2.1.length + v.2.2.2.1.toNat + v.2.2.2.2.1.toNat + 100
def k97_0 (h0 : List (Ty.T y102)) (h1 : Bool) (h2 : List (Ty.T y102)) (h3 : Int) (h4 : Int) (c : Nat) : Bool := iK s97_0 n97_0 (h0, h1, h2, h3, h4, ()) c
def w97_0 (h0 : List (Ty.T y102)) (h1 : Bool) (h2 : List (Ty.T y102)) (h3 : Int) (h4 : Int) : V97_0 := iW s97_0 n97_0 (h0, h1, h2, h3, h4, ())
def F97_0 (v : V97_0) : Ways (Ex × St) := waysOf s97_0 (n97_0 v) v (bldSt ss97_0 gs18_0) [.ret, .exit 0] 0
theorem l97_0 : LoopOk Tryz.prog (loopAt (pb 3 5) (bodyOf Tryz.f97)) ss97_0 gs18_0 F97_0 := loopOk_iter (lt := .none) E97.ok orders (LtOk.no _) fun n v K => Eq.trans (b := t97_0 v (kont _ _ _ _ _ K)) (by kernel_rfl) (show t97_0 v _ = (t97_0 v some).bind _ from (bC (bI (bO fun x1 => (bC (bC rfl (bC (bI (bO fun x2 => (bC rfl rfl))) rfl)) rfl))) rfl))
def E97l := E97.l (g := 97) (t := (ltPut (pb 3 5) (bodyOf Tryz.f97) .none (.sum ss97_0 gs18_0 F97_0))) (ltOk_of Tryz.func97 (LtOk.put (wf_of (by kernel_rfl)) (LtOk.no _) l97_0))
def u97 (a0 : List (Ty.T y102)) : Option (AV × Sig) := cond (k97_0 a0 false a0 ((a0).length : Int) 0 0) (some (.one (.bool (w97_0 a0 false a0 ((a0).length : Int) 0).2.1), [])) (cond (k97_0 a0 false a0 ((a0).length : Int) 0 1) (some (.one (.bool (decide ((((w97_0 a0 false a0 ((a0).length : Int) 0).1).length : Int) <= (5 : Int)))), [])) (none))
def v97 (a0 : List (Ty.T y102)) : Bool := cond (k97_0 a0 false a0 ((a0).length : Int) 0 0) ((w97_0 a0 false a0 ((a0).length : Int) 0).2.1) (cond (k97_0 a0 false a0 ((a0).length : Int) 0 1) (decide ((((w97_0 a0 false a0 ((a0).length : Int) 0).1).length : Int) <= (5 : Int))) (false))
def d97 (a0 : List (Ty.T y102)) : Bool := cond (k97_0 a0 false a0 ((a0).length : Int) 0 0) (true) (cond (k97_0 a0 false a0 ((a0).length : Int) 0 1) (true) (false))
theorem o97 (a0 : List (Ty.T y102)) : u97 a0 = cond (d97 a0) (some (f97 (v97 a0))) none := (pC (pS _) (pC (pS _) (pN _)))
def p97 : Prim := ⟨[.one (.dat (.sl 103 y102) true)], fun v => .br (d97 v.1) (.done (f97 (v97 v.1))) .no⟩
theorem ok97 : PO 97 p97 := pK E97l fun v => Eq.trans (b := u97 v.1) (by kernel_rfl) (o97 v.1)
end
end Go.Proofs.YtcddhifkfakcjaaGreat.Vm
