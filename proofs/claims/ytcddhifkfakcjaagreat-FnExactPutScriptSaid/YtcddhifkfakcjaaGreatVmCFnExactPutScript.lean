/- Contracts. No condition. -/
import Derived.Test.YtcddhifkfakcjaaGreatVmCFnExactPutScriptP3
import Derived.Test.YtcddhifkfakcjaaGreatVmLibThree
namespace Go.Proofs.YtcddhifkfakcjaaGreat.Vm
open Go Go.Proofs.YtcddhifkfakcjaaGreat.Lib
noncomputable section
set_option maxRecDepth 100000
set_option linter.unusedVariables false
def f3 (r : Bool) : AV × Sig := (.one (.bool r), [])
def E3 := (((((((((E0.p ok10).p ok11).p ok12).p ok13).m ok14).m ok15).p ok16).p ok8).p ok9)
@[reducible] def ss3_0 : List SP := .und :: .one (.ptr 1 0) :: .one (.dat .bool true) :: .und :: .one (.own 4114) :: .und :: .one (.own 4118) :: oI :: U32 (U16 (U8 (U4 (.und :: []))))
@[reducible] def gs3_0 : List (Nat × GP) := [(1, .box 30 [.dat y29 true]), (4114, .arr 5 (.int .u8) false), (4118, .arr 5 (.int .u8) false)]
@[reducible] def V3_0 : Type := Bool × Int × (Ty.T y29) × (List (Ty.T (.int .u8))) × (List (Ty.T (.int .u8))) × Unit
@[reducible] def sx3_0 : List SP := .und :: .one (.ptr 1 0) :: .one (.dat .bool true) :: .und :: .one (.own 4114) :: .und :: .one (.own 4118) :: U32 (U2 (.und :: .one (.dat .bool true) :: U16 (U8 (U2 ([])))))
def f3_0 (v : V3_0) (r : Bool) : Ex × St := (.normal, bldSt sx3_0 gs3_0 (v.1, r, v.2.2.1, v.2.2.2.1, v.2.2.2.2.1, ()))
def t3_0 (v : V3_0) {Z : Type} (κ : Bool -> Option Z) : Option Z := cond (decide (v.2.1 < (0 : Int))) (κ true) (cond (d12 v.2.2.2.2.1 v.2.2.2.1) (κ (!(v12 v.2.2.2.2.1 v.2.2.2.1))) (none))
def c3_0 (v : V3_0) : Bool := (t3_0 v some).getD false
def g3_0 (v : V3_0) : Bool := (t3_0 v some).isSome
def F3_0 (v : V3_0) : Ways (Ex × St) := .br (g3_0 v) (.done (f3_0 v (c3_0 v))) .no
theorem l3_0 : CodeOk Tryz.prog (pieceAt (pb 13 2047) (bodyOf Tryz.f3)) ss3_0 gs3_0 F3_0 := codeOk_eq (lt := .none) (sx := sx3_0) (gx := gs3_0) E3.ok orders (LtOk.no _) fun v => Eq.trans (b := t3_0 v (sm (f3_0 v))) (by kernel_rfl) (run_fin (show t3_0 v (sm (f3_0 v)) = (t3_0 v some).bind _ from (bC rfl (bC rfl rfl))))
def E3l := E3.l (g := 3) (t := (ltPutC (pb 13 2047) (bodyOf Tryz.f3) .none (.sum ss3_0 gs3_0 F3_0))) (ltOk_of Tryz.func3 (LtOk.putC (wf_of (by kernel_rfl)) (LtOk.no _) l3_0))
def e3_0 (a0 : Ty.T y29) := (d9 (((v10 a0).2.2.1, (v10 a0).2.2.2.1, (v10 a0).1, (v10 a0).2.1), (v10 a0).2.2.2.2))
def e3_1 (a0 : Ty.T y29) := (v9 (((v10 a0).2.2.1, (v10 a0).2.2.2.1, (v10 a0).1, (v10 a0).2.1), (v10 a0).2.2.2.2))
def e3_2 (a0 : Ty.T y29) := (d11 (((v10 a0).2.2.1, (v10 a0).2.2.2.1, (v10 a0).1, (v10 a0).2.1), (v10 a0).2.2.2.2))
def e3_3 (a0 : Ty.T y29) := (v11 (((v10 a0).2.2.1, (v10 a0).2.2.2.1, (v10 a0).1, (v10 a0).2.1), (v10 a0).2.2.2.2))
def e3_4 (a0 : Ty.T y29) := (d14 (v10 a0).1 (v10 a0).2.1 1 (v10 a0).2.2.1 (v10 a0).2.2.2.1 (v10 a0).2.2.2.2.1 (v10 a0).2.2.2.2.2.1 (v10 a0).2.2.2.2.2.2)
def e3_5 (a0 : Ty.T y29) := (v14 (v10 a0).1 (v10 a0).2.1 1 (v10 a0).2.2.1 (v10 a0).2.2.2.1 (v10 a0).2.2.2.2.1 (v10 a0).2.2.2.2.2.1 (v10 a0).2.2.2.2.2.2)
def e3_6 (a0 : Ty.T y29) := (d13 (((v10 a0).2.2.1, (v10 a0).2.2.2.1, (v10 a0).1, (v10 a0).2.1), (v10 a0).2.2.2.2) (((v10 a0).2.2.1, (v10 a0).2.2.2.1, (v10 a0).1, (v10 a0).2.1), (v10 a0).2.2.2.2))
def e3_7 (a0 : Ty.T y29) := (v13 (((v10 a0).2.2.1, (v10 a0).2.2.2.1, (v10 a0).1, (v10 a0).2.1), (v10 a0).2.2.2.2) (((v10 a0).2.2.1, (v10 a0).2.2.2.1, (v10 a0).1, (v10 a0).2.1), (v10 a0).2.2.2.2))
def u3 (a0 : Ty.T y29) : Option (AV × Sig) := cond (d8 a0 1048576) (cond (decide ((v8 a0 1048576) < (0 : Int))) (some (.one (.bool true), [])) (cond (d10 a0) (cond (e3_0 a0) (cond (d10 a0) (cond (e3_2 a0) (cond (d12 (e3_3 a0) (e3_1 a0)) (cond (!(v12 (e3_3 a0) (e3_1 a0))) (some (.one (.bool false), [])) (cond (d10 a0) (cond (e3_6 a0) (cond (!(e3_7 a0)) (some (.one (.bool false), [])) (cond (e3_4 a0) (cond (g3_0 (false, (e3_5 a0).1, a0, (e3_1 a0), (e3_3 a0), ())) (cond (c3_0 (false, (e3_5 a0).1, a0, (e3_1 a0), (e3_3 a0), ())) (some (.one (.bool false), [])) (cond (d15 1 (e3_3 a0)) (cond (d16 (v15 1 (e3_3 a0)).2 1) (cond (decide ((v16 (v15 1 (e3_3 a0)).2 1) < (0 : Int))) (some (.one (.bool false), [])) (cond ((v16 (v15 1 (e3_3 a0)).2 1) != (v15 1 (e3_3 a0)).1) (some (.one (.bool false), [])) (cond (d10 a0) (cond (e3_2 a0) (cond (d12 (e3_3 a0) (e3_1 a0)) (cond (!(v12 (e3_3 a0) (e3_1 a0))) (some (.one (.bool false), [])) (cond (d16 (v15 1 (e3_3 a0)).2 1) (cond (decide ((v16 (v15 1 (e3_3 a0)).2 1) < (0 : Int))) (some (.one (.bool false), [])) (cond ((v16 (v15 1 (e3_3 a0)).2 1) != (v15 1 (e3_3 a0)).1) (some (.one (.bool false), [])) (some (.one (.bool true), [])))) (none))) (none)) (none)) (none)))) (none)) (none))) (none)) (none))) (none)) (none))) (none)) (none)) (none)) (none)) (none))) (none)
def v3 (a0 : Ty.T y29) : Bool := cond (d8 a0 1048576) (cond (decide ((v8 a0 1048576) < (0 : Int))) (true) (cond (d10 a0) (cond (e3_0 a0) (cond (d10 a0) (cond (e3_2 a0) (cond (d12 (e3_3 a0) (e3_1 a0)) (cond (!(v12 (e3_3 a0) (e3_1 a0))) (false) (cond (d10 a0) (cond (e3_6 a0) (cond (!(e3_7 a0)) (false) (cond (e3_4 a0) (cond (g3_0 (false, (e3_5 a0).1, a0, (e3_1 a0), (e3_3 a0), ())) (cond (c3_0 (false, (e3_5 a0).1, a0, (e3_1 a0), (e3_3 a0), ())) (false) (cond (d15 1 (e3_3 a0)) (cond (d16 (v15 1 (e3_3 a0)).2 1) (cond (decide ((v16 (v15 1 (e3_3 a0)).2 1) < (0 : Int))) (false) (cond ((v16 (v15 1 (e3_3 a0)).2 1) != (v15 1 (e3_3 a0)).1) (false) (cond (d10 a0) (cond (e3_2 a0) (cond (d12 (e3_3 a0) (e3_1 a0)) (cond (!(v12 (e3_3 a0) (e3_1 a0))) (false) (cond (d16 (v15 1 (e3_3 a0)).2 1) (cond (decide ((v16 (v15 1 (e3_3 a0)).2 1) < (0 : Int))) (false) (cond ((v16 (v15 1 (e3_3 a0)).2 1) != (v15 1 (e3_3 a0)).1) (false) (true))) (false))) (false)) (false)) (false)))) (false)) (false))) (false)) (false))) (false)) (false))) (false)) (false)) (false)) (false)) (false))) (false)
def d3 (a0 : Ty.T y29) : Bool := cond (d8 a0 1048576) (cond (decide ((v8 a0 1048576) < (0 : Int))) (true) (cond (d10 a0) (cond (e3_0 a0) (cond (d10 a0) (cond (e3_2 a0) (cond (d12 (e3_3 a0) (e3_1 a0)) (cond (!(v12 (e3_3 a0) (e3_1 a0))) (true) (cond (d10 a0) (cond (e3_6 a0) (cond (!(e3_7 a0)) (true) (cond (e3_4 a0) (cond (g3_0 (false, (e3_5 a0).1, a0, (e3_1 a0), (e3_3 a0), ())) (cond (c3_0 (false, (e3_5 a0).1, a0, (e3_1 a0), (e3_3 a0), ())) (true) (cond (d15 1 (e3_3 a0)) (cond (d16 (v15 1 (e3_3 a0)).2 1) (cond (decide ((v16 (v15 1 (e3_3 a0)).2 1) < (0 : Int))) (true) (cond ((v16 (v15 1 (e3_3 a0)).2 1) != (v15 1 (e3_3 a0)).1) (true) (cond (d10 a0) (cond (e3_2 a0) (cond (d12 (e3_3 a0) (e3_1 a0)) (cond (!(v12 (e3_3 a0) (e3_1 a0))) (true) (cond (d16 (v15 1 (e3_3 a0)).2 1) (cond (decide ((v16 (v15 1 (e3_3 a0)).2 1) < (0 : Int))) (true) (cond ((v16 (v15 1 (e3_3 a0)).2 1) != (v15 1 (e3_3 a0)).1) (true) (true))) (false))) (false)) (false)) (false)))) (false)) (false))) (false)) (false))) (false)) (false))) (false)) (false)) (false)) (false)) (false))) (false)
theorem o3 (a0 : Ty.T y29) : u3 a0 = cond (d3 a0) (some (f3 (v3 a0))) none := (pC (pC (pS _) (pC (pC (pC (pC (pC (pC (pS _) (pC (pC (pC (pS _) (pC (pC (pC (pS _) (pC (pC (pC (pS _) (pC (pS _) (pC (pC (pC (pC (pS _) (pC (pC (pS _) (pC (pS _) (pS _))) (pN _))) (pN _)) (pN _)) (pN _)))) (pN _)) (pN _))) (pN _)) (pN _))) (pN _)) (pN _))) (pN _)) (pN _)) (pN _)) (pN _)) (pN _))) (pN _))
def p3 : Prim := ⟨[.agg [.dat y29 true]], fun v => .br (d3 v.1) (.done (f3 (v3 v.1))) .no⟩
theorem ok3 : PO 3 p3 := pK E3l fun v => Eq.trans (b := u3 v.1) (by kernel_rfl) (o3 v.1)
end
end Go.Proofs.YtcddhifkfakcjaaGreat.Vm
