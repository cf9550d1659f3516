/- Contracts. No condition. -/
import Derived.Test.YtcddhifkfakcjaaGreatVmCFnExactWaysP0
import Derived.Test.YtcddhifkfakcjaaGreatVmLibFour
namespace Go.Proofs.YtcddhifkfakcjaaGreat.Vm
open Go Go.Proofs.YtcddhifkfakcjaaGreat.Lib
noncomputable section
set_option maxRecDepth 100000
set_option linter.unusedVariables false
def f301 (r : Int) : AV × Sig := (.one (.int .i64 r),[])
def abN := (E0.p Fx)
def Ui (a0 : Int) : Option (AV × Sig) := some (.one (.int .i64 (gm (IntKind.wrap .i64 ((2 : Int) * (gm a0))))),[])
def F9 (a0 : Int) : Int := (gm (IntKind.wrap .i64 ((2 : Int) * (gm a0))))
theorem acR (a0 : Int) : Ui a0 = some (f301 (F9 a0)) := rfl
def ZE : Prim := ⟨[oI],fun v => .done (f301 (F9 v.1))⟩
theorem QH : PO 301 ZE := pK abN fun v => et (Ui v.1) (by kernel_rfl) (acR v.1)
def f302 (r : Int) : AV × Sig := (.one (.int .i64 r),[])
def Yx := (E0.p Fx)
def QV (a0 : Int) : Option (AV × Sig) := some (.one (.int .i64 (IntKind.wrap .i64 ((gm a0).tdiv (2 : Int)))),[])
def Ga (a0 : Int) : Int := IntKind.wrap .i64 ((gm a0).tdiv (2 : Int))
theorem WK (a0 : Int) : QV a0 = some (f302 (Ga a0)) := rfl
def Xp : Prim := ⟨[oI],fun v => .done (f302 (Ga v.1))⟩
theorem RN : PO 302 Xp := pK Yx fun v => et (QV v.1) (by kernel_rfl) (WK v.1)
def f283 (r : Int) : AV × Sig := (.one (.int .i64 r),[])
def WM := ((((E0.p uB).p Rs).p QH).p RN)
def Sc (a0 : Ty.T aZ) (a1 : Int) : Option (AV × Sig) := cond (a0.1 == (1 : Int)) (some (.one (.int .i64 0),[])) (cond (a0.1 == (3 : Int)) (some (.one (.int .i64 (Gc (eJ a1 2147483647) a0.2.1)),[])) (cond (a0.1 == (4 : Int)) (some (.one (.int .i64 (F9 (eJ a1 2147483647))),[])) (cond (a0.1 == (5 : Int)) (some (.one (.int .i64 (Ga (eJ a1 2147483647))),[])) (some (.one (.int .i64 (eJ a1 2147483647)),[])))))
def B8 (a0 : Ty.T aZ) (a1 : Int) : Int := cond (a0.1 == (1 : Int)) (0) (cond (a0.1 == (3 : Int)) ((Gc (eJ a1 2147483647) a0.2.1)) (cond (a0.1 == (4 : Int)) ((F9 (eJ a1 2147483647))) (cond (a0.1 == (5 : Int)) ((Ga (eJ a1 2147483647))) ((eJ a1 2147483647)))))
theorem ZK (a0 : Ty.T aZ) (a1 : Int) : Sc a0 a1 = some (f283 (B8 a0 a1)) := (tC rfl (tC rfl (tC rfl (tC rfl rfl))))
def ab9 : Prim := ⟨[.agg [.dat aZ true],oI],fun v => .done (f283 (B8 v.1 v.2.1))⟩
theorem Rk : PO 283 ab9 := pK WM fun v => et (Sc v.1 v.2.1) (by kernel_rfl) (ZK v.1 v.2.1)
def f255 (r : (Ty.T y48)) : AV × Sig := (.agg (y48.cells false r),[])
def aaq := (((E0.p uB).p Nj).p Rk)
def t255 (a0 : Ty.T aZ) (a1 : Ty.T y48) {Z : Type} (κ : (Ty.T y48) -> Z) : Z := cond (a0.1 == (3 : Int)) (cond (a0.1 == (3 : Int)) (κ (ym a1 (B8 a0 a1.2.2.2.2.1))) (cond (a0.1 == (6 : Int)) (κ (a1.1,a1.2.1,a0.2.2.1,a0.2.2.2.1,a1.2.2.2.2)) (cond (a0.1 == (7 : Int)) (cond (a0.2.2.2.2.1 != (2 : Int)) (κ (a1.1,a1.2.1,a1.2.2.1,a1.2.2.2.1,0,a0.2.2.2.2.1,false)) (κ (a1.1,a1.2.1,a1.2.2.1,a1.2.2.2.1,a1.2.2.2.2.1,a0.2.2.2.2.1,a1.2.2.2.2.2.2))) (cond (a0.1 == (8 : Int)) (cond (a1.2.2.2.2.2.1 == (2 : Int)) (cond a1.2.2.2.2.2.2 (κ (a1.1,a1.2.1,a1.2.2.1,a1.2.2.2.1,(eJ (IntKind.wrap .i64 (a1.2.2.2.2.1 + a0.2.1)) 99),a1.2.2.2.2.2.1,true)) (κ (a1.1,a1.2.1,a1.2.2.1,a1.2.2.2.1,(eJ (IntKind.wrap .i64 (a1.2.2.2.2.1 + a0.2.1)) 99),a1.2.2.2.2.2.1,a0.2.2.2.2.2.1))) (κ a1)) (κ a1))))) (cond (a0.1 == (4 : Int)) (cond (a0.1 == (4 : Int)) (κ (ym a1 (B8 a0 a1.2.2.2.2.1))) (cond (a0.1 == (6 : Int)) (κ (a1.1,a1.2.1,a0.2.2.1,a0.2.2.2.1,a1.2.2.2.2)) (cond (a0.1 == (7 : Int)) (cond (a0.2.2.2.2.1 != (2 : Int)) (κ (a1.1,a1.2.1,a1.2.2.1,a1.2.2.2.1,0,a0.2.2.2.2.1,false)) (κ (a1.1,a1.2.1,a1.2.2.1,a1.2.2.2.1,a1.2.2.2.2.1,a0.2.2.2.2.1,a1.2.2.2.2.2.2))) (cond (a0.1 == (8 : Int)) (cond (a1.2.2.2.2.2.1 == (2 : Int)) (cond a1.2.2.2.2.2.2 (κ (a1.1,a1.2.1,a1.2.2.1,a1.2.2.2.1,(eJ (IntKind.wrap .i64 (a1.2.2.2.2.1 + a0.2.1)) 99),a1.2.2.2.2.2.1,true)) (κ (a1.1,a1.2.1,a1.2.2.1,a1.2.2.2.1,(eJ (IntKind.wrap .i64 (a1.2.2.2.2.1 + a0.2.1)) 99),a1.2.2.2.2.2.1,a0.2.2.2.2.2.1))) (κ a1)) (κ a1))))) (cond (a0.1 == (5 : Int)) (κ (ym a1 (B8 a0 a1.2.2.2.2.1))) (cond (a0.1 == (6 : Int)) (κ (a1.1,a1.2.1,a0.2.2.1,a0.2.2.2.1,a1.2.2.2.2)) (cond (a0.1 == (7 : Int)) (cond (a0.2.2.2.2.1 != (2 : Int)) (κ (a1.1,a1.2.1,a1.2.2.1,a1.2.2.2.1,0,a0.2.2.2.2.1,false)) (κ (a1.1,a1.2.1,a1.2.2.1,a1.2.2.2.1,a1.2.2.2.2.1,a0.2.2.2.2.1,a1.2.2.2.2.2.2))) (cond (a0.1 == (8 : Int)) (cond (a1.2.2.2.2.2.1 == (2 : Int)) (cond a1.2.2.2.2.2.2 (κ (a1.1,a1.2.1,a1.2.2.1,a1.2.2.2.1,(eJ (IntKind.wrap .i64 (a1.2.2.2.2.1 + a0.2.1)) 99),a1.2.2.2.2.2.1,true)) (κ (a1.1,a1.2.1,a1.2.2.1,a1.2.2.2.1,(eJ (IntKind.wrap .i64 (a1.2.2.2.2.1 + a0.2.1)) 99),a1.2.2.2.2.2.1,a0.2.2.2.2.2.1))) (κ a1)) (κ a1))))))
def nO (a0 : Ty.T aZ) (a1 : Ty.T y48) : (Ty.T y48) := t255 a0 a1 fun r => r
def Z7 : Prim := ⟨[.agg [.dat aZ true],.agg [.dat y48 true]],fun v => .done (f255 (nO v.1 v.2.1))⟩
theorem Ro : PO 255 Z7 := pK aaq fun v => et ((t255 v.1 v.2.1 (sm f255))) (by kernel_rfl) (show t255 v.1 v.2.1 (sm f255) = some (f255 (t255 v.1 v.2.1 fun r => r)) from (tC (tC rfl (tC rfl (tC (tC rfl rfl) (tC (tC (tC rfl rfl) rfl) rfl)))) (tC (tC rfl (tC rfl (tC (tC rfl rfl) (tC (tC (tC rfl rfl) rfl) rfl)))) (tC rfl (tC rfl (tC (tC rfl rfl) (tC (tC (tC rfl rfl) rfl) rfl)))))))
def f284 (r : Int) : AV × Sig := (.one (.int .i64 r),[])
def XF := (E0.p Fx)
def Sr (a0 : Int) (a1 : Int) : Option (AV × Sig) := some (.one (.int .i64 (gm (IntKind.wrap .i64 ((gm a0) - (gm a1))))),[])
def IF (a0 : Int) (a1 : Int) : Int := (gm (IntKind.wrap .i64 ((gm a0) - (gm a1))))
theorem acD (a0 : Int) (a1 : Int) : Sr a0 a1 = some (f284 (IF a0 a1)) := rfl
def abx : Prim := ⟨[oI,oI],fun v => .done (f284 (IF v.1 v.2.1))⟩
theorem P5 : PO 284 abx := pK XF fun v => et (Sr v.1 v.2.1) (by kernel_rfl) (acD v.1 v.2.1)
def f256 (r : (Ty.T q1) × (Ty.T y98) × (List (Ty.T y48))) : AV × Sig := (.agg ((q1.cells false r.1) ++ [.sl 81920] ++ (y98.cells false r.2.1)),[(81920,.arr 56 y48 r.2.2 false)])
def aaX := (((E0.p E6).p uB).p P5)
def t256 (a0 : Ty.T aa) (a1 : Int) {Z : Type} (κ : (Ty.T q1) × (Ty.T y98) × (List (Ty.T y48)) -> Option Z) : Option Z := cond (d207 a0) (cond (a0.2.2.2.2.2.2.1.1 == (2 : Int)) (κ ((bS a0).1,((bS a0).2.1.1,(eJ (IF a0.2.2.2.2.2.2.2.2 a1) 2147483647)),(bS a0).2.2)) (cond (decide (a0.2.2.2.2.2.2.2.2 > (0 : Int))) (κ ((bS a0).1,((bS a0).2.1.1,IntKind.wrap .i64 (a0.2.2.2.2.2.2.2.2 - (1 : Int))),(bS a0).2.2)) (κ ((bS a0).1,(bS a0).2.1,(bS a0).2.2)))) (none)
def zn (a0 : Ty.T aa) (a1 : Int) : (Ty.T q1) × (Ty.T y98) × (List (Ty.T y48)) := (t256 a0 a1 some).getD ((Ty.zero q1),(Ty.zero y98),[])
def d256 (a0 : Ty.T aa) (a1 : Int) : Bool := (t256 a0 a1 some).isSome
def XS : Prim := ⟨[.agg [.dat aa true],oI],fun v => .br (d256 v.1 v.2.1) (.done (f256 (zn v.1 v.2.1))) .no⟩
theorem RD : PO 256 XS := pK aaX fun v => et ((t256 v.1 v.2.1 (sm f256))) (by kernel_rfl) (aN (show t256 v.1 v.2.1 (sm f256) = (t256 v.1 v.2.1 some).bind _ from (bC (bC rfl (bC rfl rfl)) rfl)))
def f212 (r : Int × (Ty.T q1) × (Ty.T y98) × (List (Ty.T y48)) × (List (Ty.T y48))) : AV × Sig := (.tup [(false,([.sl 4096])),(false,([.int .i64 r.1])),(true,((q1.cells false r.2.1) ++ [.sl 90112] ++ (y98.cells false r.2.2.1)))],[(4096,.arr 56 y48 r.2.2.2.1 false),(90112,.arr 56 y48 r.2.2.2.2 false)])
def FL := ((((((((((E0.p E7).p KJ).p E6).p Nw).p Na).p uB).p Nj).p VF).p Ro).p RD)
@[reducible] def Fk : List SP := U2 (.one (.ptr 2 0) :: .one (.ptr 3 0) :: .one (.dat (.sl 56 y48) false) :: oI :: .one (.ptr 6 0) :: U64 (U32 ([])))
@[reducible] def qB : List (Nat × GP) := [(2,.box 103 [.dat aa true]),(3,.box 56 [.dat y48 false]),(6,.box 103 [.dat aa false])]
@[reducible] def qO : Type := (List (Ty.T y48)) × Int × (Ty.T aa) × (Ty.T y48) × (Ty.T aa) × Unit
@[reducible] def FD : List SP := U2 (.one (.ptr 2 0) :: .one (.ptr 3 0) :: .one (.dat (.sl 56 y48) false) :: oI :: .one (.ptr 6 0) :: U16 (U2 (.und :: .one (.dat .bool true) :: U64 (U8 (U4 ([]))))))
def BU (v : qO) (r : Bool) : Ex × St := (.normal,ar FD qB (v.1,v.2.1,r,v.2.2.1,v.2.2.2.1,v.2.2.2.2.1,()))
def pz (v : qO) {Z : Type} (κ : Bool -> Option Z) : Option Z := cond (d200 v.2.2.1) (cond (!(iu v.2.2.1)) (κ true) (cond (!(dO v.2.2.2.1)) (κ true) (κ (!(qw v.2.2.1.2.2.2.2.2.2.1 v.2.2.2.1.1))))) (none)
def xv (v : qO) : Bool := (pz v some).getD false
def wJ (v : qO) : Bool := (pz v some).isSome
def IK (v : qO) : aL (Ex × St) := .br (wJ v) (.done (BU v (xv v))) .no
theorem OA : bo Tryz.prog (aO (pb 3 1) (ab Tryz.f212)) Fk qB IK := bf (lt := .none) (sx := FD) (gx := qB) FL.ok ak (af.no _) fun v => et (pz v (sm (BU v))) (by kernel_rfl) (aN (show pz v (sm (BU v)) = (pz v some).bind _ from (bC (bC rfl (bC rfl rfl)) rfl)))
@[reducible] def E1 : List SP := U2 (.one (.ptr 2 0) :: .one (.ptr 3 0) :: .one (.dat (.sl 56 y48) false) :: oI :: .one (.ptr 6 0) :: .one (.own 31) :: oI :: U16 (U8 (.und :: oI :: U4 (U2 (.und :: .one (.dat .bool true) :: U32 (U16 (U8 (U4 ([])))))))))
@[reducible] def Ev : List (Nat × GP) := [(2,.box 103 [.dat aa true]),(3,.box 56 [.dat y48 false]),(6,.box 103 [.dat aa false]),(31,.arr 56 y48 false)]
@[reducible] def qK : Type := (List (Ty.T y48)) × Int × Int × Int × Bool × (Ty.T aa) × (Ty.T y48) × (Ty.T aa) × (List (Ty.T y48)) × Unit
@[reducible] def Fa : List SP := U2 (.one (.ptr 2 0) :: .und :: .one (.dat (.sl 56 y48) false) :: oI :: .one (.ptr 6 0) :: .one (.own 31) :: oI :: U64 (U16 (U8 (U4 (U2 ([]))))))
@[reducible] def E2 : List (Nat × GP) := [(2,.box 103 [.dat aa true]),(6,.box 103 [.dat aa false]),(31,.arr 56 y48 false)]
def Dr (v : qK) (r : Int × (List (Ty.T y48))) : Ex × St := (.normal,ar Fa E2 (v.1,v.2.1,r.1,v.2.2.2.2.2.1,v.2.2.2.2.2.2.2.1,r.2,()))
def cN (v : qK) {Z : Type} (κ : Int × (List (Ty.T y48)) -> Option Z) : Option Z := cond v.2.2.2.2.1 (cond (v.2.2.2.2.2.2.1.1 == (1 : Int)) (κ (v.2.2.2.2.2.2.1.2.2.2.2.1,v.2.2.2.2.2.2.2.2.1)) (κ (v.2.2.1,v.2.2.2.2.2.2.2.2.1))) (cond (v.2.2.2.1 == (2 : Int)) (if (v.2.2.2.2.2.2.2.2.1 ++ [(ym v.2.2.2.2.2.2.1 (IntKind.wrap .i64 (v.2.2.2.2.2.2.1.2.2.2.2.1 - (eJ v.2.2.2.2.2.2.1.2.2.2.2.1 v.2.2.2.2.2.1.2.2.2.2.2.2.2.2))))] : List (Ty.T y48)).length * 56 <= 140737488351232 then (κ ((eJ v.2.2.2.2.2.2.1.2.2.2.2.1 v.2.2.2.2.2.1.2.2.2.2.2.2.2.2),v.2.2.2.2.2.2.2.2.1 ++ [(ym v.2.2.2.2.2.2.1 (IntKind.wrap .i64 (v.2.2.2.2.2.2.1.2.2.2.2.1 - (eJ v.2.2.2.2.2.2.1.2.2.2.2.1 v.2.2.2.2.2.1.2.2.2.2.2.2.2.2))))])) else none) (cond (v.2.2.2.1 == (9 : Int)) (cond (d254 v.2.2.2.2.2.1.2.2.2.2.2.2.1 v.2.2.2.2.2.2.1) (κ (v.2.2.1,(xi v.2.2.2.2.2.1.2.2.2.2.2.2.1 v.2.2.2.2.2.2.1))) (none)) (if (v.2.2.2.2.2.2.2.2.1 ++ [(nO v.2.2.2.2.2.1.2.2.2.2.2.2.1 v.2.2.2.2.2.2.1)] : List (Ty.T y48)).length * 56 <= 140737488351232 then (κ (v.2.2.1,v.2.2.2.2.2.2.2.2.1 ++ [(nO v.2.2.2.2.2.1.2.2.2.2.2.2.1 v.2.2.2.2.2.2.1)])) else none)))
def bJ (v : qK) : Int × (List (Ty.T y48)) := (cN v some).getD (0,[])
def ec (v : qK) : Bool := (cN v some).isSome
def Jw (v : qK) : aL (Ex × St) := .br (ec v) (.done (Dr v (bJ v))) .no
theorem Og : bo Tryz.prog (aO (pb 7 111) (ab Tryz.f212)) E1 Ev Jw := bf (lt := .none) (sx := Fa) (gx := E2) FL.ok ak (af.no _) fun v => et (cN v (sm (Dr v))) (by kernel_rfl) (aN (show cN v (sm (Dr v)) = (cN v some).bind _ from by unfold cN; simp only [bb]))
@[reducible] def E9 : List SP := U2 (.one (.ptr 2 0) :: .und :: .one (.dat (.sl 56 y48) false) :: oI :: .one (.ptr 6 0) :: .one (.own 31) :: oI :: .one (.own 71) :: oI :: U32 (U16 (U8 (U4 (.und :: oI :: .one (.own 31) :: oI :: .one (.dat .bool true) :: U16 (U8 (U2 (.und :: []))))))))
@[reducible] def ej : List (Nat × GP) := [(2,.box 103 [.dat aa true]),(6,.box 103 [.dat aa false]),(31,.arr 56 y48 false),(71,.arr 56 y48 false)]
@[reducible] def rk : Type := (List (Ty.T y48)) × Int × Int × Int × Int × Int × Bool × (Ty.T aa) × (Ty.T aa) × (List (Ty.T y48)) × (List (Ty.T y48)) × Unit
@[reducible] def kN : List SP := U2 (.one (.ptr 2 0) :: .und :: .one (.dat (.sl 56 y48) false) :: oI :: .one (.ptr 6 0) :: .one (.own 31) :: oI :: .one (.own 71) :: oI :: U32 (U16 (U8 (U4 (.und :: oI :: .one (.own 31) :: oI :: .one (.dat .bool true) :: U2 (.one (.own 31) :: oI :: .und :: .agg [.dat y48 false] :: .one (.dat .bool true) :: .one (.dat .bool true) :: U4 (U2 (.one (.dat .bool true) :: U8 (U4 ([]))))))))))
def Di (v : rk) (r : (Ty.T y48) × Bool × Bool × Bool) : Ex × St := (.normal,ar kN ej (v.1,v.2.1,v.2.2.1,v.2.2.2.1,v.2.2.2.2.1,v.2.2.2.2.2.1,v.2.2.2.2.2.2.1,v.2.2.2.1,r.1,r.2.1,r.2.2.1,r.2.2.2,v.2.2.2.2.2.2.2.1,v.2.2.2.2.2.2.2.2.1,v.2.2.2.2.2.2.2.2.2.1,v.2.2.2.2.2.2.2.2.2.2.1,()))
def l5 (v : rk) {Z : Type} (κ : (Ty.T y48) × Bool × Bool × Bool -> Option Z) : Option Z := if 0 <= v.2.2.2.1 then (if v.2.2.2.1 < ((v.2.2.2.2.2.2.2.2.2.1).length : Int) then (ay ((v.2.2.2.2.2.2.2.2.2.1)[(v.2.2.2.1).toNat]?) (fun x1 => cond (dO x1) (if 0 <= v.2.2.2.1 then (if v.2.2.2.1 < ((v.2.2.2.2.2.2.2.2.2.1).length : Int) then (ay ((v.2.2.2.2.2.2.2.2.2.1)[(v.2.2.2.1).toNat]?) (fun x2 => κ (x1,(dO x1),true,!(tj x2)))) else none) else none) (κ (x1,(dO x1),false,false)))) else none) else none
def Dl (v : rk) : (Ty.T y48) × Bool × Bool × Bool := (l5 v some).getD ((Ty.zero y48),false,false,false)
def Dn (v : rk) : Bool := (l5 v some).isSome
def Ke (v : rk) : aL (Ex × St) := .br (Dn v) (.done (Di v (Dl v))) .no
theorem NU : bo Tryz.prog (aO [true,false,false] (aw (pb 8 191) (ab Tryz.f212))) E9 ej Ke := bf (lt := .none) (sx := kN) (gx := ej) FL.ok ak (af.no _) fun v => et (l5 v (sm (Di v))) (by kernel_rfl) (aN (show l5 v (sm (Di v)) = (l5 v some).bind _ from by unfold l5; simp only [bb]))
@[reducible] def tx : Type := (List (Ty.T y48)) × Int × Int × Int × Int × Int × Bool × Int × (Ty.T y48) × Bool × Bool × Bool × (Ty.T aa) × (Ty.T aa) × (List (Ty.T y48)) × (List (Ty.T y48)) × Unit
def Dv (v : tx) (r : (List (Ty.T y48))) : Ex × St := (.normal,ar kN ej (v.1,v.2.1,v.2.2.1,v.2.2.2.1,v.2.2.2.2.1,v.2.2.2.2.2.1,v.2.2.2.2.2.2.1,v.2.2.2.2.2.2.2.1,v.2.2.2.2.2.2.2.2.1,v.2.2.2.2.2.2.2.2.2.1,v.2.2.2.2.2.2.2.2.2.2.1,v.2.2.2.2.2.2.2.2.2.2.2.1,v.2.2.2.2.2.2.2.2.2.2.2.2.1,v.2.2.2.2.2.2.2.2.2.2.2.2.2.1,v.2.2.2.2.2.2.2.2.2.2.2.2.2.2.1,r,()))
def nQ (v : tx) {Z : Type} (κ : (List (Ty.T y48)) -> Option Z) : Option Z := cond v.2.2.2.2.2.2.2.2.2.2.2.1 (if 0 <= v.2.2.2.1 then (if v.2.2.2.1 < ((v.2.2.2.2.2.2.2.2.2.2.2.2.2.2.1).length : Int) then (ay ((v.2.2.2.2.2.2.2.2.2.2.2.2.2.2.1)[(v.2.2.2.1).toNat]?) (fun x3 => if (v.2.2.2.2.2.2.2.2.2.2.2.2.2.2.2.1 ++ [x3] : List (Ty.T y48)).length * 56 <= 140737488351232 then (κ (v.2.2.2.2.2.2.2.2.2.2.2.2.2.2.2.1 ++ [x3])) else none)) else none) else none) (κ v.2.2.2.2.2.2.2.2.2.2.2.2.2.2.2.1)
def CM (v : tx) : (List (Ty.T y48)) := (nQ v some).getD []
def CQ (v : tx) : Bool := (nQ v some).isSome
def J5 (v : tx) : aL (Ex × St) := .br (CQ v) (.done (Dv v (CM v))) .no
theorem Pz : bo Tryz.prog (aO [true,false,true] (aw (pb 8 191) (ab Tryz.f212))) kN ej J5 := bf (lt := .none) (sx := kN) (gx := ej) FL.ok ak (af.no _) fun v => et (nQ v (sm (Dv v))) (by kernel_rfl) (aN (show nQ v (sm (Dv v)) = (nQ v some).bind _ from (bC (bI (bI (bO fun x3 => (bI rfl)))) rfl)))
@[reducible] def xT : List SP := U2 (.one (.ptr 2 0) :: .und :: .one (.dat (.sl 56 y48) false) :: oI :: .one (.ptr 6 0) :: .one (.own 31) :: oI :: .one (.own 71) :: oI :: U64 (U16 (U8 (U4 ([])))))
@[reducible] def kb : Type := (List (Ty.T y48)) × Int × Int × Int × (Ty.T aa) × (Ty.T aa) × (List (Ty.T y48)) × (List (Ty.T y48)) × Unit
def iG (v : kb) := (Dl (v.1,v.2.1,v.2.2.1,v.2.2.2.1,v.2.2.2.1,((v.2.2.2.2.2.2.1).length : Int),decide (v.2.2.2.1 < ((v.2.2.2.2.2.2.1).length : Int)),v.2.2.2.2.1,v.2.2.2.2.2.1,v.2.2.2.2.2.2.1,v.2.2.2.2.2.2.2.1,()))
def oW (v : kb) {Z : Type} (κ : Nat × kb -> Option Z) : Option Z := cond (decide (v.2.2.2.1 < ((v.2.2.2.2.2.2.1).length : Int))) (cond (Dn (v.1,v.2.1,v.2.2.1,v.2.2.2.1,v.2.2.2.1,((v.2.2.2.2.2.2.1).length : Int),decide (v.2.2.2.1 < ((v.2.2.2.2.2.2.1).length : Int)),v.2.2.2.2.1,v.2.2.2.2.2.1,v.2.2.2.2.2.2.1,v.2.2.2.2.2.2.2.1,())) (cond (CQ (v.1,v.2.1,v.2.2.1,v.2.2.2.1,v.2.2.2.1,((v.2.2.2.2.2.2.1).length : Int),(decide (v.2.2.2.1 < ((v.2.2.2.2.2.2.1).length : Int))),v.2.2.2.1,(iG v).1,(iG v).2.1,(iG v).2.2.1,(iG v).2.2.2,v.2.2.2.2.1,v.2.2.2.2.2.1,v.2.2.2.2.2.2.1,v.2.2.2.2.2.2.2.1,())) (κ (0,(v.1,v.2.1,v.2.2.1,IntKind.wrap .i64 (v.2.2.2.1 + (1 : Int)),v.2.2.2.2.1,v.2.2.2.2.2.1,v.2.2.2.2.2.2.1,(CM (v.1,v.2.1,v.2.2.1,v.2.2.2.1,v.2.2.2.1,((v.2.2.2.2.2.2.1).length : Int),(decide (v.2.2.2.1 < ((v.2.2.2.2.2.2.1).length : Int))),v.2.2.2.1,(iG v).1,(iG v).2.1,(iG v).2.2.1,(iG v).2.2.2,v.2.2.2.2.1,v.2.2.2.2.2.1,v.2.2.2.2.2.2.1,v.2.2.2.2.2.2.2.1,())),()))) (none)) (none)) (κ (1,(v.1,v.2.1,v.2.2.1,v.2.2.2.1,v.2.2.2.2.1,v.2.2.2.2.2.1,v.2.2.2.2.2.2.1,v.2.2.2.2.2.2.2.1,())))
def ly (v : kb) : Option (Nat × kb) := oW v some
def sD (v : kb) : Nat := v.1.length + v.2.1.toNat + v.2.2.1.toNat + v.2.2.2.1.toNat + v.2.2.2.2.1.2.2.2.2.2.2.1.2.2.2.2.2.2.length + v.2.2.2.2.2.1.2.2.2.2.2.2.1.2.2.2.2.2.2.length + v.2.2.2.2.2.2.1.length + v.2.2.2.2.2.2.2.1.length + 100
def Ja (h0 : List (Ty.T y48)) (h1 : Int) (h2 : Int) (h3 : Int) (h4 : Ty.T aa) (h5 : Ty.T aa) (h6 : List (Ty.T y48)) (h7 : List (Ty.T y48)) (c : Nat) : Bool := iK ly sD (h0,h1,h2,h3,h4,h5,h6,h7,()) c
def HF (h0 : List (Ty.T y48)) (h1 : Int) (h2 : Int) (h3 : Int) (h4 : Ty.T aa) (h5 : Ty.T aa) (h6 : List (Ty.T y48)) (h7 : List (Ty.T y48)) : kb := iW ly sD (h0,h1,h2,h3,h4,h5,h6,h7,())
def Ho (v : kb) : aL (Ex × St) := aM ly (sD v) v (ar xT ej) [.exit 1] 0
theorem Oj : aH Tryz.prog (aw (pb 8 191) (ab Tryz.f212)) xT ej Ho := ag (lt := (aX [true,false,true] (aw (pb 8 191) (ab Tryz.f212)) (aX [true,false,false] (aw (pb 8 191) (ab Tryz.f212)) .none (.sum E9 ej Ke)) (.sum kN ej J5))) FL.ok ak (af.cX (aA (by kernel_rfl)) (af.cX (aA (by kernel_rfl)) (af.no _) NU) Pz) fun n v K => et (oW v (bL _ _ _ _ _ K)) (by kernel_rfl) (show oW v _ = (oW v some).bind _ from (bC (bC (bC rfl rfl) rfl) rfl))
def Q9 := FL.l (g := 212) (t := (aX (pb 8 191) (ab Tryz.f212) (aX (pb 7 111) (ab Tryz.f212) (aX (pb 3 1) (ab Tryz.f212) .none (.sum Fk qB IK)) (.sum E1 Ev Jw)) (.sum xT ej Ho))) (aC Tryz.func212 (af.zZ (by kernel_rfl) (aA (by kernel_rfl)) (af.cX (aA (by kernel_rfl)) (af.cX (aA (by kernel_rfl)) (af.no _) OA) Og) Oj))
def te (a0 : Ty.T aa) (a1 : Ty.T y48) := (bJ ([],0,0,a0.2.2.2.2.2.2.1.1,(a0.2.2.2.2.2.2.1.1 == (1 : Int)),a0,a1,(0,0,0,0,(0,0,0,0,0,0,0),(0,0),(0,0,0,0,0,false,[]),0,0),[],()))
def fQ (a0 : Ty.T aa) (a1 : Ty.T y48) := (HF [] 0 (te a0 a1).1 0 a0 (0,0,0,0,(0,0,0,0,0,0,0),(0,0),(0,0,0,0,0,false,[]),0,0) (te a0 a1).2 [])
def t212 (a0 : Ty.T aa) (a1 : Ty.T y48) {Z : Type} (κ : Int × (Ty.T q1) × (Ty.T y98) × (List (Ty.T y48)) × (List (Ty.T y48)) -> Option Z) : Option Z := cond (wJ ([],0,a0,a1,(0,0,0,0,(0,0,0,0,0,0,0),(0,0),(0,0,0,0,0,false,[]),0,0),())) (cond (xv ([],0,a0,a1,(0,0,0,0,(0,0,0,0,0,0,0),(0,0),(0,0,0,0,0,false,[]),0,0),())) (cond (d207 a0) (κ (0,(bS a0).1,(bS a0).2.1,[a1],(bS a0).2.2)) (none)) (cond (ec ([],0,0,a0.2.2.2.2.2.2.1.1,(a0.2.2.2.2.2.2.1.1 == (1 : Int)),a0,a1,(0,0,0,0,(0,0,0,0,0,0,0),(0,0),(0,0,0,0,0,false,[]),0,0),[],())) (cond (Ja [] 0 (te a0 a1).1 0 a0 (0,0,0,0,(0,0,0,0,0,0,0),(0,0),(0,0,0,0,0,false,[]),0,0) (te a0 a1).2 [] 0) (cond (d256 (fQ a0 a1).2.2.2.2.1 (fQ a0 a1).2.2.1) (κ ((fQ a0 a1).2.2.1,(zn (fQ a0 a1).2.2.2.2.1 (fQ a0 a1).2.2.1).1,(zn (fQ a0 a1).2.2.2.2.1 (fQ a0 a1).2.2.1).2.1,(fQ a0 a1).2.2.2.2.2.2.2.1,(zn (fQ a0 a1).2.2.2.2.1 (fQ a0 a1).2.2.1).2.2)) (none)) (none)) (none))) (none)
def cu (a0 : Ty.T aa) (a1 : Ty.T y48) : Int × (Ty.T q1) × (Ty.T y98) × (List (Ty.T y48)) × (List (Ty.T y48)) := (t212 a0 a1 some).getD (0,(Ty.zero q1),(Ty.zero y98),[],[])
def d212 (a0 : Ty.T aa) (a1 : Ty.T y48) : Bool := (t212 a0 a1 some).isSome
def acO : Prim := ⟨[.agg [.dat aa true],.agg [.dat y48 true]],fun v => .br (d212 v.1 v.2.1) (.done (f212 (cu v.1 v.2.1))) .no⟩
theorem VI : PO 212 acO := pK Q9 fun v => et ((t212 v.1 v.2.1 (sm f212))) (by kernel_rfl) (aN (show t212 v.1 v.2.1 (sm f212) = (t212 v.1 v.2.1 some).bind _ from by unfold t212; simp only [bb]))
def f213 (r : (List (Ty.T aa))) : AV × Sig := (.one (.sl 4096),[(4096,.arr 103 aa r false)])
def acg := (((E0.p Ny).p E6).p Nm)
def t213 (a0 : List (Ty.T aa)) (a1 : Ty.T aa) {Z : Type} (κ : (List (Ty.T aa)) -> Option Z) : Option Z := cond (d147 a0) (cond (d211 a0 a1.1) (cond (decide ((jB a0 a1.1) ≥ (0 : Int))) (cond (d207 a1) (if 0 <= (jB a0 a1.1) then (if (jB a0 a1.1) < (((gV a0)).length : Int) then (ay (((gV a0))[(jB a0 a1.1).toNat]?) (fun x1 => κ ((gV a0).set ((jB a0 a1.1).toNat) ((bS a1).1.1,(bS a1).1.2.1,(bS a1).1.2.2.1,(bS a1).1.2.2.2.1,(bS a1).1.2.2.2.2.1,(bS a1).1.2.2.2.2.2.1,((bS a1).1.2.2.2.2.2.2.1,(bS a1).1.2.2.2.2.2.2.2.1,(bS a1).1.2.2.2.2.2.2.2.2.1,(bS a1).1.2.2.2.2.2.2.2.2.2.1,(bS a1).1.2.2.2.2.2.2.2.2.2.2.1,(bS a1).1.2.2.2.2.2.2.2.2.2.2.2,(bS a1).2.2),(bS a1).2.1)))) else none) else none) (none)) (κ (gV a0))) (none)) (none)
def A7 (a0 : List (Ty.T aa)) (a1 : Ty.T aa) : (List (Ty.T aa)) := (t213 a0 a1 some).getD []
def d213 (a0 : List (Ty.T aa)) (a1 : Ty.T aa) : Bool := (t213 a0 a1 some).isSome
def Zo : Prim := ⟨[.one (.dat (.sl 103 aa) true),.agg [.dat aa true]],fun v => .br (d213 v.1 v.2.1) (.done (f213 (A7 v.1 v.2.1))) .no⟩
theorem Qa : PO 213 Zo := pK acg fun v => et ((t213 v.1 v.2.1 (sm f213))) (by kernel_rfl) (aN (show t213 v.1 v.2.1 (sm f213) = (t213 v.1 v.2.1 some).bind _ from by unfold t213; simp only [bb]))
def f214 (r : Int) : AV × Sig := (.one (.int .i64 r),[])
def WG := (E0.p NG)
def Rb (a0 : Ty.T y36) (a1 : Ty.T y48) : Option (AV × Sig) := cond (d257 a0 a1) (cond ((mV a0 a1) == (-1 : Int)) (some (.one (.int .i64 a0.2.2.1),[])) (some (.one (.int .i64 (mV a0 a1)),[]))) (none)
def wD (a0 : Ty.T y36) (a1 : Ty.T y48) : Int := cond (d257 a0 a1) (cond ((mV a0 a1) == (-1 : Int)) (a0.2.2.1) ((mV a0 a1))) (0)
def d214 (a0 : Ty.T y36) (a1 : Ty.T y48) : Bool := cond (d257 a0 a1) (cond ((mV a0 a1) == (-1 : Int)) (true) (true)) (false)
theorem ab5 (a0 : Ty.T y36) (a1 : Ty.T y48) : Rb a0 a1 = cond (d214 a0 a1) (some (f214 (wD a0 a1))) none := (pC (pC (pS _) (pS _)) (pN _))
def ZZ : Prim := ⟨[.agg [.dat y36 true],.agg [.dat y48 true]],fun v => .br (d214 v.1 v.2.1) (.done (f214 (wD v.1 v.2.1))) .no⟩
theorem Rf : PO 214 ZZ := pK WG fun v => et (Rb v.1 v.2.1) (by kernel_rfl) (ab5 v.1 v.2.1)
def f258 (r : (List (Ty.T (.int .i64)))) : AV × Sig := (.one (.sl 4096),[(4096,.arr 3 (.int .i64) r false)])
def Jt := (E0.p Ng)
@[reducible] def iZ : List SP := .one (.dat (.sl 3 (.int .i64)) true) :: .und :: .one (.dat (.sl 3 (.int .i64)) false) :: .one (.own 6) :: oI :: oI :: .und :: oI :: .one (.dat (.sl 3 (.int .i64)) true) :: oI :: .one (.dat .bool true) :: U2 (.one (.own 6) :: .one (.dat (.sl 3 (.int .i64)) true) :: oI :: .one (.ept (.int .i64)) :: oI :: .one (.dat .bool true) :: .one (.own 6) :: oI :: U32 ([]))
@[reducible] def cL : List (Nat × GP) := [(6,.arr 3 (.int .i64) false)]
@[reducible] def cZ : Type := (List (Ty.T (.int .i64))) × (List (Ty.T (.int .i64))) × Int × Int × Int × (List (Ty.T (.int .i64))) × Int × Bool × (List (Ty.T (.int .i64))) × Int × Int × Int × Bool × Int × (List (Ty.T (.int .i64))) × Unit
@[reducible] def Fz : List SP := .one (.dat (.sl 3 (.int .i64)) true) :: .und :: .one (.dat (.sl 3 (.int .i64)) false) :: .one (.own 6) :: oI :: oI :: .und :: oI :: .one (.dat (.sl 3 (.int .i64)) true) :: oI :: .one (.dat .bool true) :: U2 (.one (.own 6) :: .one (.dat (.sl 3 (.int .i64)) true) :: oI :: .one (.ept (.int .i64)) :: oI :: .one (.dat .bool true) :: .one (.own 6) :: oI :: oI :: .one (.dat .bool true) :: .one (.dat .bool true) :: U8 (U2 (.one (.dat .bool true) :: U16 (U2 ([])))))
def CE (v : cZ) (r : Bool × Bool) : Ex × St := (.normal,ar Fz cL (v.1,v.2.1,v.2.2.1,v.2.2.2.1,v.2.2.2.2.1,v.2.2.2.2.2.1,v.2.2.2.2.2.2.1,v.2.2.2.2.2.2.2.1,v.2.2.2.2.2.2.2.2.1,v.2.2.2.2.2.2.2.2.2.1,v.2.2.2.2.2.2.2.2.2.2.1,v.2.2.2.2.2.2.2.2.2.2.2.1,v.2.2.2.2.2.2.2.2.2.2.2.2.1,v.2.2.2.2.2.2.2.2.2.2.2.2.2.1,v.2.2.2.1,decide (v.2.2.2.1 > (0 : Int)),r.1,r.2,v.2.2.2.2.2.2.2.2.2.2.2.2.2.2.1,()))
def iD (v : cZ) {Z : Type} (κ : Bool × Bool -> Option Z) : Option Z := cond (decide (v.2.2.2.1 > (0 : Int))) (if 0 <= (IntKind.wrap .i64 (v.2.2.2.1 - (1 : Int))) then (if (IntKind.wrap .i64 (v.2.2.2.1 - (1 : Int))) < ((v.2.2.2.2.2.2.2.2.2.2.2.2.2.2.1).length : Int) then (ay ((v.2.2.2.2.2.2.2.2.2.2.2.2.2.2.1)[(IntKind.wrap .i64 (v.2.2.2.1 - (1 : Int))).toNat]?) (fun x2 => if 0 <= v.2.2.1 then (ay ((v.1)[(v.2.2.1).toNat]?) (fun x3 => κ (true,decide (x2 > x3)))) else none)) else none) else none) (κ (false,false))
def rZ (v : cZ) : Bool × Bool := (iD v some).getD (false,false)
def tf (v : cZ) : Bool := (iD v some).isSome
def Im (v : cZ) : aL (Ex × St) := .br (tf v) (.done (CE v (rZ v))) .no
theorem OE : bo Tryz.prog (aO [false,false] (aw [true,false,true,true,false] (aw (pb 4 11) (ab Tryz.f258)))) iZ cL Im := bf (lt := .none) (sx := Fz) (gx := cL) Jt.ok ak (af.no _) fun v => et (iD v (sm (CE v))) (by kernel_rfl) (aN (show iD v (sm (CE v)) = (iD v some).bind _ from by unfold iD; simp only [bb]))
def lC (v : cZ) {Z : Type} (κ : Nat × cZ -> Option Z) : Option Z := cond (tf (v.1,v.2.1,v.2.2.1,v.2.2.2.1,v.2.2.2.2.1,v.2.2.2.2.2.1,v.2.2.2.2.2.2.1,v.2.2.2.2.2.2.2.1,v.2.2.2.2.2.2.2.2.1,v.2.2.2.2.2.2.2.2.2.1,v.2.2.2.2.2.2.2.2.2.2.1,v.2.2.2.2.2.2.2.2.2.2.2.1,v.2.2.2.2.2.2.2.2.2.2.2.2.1,v.2.2.2.2.2.2.2.2.2.2.2.2.2.1,v.2.2.2.2.2.2.2.2.2.2.2.2.2.2.1,())) (cond (rZ (v.1,v.2.1,v.2.2.1,v.2.2.2.1,v.2.2.2.2.1,v.2.2.2.2.2.1,v.2.2.2.2.2.2.1,v.2.2.2.2.2.2.2.1,v.2.2.2.2.2.2.2.2.1,v.2.2.2.2.2.2.2.2.2.1,v.2.2.2.2.2.2.2.2.2.2.1,v.2.2.2.2.2.2.2.2.2.2.2.1,v.2.2.2.2.2.2.2.2.2.2.2.2.1,v.2.2.2.2.2.2.2.2.2.2.2.2.2.1,v.2.2.2.2.2.2.2.2.2.2.2.2.2.2.1,())).2 (κ (0,(v.1,v.2.1,v.2.2.1,IntKind.wrap .i64 (v.2.2.2.1 - (1 : Int)),v.2.2.2.2.1,v.2.2.2.2.2.1,v.2.2.2.2.2.2.1,v.2.2.2.2.2.2.2.1,v.2.2.2.2.2.2.2.2.1,v.2.2.2.2.2.2.2.2.2.1,v.2.2.2.2.2.2.2.2.2.2.1,v.2.2.2.2.2.2.2.2.2.2.2.1,v.2.2.2.2.2.2.2.2.2.2.2.2.1,v.2.2.2.2.2.2.2.2.2.2.2.2.2.1,v.2.2.2.2.2.2.2.2.2.2.2.2.2.2.1,()))) (κ (1,(v.1,v.2.1,v.2.2.1,v.2.2.2.1,v.2.2.2.2.1,v.2.2.2.2.2.1,v.2.2.2.2.2.2.1,v.2.2.2.2.2.2.2.1,v.2.2.2.2.2.2.2.2.1,v.2.2.2.2.2.2.2.2.2.1,v.2.2.2.2.2.2.2.2.2.2.1,v.2.2.2.2.2.2.2.2.2.2.2.1,v.2.2.2.2.2.2.2.2.2.2.2.2.1,v.2.2.2.2.2.2.2.2.2.2.2.2.2.1,v.2.2.2.2.2.2.2.2.2.2.2.2.2.2.1,())))) (none)
def jW (v : cZ) : Option (Nat × cZ) := lC v some
def oP (v : cZ) : Nat := v.1.length + v.2.1.length + v.2.2.1.toNat + v.2.2.2.1.toNat + v.2.2.2.2.1.toNat + v.2.2.2.2.2.1.length + v.2.2.2.2.2.2.1.toNat + v.2.2.2.2.2.2.2.2.1.length + v.2.2.2.2.2.2.2.2.2.1.toNat + v.2.2.2.2.2.2.2.2.2.2.1.toNat + v.2.2.2.2.2.2.2.2.2.2.2.1.toNat + v.2.2.2.2.2.2.2.2.2.2.2.2.2.1.toNat + v.2.2.2.2.2.2.2.2.2.2.2.2.2.2.1.length + 100
def KP (h0 : List (Ty.T (.int .i64))) (h1 : List (Ty.T (.int .i64))) (h2 : Int) (h3 : Int) (h4 : Int) (h5 : List (Ty.T (.int .i64))) (h6 : Int) (h7 : Bool) (h8 : List (Ty.T (.int .i64))) (h9 : Int) (h10 : Int) (h11 : Int) (h12 : Bool) (h13 : Int) (h14 : List (Ty.T (.int .i64))) (c : Nat) : Bool := iK jW oP (h0,h1,h2,h3,h4,h5,h6,h7,h8,h9,h10,h11,h12,h13,h14,()) c
def H6 (h0 : List (Ty.T (.int .i64))) (h1 : List (Ty.T (.int .i64))) (h2 : Int) (h3 : Int) (h4 : Int) (h5 : List (Ty.T (.int .i64))) (h6 : Int) (h7 : Bool) (h8 : List (Ty.T (.int .i64))) (h9 : Int) (h10 : Int) (h11 : Int) (h12 : Bool) (h13 : Int) (h14 : List (Ty.T (.int .i64))) : cZ := iW jW oP (h0,h1,h2,h3,h4,h5,h6,h7,h8,h9,h10,h11,h12,h13,h14,())
def HL (v : cZ) : aL (Ex × St) := aM jW (oP v) v (ar iZ cL) [.exit 2] 0
theorem NV : aH Tryz.prog (aw [true,false,true,true,false] (aw (pb 4 11) (ab Tryz.f258))) iZ cL HL := ag (lt := (aX [false,false] (aw [true,false,true,true,false] (aw (pb 4 11) (ab Tryz.f258))) .none (.sum iZ cL Im))) Jt.ok ak (af.cX (aA (by kernel_rfl)) (af.no _) OE) fun n v K => et (lC v (bL _ _ _ _ _ K)) (by kernel_rfl) (show lC v _ = (lC v some).bind _ from (bC (bC rfl rfl) rfl))
@[reducible] def Es : List SP := .one (.dat (.sl 3 (.int .i64)) true) :: .und :: .one (.dat (.sl 3 (.int .i64)) false) :: .one (.own 37) :: oI :: oI :: .und :: oI :: .one (.dat (.sl 3 (.int .i64)) true) :: oI :: .one (.dat .bool true) :: U2 (.und :: .one (.dat (.sl 3 (.int .i64)) true) :: oI :: .one (.ept (.int .i64)) :: oI :: .one (.dat .bool true) :: .und :: oI :: U16 (U2 (oI :: .one (.own 6) :: .und :: .one (.dat (.sl 3 (.int .i64)) true) :: oI :: .one (.ept (.int .i64)) :: oI :: .one (.own 46) :: U2 (oI :: .und :: .one (.own 37) :: .und :: []))))
@[reducible] def Ek : List (Nat × GP) := [(6,.arr 3 (.int .i64) false),(37,.arr 3 (.int .i64) false),(46,.arr 3 (.int .i64) false)]
def B4 (v : cZ) (r : Int × Int × (List (Ty.T (.int .i64))) × (List (Ty.T (.int .i64)))) : Ex × St := (.normal,ar Es Ek (v.1,v.2.1,v.2.2.1,v.2.2.2.1,v.2.2.2.2.1,v.2.2.2.2.2.1,v.2.2.2.2.2.2.1,v.2.2.2.2.2.2.2.1,v.2.2.2.2.2.2.2.2.1,v.2.2.2.2.2.2.2.2.2.1,v.2.2.2.2.2.2.2.2.2.2.1,v.2.2.2.2.2.2.2.2.2.2.2.1,v.2.2.2.2.2.2.2.2.2.2.2.2.1,v.2.2.2.2.2.2.2.2.2.2.2.2.2.1,v.2.2.2.1,v.1,v.2.2.1,r.1,r.2.1,v.2.2.2.1,v.2.2.2.2.2.2.2.2.2.2.2.2.2.2.1.take ((v.2.2.2.1).toNat),r.2.2.1,r.2.2.2,()))
def mi (v : cZ) {Z : Type} (κ : Int × Int × (List (Ty.T (.int .i64))) × (List (Ty.T (.int .i64))) -> Option Z) : Option Z := if 0 <= v.2.2.2.1 then (if v.2.2.2.1 <= ((v.2.2.2.2.2.2.2.2.2.2.2.2.2.2.1).length : Int) then (if 0 <= v.2.2.1 then (ay ((v.1)[(v.2.2.1).toNat]?) (fun x4 => if 0 <= v.2.2.2.1 then (if v.2.2.2.1 <= ((v.2.2.2.2.2.2.2.2.2.2.2.2.2.2.1).length : Int) then (if ([] ++ (((v.2.2.2.2.2.2.2.2.2.2.2.2.2.2.1).drop 0).take ((v.2.2.2.1).toNat)) : List (Ty.T (.int .i64))).length * 8 <= 140737488351232 then (if (([] ++ (((v.2.2.2.2.2.2.2.2.2.2.2.2.2.2.1).drop 0).take ((v.2.2.2.1).toNat))) ++ [x4] : List (Ty.T (.int .i64))).length * 8 <= 140737488351232 then (if ((([] ++ (((v.2.2.2.2.2.2.2.2.2.2.2.2.2.2.1).drop 0).take ((v.2.2.2.1).toNat))) ++ [x4]) ++ (((v.2.2.2.2.2.2.2.2.2.2.2.2.2.2.1).drop ((v.2.2.2.1).toNat)).take ((v.2.2.2.2.2.2.2.2.2.2.2.2.2.2.1).length - (v.2.2.2.1).toNat)) : List (Ty.T (.int .i64))).length * 8 <= 140737488351232 then (κ (x4,x4,(([] ++ (((v.2.2.2.2.2.2.2.2.2.2.2.2.2.2.1).drop 0).take ((v.2.2.2.1).toNat))) ++ [x4]) ++ (((v.2.2.2.2.2.2.2.2.2.2.2.2.2.2.1).drop ((v.2.2.2.1).toNat)).take ((v.2.2.2.2.2.2.2.2.2.2.2.2.2.2.1).length - (v.2.2.2.1).toNat)),[x4])) else none) else none) else none) else none) else none)) else none) else none) else none
def CS (v : cZ) : Int × Int × (List (Ty.T (.int .i64))) × (List (Ty.T (.int .i64))) := (mi v some).getD (0,0,[],[])
def CC (v : cZ) : Bool := (mi v some).isSome
def Kv (v : cZ) : aL (Ex × St) := .br (CC v) (.done (B4 v (CS v))) .no
theorem O9 : bo Tryz.prog (aO [true,false,true,true,true] (aw (pb 4 11) (ab Tryz.f258))) iZ cL Kv := dp (by kernel_rfl) (sx := Es) (gx := Ek) Jt.ok ak (by kernel_rfl) 3 fun v => et (List.replicate 3 (mi v (sm (B4 v)))) (by kernel_rfl) (congrArg (List.replicate 3) (aN (show mi v (sm (B4 v)) = (mi v some).bind _ from by unfold mi; simp only [bb])))
@[reducible] def xz : List SP := .one (.dat (.sl 3 (.int .i64)) true) :: .und :: .one (.dat (.sl 3 (.int .i64)) false) :: .one (.own 6) :: oI :: U32 (U16 ([]))
@[reducible] def dC : Type := (List (Ty.T (.int .i64))) × (List (Ty.T (.int .i64))) × Int × (List (Ty.T (.int .i64))) × Unit
def bw (v : dC) (x1 : Ty.T (.int .i64)) := (H6 v.1 v.2.1 v.2.2.1 ((v.2.2.2.1).length : Int) v.2.2.1 v.1 ((v.1).length : Int) (decide (v.2.2.1 < ((v.1).length : Int))) v.1 v.2.2.1 x1 x1 (Ak v.2.2.2.1 x1) ((v.2.2.2.1).length : Int) v.2.2.2.1)
def oV (v : dC) {Z : Type} (κ : Nat × dC -> Option Z) : Option Z := cond (decide (v.2.2.1 < ((v.1).length : Int))) (if 0 <= v.2.2.1 then (ay ((v.1)[(v.2.2.1).toNat]?) (fun x1 => cond (d250 v.2.2.2.1 x1) (cond (Ak v.2.2.2.1 x1) (κ (0,(v.1,v.2.1,IntKind.wrap .i64 (v.2.2.1 + (1 : Int)),v.2.2.2.1,()))) (cond (KP v.1 v.2.1 v.2.2.1 ((v.2.2.2.1).length : Int) v.2.2.1 v.1 ((v.1).length : Int) (decide (v.2.2.1 < ((v.1).length : Int))) v.1 v.2.2.1 x1 x1 (Ak v.2.2.2.1 x1) ((v.2.2.2.1).length : Int) v.2.2.2.1 0) (cond (CC ((bw v x1).1,(bw v x1).2.1,(bw v x1).2.2.1,(bw v x1).2.2.2.1,(bw v x1).2.2.2.2.1,(bw v x1).2.2.2.2.2.1,(bw v x1).2.2.2.2.2.2.1,(bw v x1).2.2.2.2.2.2.2.1,(bw v x1).2.2.2.2.2.2.2.2.1,(bw v x1).2.2.2.2.2.2.2.2.2.1,(bw v x1).2.2.2.2.2.2.2.2.2.2.1,(bw v x1).2.2.2.2.2.2.2.2.2.2.2.1,(bw v x1).2.2.2.2.2.2.2.2.2.2.2.2.1,(bw v x1).2.2.2.2.2.2.2.2.2.2.2.2.2.1,(bw v x1).2.2.2.2.2.2.2.2.2.2.2.2.2.2.1,())) (κ (0,((bw v x1).1,(bw v x1).2.1,IntKind.wrap .i64 ((bw v x1).2.2.1 + (1 : Int)),(CS ((bw v x1).1,(bw v x1).2.1,(bw v x1).2.2.1,(bw v x1).2.2.2.1,(bw v x1).2.2.2.2.1,(bw v x1).2.2.2.2.2.1,(bw v x1).2.2.2.2.2.2.1,(bw v x1).2.2.2.2.2.2.2.1,(bw v x1).2.2.2.2.2.2.2.2.1,(bw v x1).2.2.2.2.2.2.2.2.2.1,(bw v x1).2.2.2.2.2.2.2.2.2.2.1,(bw v x1).2.2.2.2.2.2.2.2.2.2.2.1,(bw v x1).2.2.2.2.2.2.2.2.2.2.2.2.1,(bw v x1).2.2.2.2.2.2.2.2.2.2.2.2.2.1,(bw v x1).2.2.2.2.2.2.2.2.2.2.2.2.2.2.1,())).2.2.1,()))) (none)) (none))) (none))) else none) (κ (1,(v.1,v.2.1,v.2.2.1,v.2.2.2.1,())))
def pT (v : dC) : Option (Nat × dC) := oV v some
def sG (v : dC) : Nat := v.1.length + v.2.1.length + v.2.2.1.toNat + v.2.2.2.1.length + 100
def Jb (h0 : List (Ty.T (.int .i64))) (h1 : List (Ty.T (.int .i64))) (h2 : Int) (h3 : List (Ty.T (.int .i64))) (c : Nat) : Bool := iK pT sG (h0,h1,h2,h3,()) c
def KT (h0 : List (Ty.T (.int .i64))) (h1 : List (Ty.T (.int .i64))) (h2 : Int) (h3 : List (Ty.T (.int .i64))) : dC := iW pT sG (h0,h1,h2,h3,())
def Hh (v : dC) : aL (Ex × St) := aM pT (sG v) v (ar xz cL) [.exit 0] 0
theorem OC : aH Tryz.prog (aw (pb 4 11) (ab Tryz.f258)) xz cL Hh := ag (lt := (aX [true,false,true,true,true] (aw (pb 4 11) (ab Tryz.f258)) (aX [true,false,true,true,false] (aw (pb 4 11) (ab Tryz.f258)) .none (.sum iZ cL HL)) (.sum iZ cL Kv))) Jt.ok ak (af.cX (aA (by kernel_rfl)) (af.zZ (by kernel_rfl) (aA (by kernel_rfl)) (af.no _) NV) O9) fun n v K => et (oV v (bL _ _ _ _ _ K)) (by kernel_rfl) (show oV v _ = (oV v some).bind _ from (bC (bI (bO fun x1 => (bC (bC rfl (bC (bC rfl rfl) rfl)) rfl))) rfl))
def P8 := Jt.l (g := 258) (t := (aX (pb 4 11) (ab Tryz.f258) .none (.sum xz cL Hh))) (aC Tryz.func258 (af.zZ (by kernel_rfl) (aA (by kernel_rfl)) (af.no _) OC))
def t258 (a0 : List (Ty.T (.int .i64))) {Z : Type} (κ : (List (Ty.T (.int .i64))) -> Option Z) : Option Z := cond (Jb a0 [] 0 [] 0) (κ (KT a0 [] 0 []).2.2.2.1) (none)
def JH (a0 : List (Ty.T (.int .i64))) : (List (Ty.T (.int .i64))) := (t258 a0 some).getD []
def d258 (a0 : List (Ty.T (.int .i64))) : Bool := (t258 a0 some).isSome
def WL : Prim := ⟨[.one (.dat (.sl 3 (.int .i64)) true)],fun v => .br (d258 v.1) (.done (f258 (JH v.1))) .no⟩
theorem Tg : PO 258 WL := pK P8 fun v => et ((t258 v.1 (sm f258))) (by kernel_rfl) (aN (show t258 v.1 (sm f258) = (t258 v.1 some).bind _ from (bC rfl rfl)))
def f215 (r : (List (Ty.T (.int .i64)))) : AV × Sig := (.one (.sl 4096),[(4096,.arr 3 (.int .i64) r false)])
def Ya := (E0.p Tg)
def Sb (a0 : List (Ty.T (.int .i64))) (a1 : Int) : Option (AV × Sig) := if ([] ++ a0 : List (Ty.T (.int .i64))).length * 8 <= 140737488351232 then (if (([] ++ a0) ++ [a1] : List (Ty.T (.int .i64))).length * 8 <= 140737488351232 then (cond (d258 (([] ++ a0) ++ [a1])) (some (.one (.sl 4096),[(4096,.arr 3 (.int .i64) (JH (([] ++ a0) ++ [a1])) false)])) (none)) else none) else none
def sQ (a0 : List (Ty.T (.int .i64))) (a1 : Int) : (List (Ty.T (.int .i64))) := cond (d258 (([] ++ a0) ++ [a1])) ((JH (([] ++ a0) ++ [a1]))) ([])
def d215 (a0 : List (Ty.T (.int .i64))) (a1 : Int) : Bool := decide (([] ++ a0 : List (Ty.T (.int .i64))).length * 8 <= 140737488351232) && (decide ((([] ++ a0) ++ [a1] : List (Ty.T (.int .i64))).length * 8 <= 140737488351232) && (cond (d258 (([] ++ a0) ++ [a1])) (true) (false)))
theorem WU (a0 : List (Ty.T (.int .i64))) (a1 : Int) : Sb a0 a1 = cond (d215 a0 a1) (some (f215 (sQ a0 a1))) none := (pI (pI (pC (pS _) (pN _))))
def VV : Prim := ⟨[.one (.dat (.sl 3 (.int .i64)) true),oI],fun v => .br (d215 v.1 v.2.1) (.done (f215 (sQ v.1 v.2.1))) .no⟩
theorem Uc : PO 215 VV := pK Ya fun v => et (Sb v.1 v.2.1) (by kernel_rfl) (WU v.1 v.2.1)
@[reducible] def aK : Type := Ty.T y48 -> List (Ty.T (.int .i64)) -> Ty.T y36 -> List (Ty.T aa) -> List (Ty.T (.int .i64)) -> List (Ty.T y48) -> List (Ty.T an) -> Bool × ((Ty.T y36) × (List (Ty.T aa)) × (List (Ty.T (.int .i64))) × (List (Ty.T y48)) × (List (Ty.T an)))
def yV (r : (Ty.T y36) × (List (Ty.T aa)) × (List (Ty.T (.int .i64))) × (List (Ty.T y48)) × (List (Ty.T an))) : AV × Sig := (.tup [],[(4294967296,.box 197 ((y36.cells true r.1) ++ [.sl 16793600] ++ [.sl 16797696] ++ [.sl 16801792] ++ [.sl 16805888])),(16793600,.arr 103 aa r.2.1 false),(16797696,.arr 3 (.int .i64) r.2.2.1 false),(16801792,.arr 56 y48 r.2.2.2.1 false),(16805888,.arr 126 an r.2.2.2.2 false)])
def bP (R : aK) : Gen := ⟨[false,false,false],[.one (.ptr 4294967296 0),.agg [.dat y48 false],.one (.dat (.sl 3 (.int .i64)) false)],[(4294967296,.box 197 [.dat y36 true,.own 16793600,.own 16797696,.own 16801792,.own 16805888]),(16793600,.arr 103 aa false),(16797696,.arr 3 (.int .i64) false),(16801792,.arr 56 y48 false),(16805888,.arr 126 an false)],fun v => .br (R v.1 v.2.1 v.2.2.1 v.2.2.2.1 v.2.2.2.2.1 v.2.2.2.2.2.1 v.2.2.2.2.2.2.1).1 (.done (yV (R v.1 v.2.1 v.2.2.1 v.2.2.2.1 v.2.2.2.2.1 v.2.2.2.2.2.1 v.2.2.2.2.2.2.1).2)) .no⟩
def l3 (R : aK) (h : bD Tryz.prog 149 (bP R)) : cV Tryz.prog := (((((((((E0.p Vf).p Nw).p SL).p Nm).p VI).p Qa).p Rf).p Uc).g h)
@[reducible] def fz : List SP := .one (.ptr 4294967296 0) :: .und :: .one (.dat (.sl 3 (.int .i64)) false) :: .und :: .one (.ptr 4 0) :: .und :: .one (.own 4121) :: U64 (U32 (U16 (U8 (U4 (.und :: [])))))
@[reducible] def dG : List (Nat × GP) := [(4294967296,.box 197 [.dat y36 true,.own 16793600,.own 16797696,.own 16801792,.own 16805888]),(4,.box 56 [.dat y48 false]),(4121,.arr 3 (.int .i64) false),(16793600,.arr 103 aa false),(16797696,.arr 3 (.int .i64) false),(16801792,.arr 56 y48 false),(16805888,.arr 126 an false)]
@[reducible] def jV : Type := (List (Ty.T (.int .i64))) × (Ty.T y36) × (Ty.T y48) × (List (Ty.T (.int .i64))) × (List (Ty.T aa)) × (List (Ty.T (.int .i64))) × (List (Ty.T y48)) × (List (Ty.T an)) × Unit
def qQ (R : aK) (v : jV) (r : Unit) : Ex × St := (.normal,ar fz dG (v.1,v.2.1,v.2.2.1,v.2.2.2.1,v.2.2.2.2.1,v.2.2.2.2.2.1,v.2.2.2.2.2.2.1 ++ [v.2.2.1],v.2.2.2.2.2.2.2.1,()))
def fE (R : aK) (v : jV) {Z : Type} (κ : Unit -> Option Z) : Option Z := if (v.2.2.2.2.2.2.1 ++ [v.2.2.1] : List (Ty.T y48)).length * 56 <= 140737488351232 then (κ ()) else none
def Jv (R : aK) (v : jV) : Unit := (fE R v some).getD ()
def nw (R : aK) (v : jV) : Bool := (fE R v some).isSome
def Bb (R : aK) (v : jV) : aL (Ex × St) := .br (nw R v) (.done (qQ R v (Jv R v))) .no
theorem Hw (R : aK) (h : bD Tryz.prog 149 (bP R)) : bo Tryz.prog (aO [false] (aO (pb 7 75) (ab Tryz.f149))) fz dG (Bb R) := dp (by kernel_rfl) (sx := fz) (gx := dG) (l3 R h).ok ak (by kernel_rfl) 1 fun v => et (List.replicate 1 (fE R v (sm (qQ R v)))) (by kernel_rfl) (congrArg (List.replicate 1) (aN (show fE R v (sm (qQ R v)) = (fE R v some).bind _ from (bI rfl))))
@[reducible] def vZ : List SP := .one (.ptr 4294967296 0) :: .und :: .one (.dat (.sl 3 (.int .i64)) false) :: .und :: .one (.ptr 4 0) :: .und :: .one (.own 4121) :: U16 (U8 (.one (.dat .bool true) :: U64 (U32 (U4 ([])))))
@[reducible] def kB : Type := (List (Ty.T (.int .i64))) × Bool × (Ty.T y36) × (Ty.T y48) × (List (Ty.T (.int .i64))) × (List (Ty.T aa)) × (List (Ty.T (.int .i64))) × (List (Ty.T y48)) × (List (Ty.T an)) × Unit
def tl (R : aK) (v : kB) (r : (List (Ty.T y48))) : Ex × St := (.normal,ar fz dG (v.1,v.2.2.1,v.2.2.2.1,v.2.2.2.2.1,v.2.2.2.2.2.1,v.2.2.2.2.2.2.1,r,v.2.2.2.2.2.2.2.2.1,()))
def fO (R : aK) (v : kB) {Z : Type} (κ : (List (Ty.T y48)) -> Option Z) : Option Z := cond v.2.1 (cond (nw R (v.1,v.2.2.1,v.2.2.2.1,v.2.2.2.2.1,v.2.2.2.2.2.1,v.2.2.2.2.2.2.1,v.2.2.2.2.2.2.2.1,v.2.2.2.2.2.2.2.2.1,())) (κ (v.2.2.2.2.2.2.2.1 ++ [v.2.2.2.1])) (none)) (κ v.2.2.2.2.2.2.2.1)
def mF (R : aK) (v : kB) : (List (Ty.T y48)) := (fO R v some).getD []
def nn (R : aK) (v : kB) : Bool := (fO R v some).isSome
def A8 (R : aK) (v : kB) : aL (Ex × St) := .br (nn R v) (.done (tl R v (mF R v))) .no
theorem Hr (R : aK) (h : bD Tryz.prog 149 (bP R)) : bo Tryz.prog (aO (pb 7 75) (ab Tryz.f149)) vZ dG (A8 R) := bf (lt := (aX [false] (aO (pb 7 75) (ab Tryz.f149)) .none (.sum fz dG (Bb R)))) (sx := fz) (gx := dG) (l3 R h).ok ak (af.cX (aA (by kernel_rfl)) (af.no _) (Hw R h)) fun v => et (fO R v (sm (tl R v))) (by kernel_rfl) (aN (show fO R v (sm (tl R v)) = (fO R v some).bind _ from (bC (bC rfl rfl) rfl)))
@[reducible] def kK : List SP := .one (.ptr 4294967296 0) :: .und :: .one (.dat (.sl 3 (.int .i64)) false) :: .und :: .one (.ptr 4 0) :: .und :: .one (.own 4121) :: oI :: .und :: .one (.ptr 9 0) :: .one (.own 4170) :: oI :: U64 (U32 (U16 (U8 ([]))))
@[reducible] def kL : List (Nat × GP) := [(4294967296,.box 197 [.dat y36 true,.own 4180,.own 8241,.own 16801792,.own 16805888]),(4,.box 56 [.dat y48 false]),(9,.box 103 [.dat aa false]),(4121,.arr 3 (.int .i64) false),(4170,.arr 56 y48 false),(4180,.arr 103 aa false),(8241,.arr 3 (.int .i64) false),(16801792,.arr 56 y48 false),(16805888,.arr 126 an false)]
@[reducible] def bN : Type := (List (Ty.T (.int .i64))) × Int × Int × (Ty.T y36) × (Ty.T y48) × (Ty.T aa) × (List (Ty.T (.int .i64))) × (List (Ty.T y48)) × (List (Ty.T aa)) × (List (Ty.T (.int .i64))) × (List (Ty.T y48)) × (List (Ty.T an)) × Unit
@[reducible] def kS : List SP := .one (.ptr 4294967296 0) :: .und :: .one (.dat (.sl 3 (.int .i64)) false) :: U4 (U2 (.one (.ptr 9 0) :: .one (.own 4170) :: U64 (U32 (U16 (U8 (.und :: []))))))
@[reducible] def kU : List (Nat × GP) := [(4294967296,.box 197 [.dat y36 true,.own 4180,.own 8241,.own 16801792,.own 16805888]),(9,.box 103 [.dat aa false]),(4170,.arr 56 y48 false),(4180,.arr 103 aa false),(8241,.arr 3 (.int .i64) false),(16801792,.arr 56 y48 false),(16805888,.arr 126 an false)]
def mG (R : aK) (v : bN) (r : Unit) : Ex × St := (.normal,ar kS kU (v.1,v.2.2.2.1,v.2.2.2.2.2.1,v.2.2.2.2.2.2.2.1,v.2.2.2.2.2.2.2.2.1,v.2.2.2.2.2.2.2.2.2.1,v.2.2.2.2.2.2.2.2.2.2.1,v.2.2.2.2.2.2.2.2.2.2.2.1 ++ [(v.2.2.2.2.2.1.1,(wD v.2.2.2.1 v.2.2.2.2.1),v.2.1,((v.2.2.2.2.2.2.1).length : Int),v.2.2.2.2.1,[] ++ v.2.2.2.2.2.2.2.1,v.2.2.1,((v.1).length : Int))],()))
def fL (R : aK) (v : bN) {Z : Type} (κ : Unit -> Option Z) : Option Z := cond (d214 v.2.2.2.1 v.2.2.2.2.1) (if ([] ++ v.2.2.2.2.2.2.2.1 : List (Ty.T y48)).length * 56 <= 140737488351232 then (if (v.2.2.2.2.2.2.2.2.2.2.2.1 ++ [(v.2.2.2.2.2.1.1,(wD v.2.2.2.1 v.2.2.2.2.1),v.2.1,((v.2.2.2.2.2.2.1).length : Int),v.2.2.2.2.1,[] ++ v.2.2.2.2.2.2.2.1,v.2.2.1,((v.1).length : Int))] : List (Ty.T an)).length * 128 <= 140737488351232 then (κ ()) else none) else none) (none)
def IW (R : aK) (v : bN) : Unit := (fL R v some).getD ()
def tJ (R : aK) (v : bN) : Bool := (fL R v some).isSome
def Ao (R : aK) (v : bN) : aL (Ex × St) := .br (tJ R v) (.done (mG R v (IW R v))) .no
def cH : List (List Nat) := [[0,1,2,3,5,7,8,9,13,14,15,18,20,21,22,4,6,10,11,12,16,17,19,23,24,25,26,27,28],[0,1,2,3,5,7,8,9,13,14,15,18,20,21,22,4,6,10,11,12,17,19,16,23,24,25,26,27,28],[0,1,2,3,5,7,8,9,13,14,15,18,20,21,22,4,10,11,12,16,17,19,6,23,24,25,26,27,28],[0,1,2,3,5,7,8,9,13,14,15,18,20,21,22,4,10,11,12,17,19,6,16,23,24,25,26,27,28],[0,1,2,3,5,7,8,9,13,14,15,18,20,21,22,6,10,11,12,16,17,19,4,23,24,25,26,27,28],[0,1,2,3,5,7,8,9,13,14,15,18,20,21,22,6,10,11,12,16,17,19,23,24,4,25,26,27,28],[0,1,2,3,5,7,8,9,13,14,15,18,20,21,22,6,10,11,12,17,19,4,16,23,24,25,26,27,28],[0,1,2,3,5,7,8,9,13,14,15,18,20,21,22,6,10,11,12,17,19,16,23,24,4,25,26,27,28],[0,1,2,3,5,7,8,9,13,14,15,18,20,21,22,10,11,12,16,17,19,4,6,23,24,25,26,27,28],[0,1,2,3,5,7,8,9,13,14,15,18,20,21,22,10,11,12,16,17,19,6,23,24,4,25,26,27,28],[0,1,2,3,5,7,8,9,13,14,15,18,20,21,22,10,11,12,17,19,4,6,16,23,24,25,26,27,28],[0,1,2,3,5,7,8,9,13,14,15,18,20,21,22,10,11,12,17,19,6,16,23,24,4,25,26,27,28]]
def bn (R : aK) (h : bD Tryz.prog 149 (bP R)) (v : bN) (π : List Nat) : Prop := mM (l3 R h).E (aO (pb 9 255) (ab Tryz.f149)) kS kU (ar kK kL v) π = fL R v (sm (mG R v))
theorem D0 (R : aK) (h : bD Tryz.prog 149 (bP R)) (v : bN) : bn R h v (cH.getD 0 []) := by unfold bn; kernel_rfl
theorem Cu (R : aK) (h : bD Tryz.prog 149 (bP R)) (v : bN) : bn R h v (cH.getD 1 []) := by unfold bn; kernel_rfl
theorem BA (R : aK) (h : bD Tryz.prog 149 (bP R)) (v : bN) : bn R h v (cH.getD 2 []) := by unfold bn; kernel_rfl
theorem B9 (R : aK) (h : bD Tryz.prog 149 (bP R)) (v : bN) : bn R h v (cH.getD 3 []) := by unfold bn; kernel_rfl
theorem Cc (R : aK) (h : bD Tryz.prog 149 (bP R)) (v : bN) : bn R h v (cH.getD 4 []) := by unfold bn; kernel_rfl
theorem Cp (R : aK) (h : bD Tryz.prog 149 (bP R)) (v : bN) : bn R h v (cH.getD 5 []) := by unfold bn; kernel_rfl
theorem BR (R : aK) (h : bD Tryz.prog 149 (bP R)) (v : bN) : bn R h v (cH.getD 6 []) := by unfold bn; kernel_rfl
theorem CR (R : aK) (h : bD Tryz.prog 149 (bP R)) (v : bN) : bn R h v (cH.getD 7 []) := by unfold bn; kernel_rfl
theorem Cm (R : aK) (h : bD Tryz.prog 149 (bP R)) (v : bN) : bn R h v (cH.getD 8 []) := by unfold bn; kernel_rfl
theorem Dm (R : aK) (h : bD Tryz.prog 149 (bP R)) (v : bN) : bn R h v (cH.getD 9 []) := by unfold bn; kernel_rfl
theorem zX (R : aK) (h : bD Tryz.prog 149 (bP R)) (v : bN) : bn R h v (cH.getD 10 []) := by unfold bn; kernel_rfl
theorem zW (R : aK) (h : bD Tryz.prog 149 (bP R)) (v : bN) : bn R h v (cH.getD 11 []) := by unfold bn; kernel_rfl
theorem Hx (R : aK) (h : bD Tryz.prog 149 (bP R)) (v : bN) : ∀ π ∈ cH,mM (l3 R h).E (aO (pb 9 255) (ab Tryz.f149)) kS kU (ar kK kL v) π = fL R v (sm (mG R v)) := av (D0 R h v) <| av (Cu R h v) <| av (BA R h v) <| av (B9 R h v) <| av (Cc R h v) <| av (Cp R h v) <| av (BR R h v) <| av (CR R h v) <| av (Cm R h v) <| av (Dm R h v) <| av (zX R h v) <| av (zW R h v) <| Em
theorem G2 (R : aK) (h : bD Tryz.prog 149 (bP R)) : bo Tryz.prog (aO (pb 9 255) (ab Tryz.f149)) kK kL (Ao R) := qn (by kernel_rfl) (sx := kS) (gx := kU) (l3 R h).ok ak (by kernel_rfl) (by kernel_rfl) fun v π hπ => (Hx R h v π hπ).trans (aN (show fL R v (sm (mG R v)) = (fL R v some).bind _ from (bC (bI (bI rfl)) rfl)))
@[reducible] def nX : List SP := .one (.ptr 4294967296 0) :: U8 (.und :: .one (.own 4170) :: U2 (.one (.dat (.sl 3 (.int .i64)) false) :: oI :: U64 (U32 (U16 (U4 (.und :: []))))))
@[reducible] def pf : List (Nat × GP) := [(4294967296,.box 197 [.dat y36 true,.own 4180,.own 8241,.own 16801792,.own 16805888]),(4170,.arr 56 y48 false),(4180,.arr 103 aa false),(8241,.arr 3 (.int .i64) false),(16801792,.arr 56 y48 false),(16805888,.arr 126 an false)]
@[reducible] def fD : Type := (List (Ty.T (.int .i64))) × Int × (Ty.T y36) × (List (Ty.T y48)) × (List (Ty.T aa)) × (List (Ty.T (.int .i64))) × (List (Ty.T y48)) × (List (Ty.T an)) × Unit
def gT (R : aK) (v : fD) {Z : Type} (κ : Nat × fD -> Option Z) : Option Z := cond (decide (v.2.1 < ((v.2.2.2.1).length : Int))) (if 0 <= v.2.1 then (if v.2.1 < ((v.2.2.2.1).length : Int) then (ay ((v.2.2.2.1)[(v.2.1).toNat]?) (fun x3 => cond (R x3 v.1 v.2.2.1 v.2.2.2.2.1 v.2.2.2.2.2.1 v.2.2.2.2.2.2.1 v.2.2.2.2.2.2.2.1).1 (κ (0,(v.1,IntKind.wrap .i64 (v.2.1 + (1 : Int)),(R x3 v.1 v.2.2.1 v.2.2.2.2.1 v.2.2.2.2.2.1 v.2.2.2.2.2.2.1 v.2.2.2.2.2.2.2.1).2.1,v.2.2.2.1,(R x3 v.1 v.2.2.1 v.2.2.2.2.1 v.2.2.2.2.2.1 v.2.2.2.2.2.2.1 v.2.2.2.2.2.2.2.1).2.2.1,(R x3 v.1 v.2.2.1 v.2.2.2.2.1 v.2.2.2.2.2.1 v.2.2.2.2.2.2.1 v.2.2.2.2.2.2.2.1).2.2.2.1,(R x3 v.1 v.2.2.1 v.2.2.2.2.1 v.2.2.2.2.2.1 v.2.2.2.2.2.2.1 v.2.2.2.2.2.2.2.1).2.2.2.2.1,(R x3 v.1 v.2.2.1 v.2.2.2.2.1 v.2.2.2.2.2.1 v.2.2.2.2.2.2.1 v.2.2.2.2.2.2.2.1).2.2.2.2.2,()))) (none))) else none) else none) (κ (1,(v.1,v.2.1,v.2.2.1,v.2.2.2.1,v.2.2.2.2.1,v.2.2.2.2.2.1,v.2.2.2.2.2.2.1,v.2.2.2.2.2.2.2.1,())))
def eT (R : aK) (v : fD) : Option (Nat × fD) := gT R v some
def ku (v : fD) : Nat := v.1.length + v.2.1.toNat + v.2.2.1.1.length + v.2.2.1.2.1.length + v.2.2.2.1.length + v.2.2.2.2.1.length + v.2.2.2.2.2.1.length + v.2.2.2.2.2.2.1.length + v.2.2.2.2.2.2.2.1.length + 100
def Ah (R : aK) (h0 : List (Ty.T (.int .i64))) (h1 : Int) (h2 : Ty.T y36) (h3 : List (Ty.T y48)) (h4 : List (Ty.T aa)) (h5 : List (Ty.T (.int .i64))) (h6 : List (Ty.T y48)) (h7 : List (Ty.T an)) (c : Nat) : Bool := iK (eT R) ku (h0,h1,h2,h3,h4,h5,h6,h7,()) c
def AT (R : aK) (h0 : List (Ty.T (.int .i64))) (h1 : Int) (h2 : Ty.T y36) (h3 : List (Ty.T y48)) (h4 : List (Ty.T aa)) (h5 : List (Ty.T (.int .i64))) (h6 : List (Ty.T y48)) (h7 : List (Ty.T an)) : fD := iW (eT R) ku (h0,h1,h2,h3,h4,h5,h6,h7,())
def AD (R : aK) (v : fD) : aL (Ex × St) := aM (eT R) (ku v) v (ar nX pf) [.exit 0] 0
theorem JD (R : aK) (h : bD Tryz.prog 149 (bP R)) : aH Tryz.prog (aw (pb 11 2047) (ab Tryz.f149)) nX pf (AD R) := ag (lt := .none) (l3 R h).ok ak (af.no _) fun n v K => et (gT R v (bL _ _ _ _ _ K)) (by kernel_rfl) (show gT R v _ = (gT R v some).bind _ from (bC (bI (bI (bO fun x3 => (bC rfl rfl)))) rfl))
def Lw (R : aK) (h : bD Tryz.prog 149 (bP R)) : cV Tryz.prog := (l3 R h).l (g := 149) (t := (aX (pb 11 2047) (ab Tryz.f149) (aX (pb 9 255) (ab Tryz.f149) (aX (pb 7 75) (ab Tryz.f149) .none (.sum vZ dG (A8 R))) (.sum kK kL (Ao R))) (.sum nX pf (AD R)))) (aC Tryz.func149 (af.zZ (by kernel_rfl) (aA (by kernel_rfl)) (af.cX (aA (by kernel_rfl)) (af.cX (aA (by kernel_rfl)) (af.no _) (Hr R h)) (G2 R h)) (JD R h)))
def mQ (a0 : Ty.T y48) (a3 : List (Ty.T aa)) (x2 : Ty.T aa) := (A7 a3 ((cu x2 a0).2.1.1,(cu x2 a0).2.1.2.1,(cu x2 a0).2.1.2.2.1,(cu x2 a0).2.1.2.2.2.1,(cu x2 a0).2.1.2.2.2.2.1,(cu x2 a0).2.1.2.2.2.2.2.1,((cu x2 a0).2.1.2.2.2.2.2.2.1,(cu x2 a0).2.1.2.2.2.2.2.2.2.1,(cu x2 a0).2.1.2.2.2.2.2.2.2.2.1,(cu x2 a0).2.1.2.2.2.2.2.2.2.2.2.1,(cu x2 a0).2.1.2.2.2.2.2.2.2.2.2.2.1,(cu x2 a0).2.1.2.2.2.2.2.2.2.2.2.2.2,(cu x2 a0).2.2.2.2),(cu x2 a0).2.2.1))
def ib (R : aK) (a0 : Ty.T y48) (a1 : List (Ty.T (.int .i64))) (a2 : Ty.T y36) (a3 : List (Ty.T aa)) (a4 : List (Ty.T (.int .i64))) (a5 : List (Ty.T y48)) (a6 : List (Ty.T an)) (x2 : Ty.T aa) := (AT R (sQ a1 x2.1) 0 a2 (cu x2 a0).2.2.2.1 (mQ a0 a3 x2) (gj a4 (((dY a2 a3 a0 a1)).length : Int)).2 a5 (a6 ++ [(x2.1,(wD a2 a0),(gj a4 (((dY a2 a3 a0 a1)).length : Int)).1,(((dY a2 a3 a0 a1)).length : Int),a0,[] ++ (cu x2 a0).2.2.2.1,(cu x2 a0).1,((a1).length : Int))]))
def gL (R : aK) (a0 : Ty.T y48) (a1 : List (Ty.T (.int .i64))) (a2 : Ty.T y36) (a3 : List (Ty.T aa)) (a4 : List (Ty.T (.int .i64))) (a5 : List (Ty.T y48)) (a6 : List (Ty.T an)) {Z : Type} (κ : (Ty.T y36) × (List (Ty.T aa)) × (List (Ty.T (.int .i64))) × (List (Ty.T y48)) × (List (Ty.T an)) -> Option Z) : Option Z := cond (d208 a2 a3 a0 a1) (cond ((((dY a2 a3 a0 a1)).length : Int) == (0 : Int)) (cond (nn R (a1,!(tj a0),a2,a0,(dY a2 a3 a0 a1),a3,a4,a5,a6,())) (κ (a2,a3,a4,(mF R (a1,!(tj a0),a2,a0,(dY a2 a3 a0 a1),a3,a4,a5,a6,())),a6)) (none)) (cond (d210 a4 (((dY a2 a3 a0 a1)).length : Int)) (if 0 <= (gj a4 (((dY a2 a3 a0 a1)).length : Int)).1 then (if (gj a4 (((dY a2 a3 a0 a1)).length : Int)).1 < (((dY a2 a3 a0 a1)).length : Int) then (ay (((dY a2 a3 a0 a1))[((gj a4 (((dY a2 a3 a0 a1)).length : Int)).1).toNat]?) (fun x1 => cond (d211 a3 x1) (if 0 <= (jB a3 x1) then (if (jB a3 x1) < ((a3).length : Int) then (ay ((a3)[(jB a3 x1).toNat]?) (fun x2 => cond (d212 x2 a0) (cond (d213 a3 ((cu x2 a0).2.1.1,(cu x2 a0).2.1.2.1,(cu x2 a0).2.1.2.2.1,(cu x2 a0).2.1.2.2.2.1,(cu x2 a0).2.1.2.2.2.2.1,(cu x2 a0).2.1.2.2.2.2.2.1,((cu x2 a0).2.1.2.2.2.2.2.2.1,(cu x2 a0).2.1.2.2.2.2.2.2.2.1,(cu x2 a0).2.1.2.2.2.2.2.2.2.2.1,(cu x2 a0).2.1.2.2.2.2.2.2.2.2.2.1,(cu x2 a0).2.1.2.2.2.2.2.2.2.2.2.2.1,(cu x2 a0).2.1.2.2.2.2.2.2.2.2.2.2.2,(cu x2 a0).2.2.2.2),(cu x2 a0).2.2.1)) (cond (tJ R (a1,(gj a4 (((dY a2 a3 a0 a1)).length : Int)).1,(cu x2 a0).1,a2,a0,x2,(dY a2 a3 a0 a1),(cu x2 a0).2.2.2.1,(mQ a0 a3 x2),(gj a4 (((dY a2 a3 a0 a1)).length : Int)).2,a5,a6,())) (cond (d215 a1 x2.1) (cond (Ah R (sQ a1 x2.1) 0 a2 (cu x2 a0).2.2.2.1 (mQ a0 a3 x2) (gj a4 (((dY a2 a3 a0 a1)).length : Int)).2 a5 (a6 ++ [(x2.1,(wD a2 a0),(gj a4 (((dY a2 a3 a0 a1)).length : Int)).1,(((dY a2 a3 a0 a1)).length : Int),a0,[] ++ (cu x2 a0).2.2.2.1,(cu x2 a0).1,((a1).length : Int))]) 0) (κ ((ib R a0 a1 a2 a3 a4 a5 a6 x2).2.2.1,(ib R a0 a1 a2 a3 a4 a5 a6 x2).2.2.2.2.1,(ib R a0 a1 a2 a3 a4 a5 a6 x2).2.2.2.2.2.1,(ib R a0 a1 a2 a3 a4 a5 a6 x2).2.2.2.2.2.2.1,(ib R a0 a1 a2 a3 a4 a5 a6 x2).2.2.2.2.2.2.2.1)) (none)) (none)) (none)) (none)) (none))) else none) else none) (none))) else none) else none) (none))) (none)
def nu (R : aK) (a0 : Ty.T y48) (a1 : List (Ty.T (.int .i64))) (a2 : Ty.T y36) (a3 : List (Ty.T aa)) (a4 : List (Ty.T (.int .i64))) (a5 : List (Ty.T y48)) (a6 : List (Ty.T an)) : (Ty.T y36) × (List (Ty.T aa)) × (List (Ty.T (.int .i64))) × (List (Ty.T y48)) × (List (Ty.T an)) := (gL R a0 a1 a2 a3 a4 a5 a6 some).getD ((Ty.zero y36),[],[],[],[])
def nA (R : aK) (a0 : Ty.T y48) (a1 : List (Ty.T (.int .i64))) (a2 : Ty.T y36) (a3 : List (Ty.T aa)) (a4 : List (Ty.T (.int .i64))) (a5 : List (Ty.T y48)) (a6 : List (Ty.T an)) : Bool := (gL R a0 a1 a2 a3 a4 a5 a6 some).isSome
theorem Iz (R : aK) (h : bD Tryz.prog 149 (bP R)) : bD Tryz.prog 149 (bP (fun a0 a1 a2 a3 a4 a5 a6 => (nA R a0 a1 a2 a3 a4 a5 a6,nu R a0 a1 a2 a3 a4 a5 a6))) := mD (Lw R h).ok ak (aA (by kernel_rfl)) ⟨Tryz.f149,ab Tryz.f149,by kernel_rfl,by kernel_rfl⟩ fun v => et ((gL R v.1 v.2.1 v.2.2.1 v.2.2.2.1 v.2.2.2.2.1 v.2.2.2.2.2.1 v.2.2.2.2.2.2.1 (sm yV))) (by kernel_rfl) (aN (show gL R v.1 v.2.1 v.2.2.1 v.2.2.2.1 v.2.2.2.2.1 v.2.2.2.2.2.1 v.2.2.2.2.2.2.1 (sm yV) = (gL R v.1 v.2.1 v.2.2.1 v.2.2.2.1 v.2.2.2.2.1 v.2.2.2.2.2.1 v.2.2.2.2.2.2.1 some).bind _ from by unfold gL; simp only [bb]))
def l4 : Nat -> aK
  | 0 => fun _ _ _ _ _ _ _ => (false,(([],[],0,0),[],[],[],[]))
  | k + 1 => fun a0 a1 a2 a3 a4 a5 a6 => (nA (l4 k) a0 a1 a2 a3 a4 a5 a6,nu (l4 k) a0 a1 a2 a3 a4 a5 a6)
theorem Aa : ∀ k,bD Tryz.prog 149 (bP (l4 k))
  | 0 => ⟨aA (by kernel_rfl),⟨Tryz.f149,Tryz.func149,by kernel_rfl,by kernel_rfl⟩,fun v res fin h => by cases (show (none : Option (AV × Sig)) = some (res,fin) from h)⟩
  | k + 1 => Iz (l4 k) (Aa k)
def mm (a0 : Ty.T y48) (a1 : List (Ty.T (.int .i64))) (a2 : Ty.T y36) (a3 : List (Ty.T aa)) (a4 : List (Ty.T (.int .i64))) (a5 : List (Ty.T y48)) (a6 : List (Ty.T an)) : (Ty.T y36) × (List (Ty.T aa)) × (List (Ty.T (.int .i64))) × (List (Ty.T y48)) × (List (Ty.T an)) := (l4 40 a0 a1 a2 a3 a4 a5 a6).2
def BN (a0 : Ty.T y48) (a1 : List (Ty.T (.int .i64))) (a2 : Ty.T y36) (a3 : List (Ty.T aa)) (a4 : List (Ty.T (.int .i64))) (a5 : List (Ty.T y48)) (a6 : List (Ty.T an)) : Bool := (l4 40 a0 a1 a2 a3 a4 a5 a6).1
def Pf : Gen := ⟨[false,false,false],[.one (.ptr 4294967296 0),.agg [.dat y48 false],.one (.dat (.sl 3 (.int .i64)) false)],[(4294967296,.box 197 [.dat y36 true,.own 16793600,.own 16797696,.own 16801792,.own 16805888]),(16793600,.arr 103 aa false),(16797696,.arr 3 (.int .i64) false),(16801792,.arr 56 y48 false),(16805888,.arr 126 an false)],fun v => .br (BN v.1 v.2.1 v.2.2.1 v.2.2.2.1 v.2.2.2.2.1 v.2.2.2.2.2.1 v.2.2.2.2.2.2.1) (.done (yV (mm v.1 v.2.1 v.2.2.1 v.2.2.2.1 v.2.2.2.2.1 v.2.2.2.2.2.1 v.2.2.2.2.2.2.1))) .no⟩
theorem Lu : bD Tryz.prog 149 Pf := Aa 40
def f76 (r : (List (Ty.T y48)) × (List (Ty.T aa)) × (List (Ty.T (.int .i64))) × (List (Ty.T an))) : AV × Sig := (.agg ([.sl 4096] ++ [.sl 8192] ++ [.sl 12288] ++ [.sl 16384]),[(4096,.arr 56 y48 r.1 false),(8192,.arr 103 aa r.2.1 false),(12288,.arr 3 (.int .i64) r.2.2.1 false),(16384,.arr 126 an r.2.2.2 false)])
def E76 := (((((E0.g Lu).p P2).p RK).p Ny).p E7)
@[reducible] def xZ : List SP := .und :: .one (.dat (.sl 103 aa) true) :: .und :: .one (.dat (.sl 3 (.int .i64)) true) :: .one (.ptr 4 0) :: .und :: .one (.ptr 6 0) :: .und :: .one (.ptr 8 0) :: U32 (U8 (U2 ([])))
@[reducible] def wP : List (Nat × GP) := [(4,.box 37 [.dat y36 true]),(6,.box 56 [.dat y48 false]),(8,.box 70 [.dat y69 false])]
@[reducible] def bj : Type := (List (Ty.T aa)) × (List (Ty.T (.int .i64))) × (Ty.T y36) × (Ty.T y48) × (Ty.T y69) × Unit
@[reducible] def oq : List SP := .und :: .one (.dat (.sl 103 aa) true) :: U2 (.one (.ptr 4 0) :: .und :: .one (.ptr 6 0) :: .und :: .one (.ptr 8 0) :: .one (.ptr 19 0) :: U32 (U8 (.und :: [])))
@[reducible] def pA : List (Nat × GP) := [(4,.box 37 [.dat y36 true]),(6,.box 56 [.dat y48 false]),(8,.box 70 [.dat y69 false]),(19,.box 197 [.dat y36 true,.own 4108,.own 13,.own 16,.own 17]),(13,.arr 3 (.int .i64) false),(16,.arr 56 y48 false),(17,.arr 126 an false),(4108,.arr 103 aa false)]
def Ew (v : bj) (r : Unit) : Ex × St := (.normal,ar oq pA (v.1,v.2.2.1,v.2.2.2.1,v.2.2.2.2.1,v.2.2.1,[] ++ v.2.1,[],[],(gV v.1),()))
def ld (v : bj) {Z : Type} (κ : Unit -> Option Z) : Option Z := cond (d147 v.1) (if ([] ++ v.2.1 : List (Ty.T (.int .i64))).length * 8 <= 140737488351232 then (κ ()) else none) (none)
def UB (v : bj) : Unit := (ld v some).getD ()
def ve (v : bj) : Bool := (ld v some).isSome
def MR (v : bj) : aL (Ex × St) := .br (ve v) (.done (Ew v (UB v))) .no
def bu : List (List Nat) := [[1,4,0,2,3,6,5,7,8,9,10],[1,4,0,2,3,6,7,5,8,9,10],[1,4,0,2,3,5,6,7,8,9,10],[1,4,0,2,3,5,7,6,8,9,10],[1,4,0,2,3,7,6,5,8,9,10],[1,4,0,2,3,7,5,6,8,9,10],[1,4,0,2,6,7,3,5,8,9,10],[1,4,0,2,7,3,6,5,8,9,10],[1,4,0,2,7,3,5,6,8,9,10],[1,4,0,3,6,7,2,5,8,9,10],[1,4,0,3,7,2,6,5,8,9,10],[1,4,0,3,7,2,5,6,8,9,10],[1,4,0,6,7,2,3,5,8,9,10],[1,4,0,7,2,3,6,5,8,9,10],[1,4,0,7,2,3,5,6,8,9,10],[1,4,2,3,6,5,0,7,8,9,10],[1,4,2,3,6,5,7,0,8,9,10],[1,4,2,3,6,7,0,5,8,9,10],[1,4,2,3,6,7,5,0,8,9,10],[1,4,2,3,5,0,6,7,8,9,10],[1,4,2,3,5,0,7,6,8,9,10],[1,4,2,3,5,6,7,0,8,9,10],[1,4,2,3,5,7,0,6,8,9,10],[1,4,2,3,7,0,6,5,8,9,10],[1,4,2,3,7,0,5,6,8,9,10],[1,4,2,3,7,6,5,0,8,9,10],[1,4,2,3,7,5,0,6,8,9,10],[1,4,2,6,7,0,3,5,8,9,10],[1,4,2,6,7,3,5,0,8,9,10],[1,4,2,7,0,3,6,5,8,9,10],[1,4,2,7,0,3,5,6,8,9,10],[1,4,2,7,3,6,5,0,8,9,10],[1,4,2,7,3,5,0,6,8,9,10],[1,4,3,6,7,0,2,5,8,9,10],[1,4,3,6,7,2,5,0,8,9,10],[1,4,3,7,0,2,6,5,8,9,10],[1,4,3,7,0,2,5,6,8,9,10],[1,4,3,7,2,6,5,0,8,9,10],[1,4,3,7,2,5,0,6,8,9,10],[1,4,6,7,0,2,3,5,8,9,10],[1,4,6,7,2,3,5,0,8,9,10],[1,4,7,0,2,3,6,5,8,9,10],[1,4,7,0,2,3,5,6,8,9,10],[1,4,7,2,3,6,5,0,8,9,10],[1,4,7,2,3,5,0,6,8,9,10]]
def aG (v : bj) (π : List Nat) : Prop := mM E76.E (aO [true,false] (ab Tryz.f76)) oq pA (ar xZ wP v) π = ld v (sm (Ew v))
theorem Lx (v : bj) : aG v (bu.getD 0 []) := by unfold aG; kernel_rfl
theorem Lf (v : bj) : aG v (bu.getD 1 []) := by unfold aG; kernel_rfl
theorem Lq (v : bj) : aG v (bu.getD 2 []) := by unfold aG; kernel_rfl
theorem Lo (v : bj) : aG v (bu.getD 3 []) := by unfold aG; kernel_rfl
theorem K6 (v : bj) : aG v (bu.getD 4 []) := by unfold aG; kernel_rfl
theorem LS (v : bj) : aG v (bu.getD 5 []) := by unfold aG; kernel_rfl
theorem LK (v : bj) : aG v (bu.getD 6 []) := by unfold aG; kernel_rfl
theorem LF (v : bj) : aG v (bu.getD 7 []) := by unfold aG; kernel_rfl
theorem L3 (v : bj) : aG v (bu.getD 8 []) := by unfold aG; kernel_rfl
theorem Lt (v : bj) : aG v (bu.getD 9 []) := by unfold aG; kernel_rfl
theorem Kz (v : bj) : aG v (bu.getD 10 []) := by unfold aG; kernel_rfl
theorem Hm (v : bj) : aG v (bu.getD 11 []) := by unfold aG; kernel_rfl
theorem Kl (v : bj) : aG v (bu.getD 12 []) := by unfold aG; kernel_rfl
theorem Ki (v : bj) : aG v (bu.getD 13 []) := by unfold aG; kernel_rfl
theorem GX (v : bj) : aG v (bu.getD 14 []) := by unfold aG; kernel_rfl
theorem KW (v : bj) : aG v (bu.getD 15 []) := by unfold aG; kernel_rfl
theorem GU (v : bj) : aG v (bu.getD 16 []) := by unfold aG; kernel_rfl
theorem He (v : bj) : aG v (bu.getD 17 []) := by unfold aG; kernel_rfl
theorem Ha (v : bj) : aG v (bu.getD 18 []) := by unfold aG; kernel_rfl
theorem Ka (v : bj) : aG v (bu.getD 19 []) := by unfold aG; kernel_rfl
theorem I2 (v : bj) : aG v (bu.getD 20 []) := by unfold aG; kernel_rfl
theorem G9 (v : bj) : aG v (bu.getD 21 []) := by unfold aG; kernel_rfl
theorem Ij (v : bj) : aG v (bu.getD 22 []) := by unfold aG; kernel_rfl
theorem KX (v : bj) : aG v (bu.getD 23 []) := by unfold aG; kernel_rfl
theorem HD (v : bj) : aG v (bu.getD 24 []) := by unfold aG; kernel_rfl
theorem H3 (v : bj) : aG v (bu.getD 25 []) := by unfold aG; kernel_rfl
theorem I4 (v : bj) : aG v (bu.getD 26 []) := by unfold aG; kernel_rfl
theorem KS (v : bj) : aG v (bu.getD 27 []) := by unfold aG; kernel_rfl
theorem IE (v : bj) : aG v (bu.getD 28 []) := by unfold aG; kernel_rfl
theorem Io (v : bj) : aG v (bu.getD 29 []) := by unfold aG; kernel_rfl
theorem Kk (v : bj) : aG v (bu.getD 30 []) := by unfold aG; kernel_rfl
theorem Hc (v : bj) : aG v (bu.getD 31 []) := by unfold aG; kernel_rfl
theorem Ib (v : bj) : aG v (bu.getD 32 []) := by unfold aG; kernel_rfl
theorem H2 (v : bj) : aG v (bu.getD 33 []) := by unfold aG; kernel_rfl
theorem Hv (v : bj) : aG v (bu.getD 34 []) := by unfold aG; kernel_rfl
theorem I7 (v : bj) : aG v (bu.getD 35 []) := by unfold aG; kernel_rfl
theorem Jp (v : bj) : aG v (bu.getD 36 []) := by unfold aG; kernel_rfl
theorem Jm (v : bj) : aG v (bu.getD 37 []) := by unfold aG; kernel_rfl
theorem JQ (v : bj) : aG v (bu.getD 38 []) := by unfold aG; kernel_rfl
theorem Kn (v : bj) : aG v (bu.getD 39 []) := by unfold aG; kernel_rfl
theorem KI (v : bj) : aG v (bu.getD 40 []) := by unfold aG; kernel_rfl
theorem Hz (v : bj) : aG v (bu.getD 41 []) := by unfold aG; kernel_rfl
theorem JA (v : bj) : aG v (bu.getD 42 []) := by unfold aG; kernel_rfl
theorem G7 (v : bj) : aG v (bu.getD 43 []) := by unfold aG; kernel_rfl
theorem Jd (v : bj) : aG v (bu.getD 44 []) := by unfold aG; kernel_rfl
theorem Sd (v : bj) : ∀ π ∈ bu,mM E76.E (aO [true,false] (ab Tryz.f76)) oq pA (ar xZ wP v) π = ld v (sm (Ew v)) := av (Lx v) <| av (Lf v) <| av (Lq v) <| av (Lo v) <| av (K6 v) <| av (LS v) <| av (LK v) <| av (LF v) <| av (L3 v) <| av (Lt v) <| av (Kz v) <| av (Hm v) <| av (Kl v) <| av (Ki v) <| av (GX v) <| av (KW v) <| av (GU v) <| av (He v) <| av (Ha v) <| av (Ka v) <| av (I2 v) <| av (G9 v) <| av (Ij v) <| av (KX v) <| av (HD v) <| av (H3 v) <| av (I4 v) <| av (KS v) <| av (IE v) <| av (Io v) <| av (Kk v) <| av (Hc v) <| av (Ib v) <| av (H2 v) <| av (Hv v) <| av (I7 v) <| av (Jp v) <| av (Jm v) <| av (JQ v) <| av (Kn v) <| av (KI v) <| av (Hz v) <| av (JA v) <| av (G7 v) <| av (Jd v) <| Em
theorem QL : bo Tryz.prog (aO [true,false] (ab Tryz.f76)) xZ wP MR := qn (by kernel_rfl) (sx := oq) (gx := pA) E76.ok ak (by kernel_rfl) (by kernel_rfl) fun v π hπ => (Sd v π hπ).trans (aN (show ld v (sm (Ew v)) = (ld v some).bind _ from (bC (bI rfl) rfl)))
@[reducible] def Az : Type := (List (Ty.T aa)) × (Ty.T y36) × (Ty.T y48) × (Ty.T y69) × (Ty.T y36) × (List (Ty.T (.int .i64))) × (List (Ty.T y48)) × (List (Ty.T an)) × (List (Ty.T aa)) × Unit
@[reducible] def yX : List SP := U4 (U2 (.one (.ptr 6 0) :: .und :: .one (.ptr 8 0) :: .one (.ptr 19 0) :: U16 (U2 (.und :: .one (.dat .bool true) :: U16 (U4 (.und :: []))))))
@[reducible] def wZ : List (Nat × GP) := [(6,.box 56 [.dat y48 false]),(8,.box 70 [.dat y69 false]),(19,.box 197 [.dat y36 true,.own 4108,.own 13,.own 16,.own 17]),(13,.arr 3 (.int .i64) false),(16,.arr 56 y48 false),(17,.arr 126 an false),(4108,.arr 103 aa false)]
def Ko (v : Az) (r : Bool) : Ex × St := (.normal,ar yX wZ (r,v.2.2.1,v.2.2.2.1,v.2.2.2.2.1,v.2.2.2.2.2.1,v.2.2.2.2.2.2.1,v.2.2.2.2.2.2.2.1,v.2.2.2.2.2.2.2.2.1,()))
def nG (v : Az) {Z : Type} (κ : Bool -> Option Z) : Option Z := cond (d125 v.2.1) (cond (Gf v.2.1) (cond (d130 v.1) (cond (xF v.1) (κ (dO v.2.2.1)) (κ false)) (none)) (κ false)) (none)
def lp (v : Az) : Bool := (nG v some).getD false
def vD (v : Az) : Bool := (nG v some).isSome
def M3 (v : Az) : aL (Ex × St) := .br (vD v) (.done (Ko v (lp v))) .no
theorem Uw : bo Tryz.prog (aO (pb 4 3) (ab Tryz.f76)) oq pA M3 := bf (lt := .none) (sx := yX) (gx := wZ) E76.ok ak (af.no _) fun v => et (nG v (sm (Ko v))) (by kernel_rfl) (aN (show nG v (sm (Ko v)) = (nG v some).bind _ from (bC (bC (bC (bC rfl rfl) rfl) rfl) rfl)))
@[reducible] def zC : Type := Bool × (Ty.T y48) × (Ty.T y69) × (Ty.T y36) × (List (Ty.T (.int .i64))) × (List (Ty.T y48)) × (List (Ty.T an)) × (List (Ty.T aa)) × Unit
@[reducible] def IB : List SP := U8 (.one (.ptr 8 0) :: .one (.ptr 19 0) :: U32 (U8 (.und :: [])))
@[reducible] def JI : List (Nat × GP) := [(8,.box 70 [.dat y69 false]),(19,.box 197 [.dat y36 true,.own 4108,.own 13,.own 16,.own 17]),(13,.arr 3 (.int .i64) false),(16,.arr 56 y48 false),(17,.arr 126 an false),(4108,.arr 103 aa false)]
def Kb (v : zC) (r : (Ty.T y36) × (List (Ty.T (.int .i64))) × (List (Ty.T y48)) × (List (Ty.T an)) × (List (Ty.T aa))) : Ex × St := (.normal,ar IB JI (v.2.2.1,r.1,r.2.1,r.2.2.1,r.2.2.2.1,r.2.2.2.2,()))
def m5 (v : zC) {Z : Type} (κ : (Ty.T y36) × (List (Ty.T (.int .i64))) × (List (Ty.T y48)) × (List (Ty.T an)) × (List (Ty.T aa)) -> Option Z) : Option Z := cond v.1 (cond (BN v.2.1 [] v.2.2.2.1 v.2.2.2.2.2.2.2.1 v.2.2.2.2.1 v.2.2.2.2.2.1 v.2.2.2.2.2.2.1) (κ ((mm v.2.1 [] v.2.2.2.1 v.2.2.2.2.2.2.2.1 v.2.2.2.2.1 v.2.2.2.2.2.1 v.2.2.2.2.2.2.1).1,(mm v.2.1 [] v.2.2.2.1 v.2.2.2.2.2.2.2.1 v.2.2.2.2.1 v.2.2.2.2.2.1 v.2.2.2.2.2.2.1).2.2.1,(mm v.2.1 [] v.2.2.2.1 v.2.2.2.2.2.2.2.1 v.2.2.2.2.1 v.2.2.2.2.2.1 v.2.2.2.2.2.2.1).2.2.2.1,(mm v.2.1 [] v.2.2.2.1 v.2.2.2.2.2.2.2.1 v.2.2.2.2.1 v.2.2.2.2.2.1 v.2.2.2.2.2.2.1).2.2.2.2,(mm v.2.1 [] v.2.2.2.1 v.2.2.2.2.2.2.2.1 v.2.2.2.2.1 v.2.2.2.2.2.1 v.2.2.2.2.2.2.1).2.1)) (none)) (κ (v.2.2.2.1,v.2.2.2.2.1,v.2.2.2.2.2.1,v.2.2.2.2.2.2.1,v.2.2.2.2.2.2.2.1))
def nE (v : zC) : (Ty.T y36) × (List (Ty.T (.int .i64))) × (List (Ty.T y48)) × (List (Ty.T an)) × (List (Ty.T aa)) := (m5 v some).getD ((Ty.zero y36),[],[],[],[])
def vT (v : zC) : Bool := (m5 v some).isSome
def Ns (v : zC) : aL (Ex × St) := .br (vT v) (.done (Kb v (nE v))) .no
theorem Qb : bo Tryz.prog (aO (pb 4 11) (ab Tryz.f76)) yX wZ Ns := bf (lt := .none) (sx := IB) (gx := JI) E76.ok ak (af.no _) fun v => et (m5 v (sm (Kb v))) (by kernel_rfl) (aN (show m5 v (sm (Kb v)) = (m5 v some).bind _ from (bC (bC rfl rfl) rfl)))
def abb := E76.l (g := 76) (t := (aX (pb 4 11) (ab Tryz.f76) (aX (pb 4 3) (ab Tryz.f76) (aX [true,false] (ab Tryz.f76) .none (.sum xZ wP MR)) (.sum oq pA M3)) (.sum yX wZ Ns))) (aC Tryz.func76 (af.cX (aA (by kernel_rfl)) (af.cX (aA (by kernel_rfl)) (af.cX (aA (by kernel_rfl)) (af.no _) QL) Uw) Qb))
def t76 (a0 : Ty.T y36) (a1 : List (Ty.T aa)) (a2 : Ty.T y48) (a3 : List (Ty.T (.int .i64))) {Z : Type} (κ : (List (Ty.T y48)) × (List (Ty.T aa)) × (List (Ty.T (.int .i64))) × (List (Ty.T an)) -> Option Z) : Option Z := cond (ve (a1,a3,a0,a2,([],[],[],[]),())) (cond (vD (a1,a0,a2,([],[],[],[]),a0,[] ++ a3,[],[],(gV a1),())) (cond (vT ((lp (a1,a0,a2,([],[],[],[]),a0,[] ++ a3,[],[],(gV a1),())),a2,([],[],[],[]),a0,([] ++ a3),[],[],(gV a1),())) (κ ((nE ((lp (a1,a0,a2,([],[],[],[]),a0,[] ++ a3,[],[],(gV a1),())),a2,([],[],[],[]),a0,([] ++ a3),[],[],(gV a1),())).2.2.1,(nE ((lp (a1,a0,a2,([],[],[],[]),a0,[] ++ a3,[],[],(gV a1),())),a2,([],[],[],[]),a0,([] ++ a3),[],[],(gV a1),())).2.2.2.2,(nE ((lp (a1,a0,a2,([],[],[],[]),a0,[] ++ a3,[],[],(gV a1),())),a2,([],[],[],[]),a0,([] ++ a3),[],[],(gV a1),())).2.1,(nE ((lp (a1,a0,a2,([],[],[],[]),a0,[] ++ a3,[],[],(gV a1),())),a2,([],[],[],[]),a0,([] ++ a3),[],[],(gV a1),())).2.2.2.1)) (none)) (none)) (none)
def v76 (a0 : Ty.T y36) (a1 : List (Ty.T aa)) (a2 : Ty.T y48) (a3 : List (Ty.T (.int .i64))) : (List (Ty.T y48)) × (List (Ty.T aa)) × (List (Ty.T (.int .i64))) × (List (Ty.T an)) := (t76 a0 a1 a2 a3 some).getD ([],[],[],[])
def d76 (a0 : Ty.T y36) (a1 : List (Ty.T aa)) (a2 : Ty.T y48) (a3 : List (Ty.T (.int .i64))) : Bool := (t76 a0 a1 a2 a3 some).isSome
def p76 : Prim := ⟨[.agg [.dat y36 true],.one (.dat (.sl 103 aa) true),.agg [.dat y48 true],.one (.dat (.sl 3 (.int .i64)) true)],fun v => .br (d76 v.1 v.2.1 v.2.2.1 v.2.2.2.1) (.done (f76 (v76 v.1 v.2.1 v.2.2.1 v.2.2.2.1))) .no⟩
theorem ZB : PO 76 p76 := pK abb fun v => et ((t76 v.1 v.2.1 v.2.2.1 v.2.2.2.1 (sm f76))) (by kernel_rfl) (aN (show t76 v.1 v.2.1 v.2.2.1 v.2.2.2.1 (sm f76) = (t76 v.1 v.2.1 v.2.2.1 v.2.2.2.1 some).bind _ from (bC (bC (bC rfl rfl) rfl) rfl)))
def f77 (r : (List (Ty.T (.int .i64)))) : AV × Sig := (.one (.sl 4096),[(4096,.arr 3 (.int .i64) r false)])
def E77 := E0
@[reducible] def Bu : List SP := .one (.dat (.sl 126 an) true) :: .und :: .one (.dat (.sl 3 (.int .i64)) false) :: .one (.own 5) :: oI :: U16 (U4 (U2 ([])))
@[reducible] def BC : List (Nat × GP) := [(5,.arr 3 (.int .i64) false)]
@[reducible] def sX : Type := (List (Ty.T an)) × (List (Ty.T (.int .i64))) × Int × (List (Ty.T (.int .i64))) × Unit
def vi (v : sX) {Z : Type} (κ : Nat × sX -> Option Z) : Option Z := cond (decide (v.2.2.1 < ((v.1).length : Int))) (if 0 <= v.2.2.1 then (ay ((v.1)[(v.2.2.1).toNat]?) (fun x1 => cond (decide (x1.2.2.2.1 ≥ (2 : Int))) (if 0 <= v.2.2.1 then (ay ((v.1)[(v.2.2.1).toNat]?) (fun x2 => if (v.2.2.2.1 ++ [x2.2.2.1] : List (Ty.T (.int .i64))).length * 8 <= 140737488351232 then (κ (0,(v.1,v.2.1,IntKind.wrap .i64 (v.2.2.1 + (1 : Int)),v.2.2.2.1 ++ [x2.2.2.1],()))) else none)) else none) (κ (0,(v.1,v.2.1,IntKind.wrap .i64 (v.2.2.1 + (1 : Int)),v.2.2.2.1,()))))) else none) (κ (1,(v.1,v.2.1,v.2.2.1,v.2.2.2.1,())))
def q9 (v : sX) : Option (Nat × sX) := vi v some
def zS (v : sX) : Nat := v.1.length + v.2.1.length + v.2.2.1.toNat + v.2.2.2.1.length + 100
def D8 (h0 : List (Ty.T an)) (h1 : List (Ty.T (.int .i64))) (h2 : Int) (h3 : List (Ty.T (.int .i64))) (c : Nat) : Bool := iK q9 zS (h0,h1,h2,h3,()) c
def KF (h0 : List (Ty.T an)) (h1 : List (Ty.T (.int .i64))) (h2 : Int) (h3 : List (Ty.T (.int .i64))) : sX := iW q9 zS (h0,h1,h2,h3,())
def Nc (v : sX) : aL (Ex × St) := aM q9 (zS v) v (ar Bu BC) [.exit 0] 0
theorem SU : aH Tryz.prog (aw (pb 4 11) (ab Tryz.f77)) Bu BC Nc := ag (lt := .none) E77.ok ak (af.no _) fun n v K => et (vi v (bL _ _ _ _ _ K)) (by kernel_rfl) (show vi v _ = (vi v some).bind _ from (bC (bI (bO fun x1 => (bC (bI (bO fun x2 => (bI rfl))) rfl))) rfl))
def acA := E77.l (g := 77) (t := (a9 (pb 4 11) (ab Tryz.f77) .none (.sum Bu BC Nc))) (aC Tryz.func77 (af.put (aA (by kernel_rfl)) (af.no _) SU))
def u77 (a0 : List (Ty.T an)) : Option (AV × Sig) := cond (D8 a0 [] 0 [] 0) (some (.one (.sl 4096),[(4096,.arr 3 (.int .i64) (KF a0 [] 0 []).2.2.2.1 false)])) (none)
def v77 (a0 : List (Ty.T an)) : (List (Ty.T (.int .i64))) := cond (D8 a0 [] 0 [] 0) ((KF a0 [] 0 []).2.2.2.1) ([])
def d77 (a0 : List (Ty.T an)) : Bool := cond (D8 a0 [] 0 [] 0) (true) (false)
theorem o77 (a0 : List (Ty.T an)) : u77 a0 = cond (d77 a0) (some (f77 (v77 a0))) none := (pC (pS _) (pN _))
def p77 : Prim := ⟨[.one (.dat (.sl 126 an) true)],fun v => .br (d77 v.1) (.done (f77 (v77 v.1))) .no⟩
theorem V0 : PO 77 p77 := pK acA fun v => et (u77 v.1) (by kernel_rfl) (o77 v.1)
def f78 (r : (List (Ty.T (.int .i64)))) : AV × Sig := (.one (.sl 4096),[(4096,.arr 3 (.int .i64) r false)])
def E78 := E0
@[reducible] def B1 : List SP := .one (.dat (.sl 3 (.int .i64)) true) :: .one (.dat (.sl 3 (.int .i64)) true) :: U2 (.one (.own 3686498304) :: oI :: U16 (U8 (U4 (U2 (.und :: [])))))
@[reducible] def Cf : List (Nat × GP) := [(3686498304,.arr 3 (.int .i64) false)]
def uz (v : dC) {Z : Type} (κ : Nat × dC -> Option Z) : Option Z := cond (decide (v.2.2.1 ≥ (0 : Int))) (if 0 <= v.2.2.1 then (ay ((v.1)[(v.2.2.1).toNat]?) (fun x1 => if 0 <= v.2.2.1 then (ay ((v.2.1)[(v.2.2.1).toNat]?) (fun x2 => cond (decide ((IntKind.wrap .i64 (x1 + (1 : Int))) < x2)) (if 0 <= v.2.2.1 then (if v.2.2.1 <= ((v.1).length : Int) then (if ([] ++ ((v.1.take ((v.2.2.1).toNat)).drop 0) : List (Ty.T (.int .i64))).length * 8 <= 140737488351232 then (if 0 <= v.2.2.1 then (ay ((v.1)[(v.2.2.1).toNat]?) (fun x3 => if (([] ++ ((v.1.take ((v.2.2.1).toNat)).drop 0)) ++ [IntKind.wrap .i64 (x3 + (1 : Int))] : List (Ty.T (.int .i64))).length * 8 <= 140737488351232 then (κ (1,(v.1,v.2.1,v.2.2.1,([] ++ ((v.1.take ((v.2.2.1).toNat)).drop 0)) ++ [IntKind.wrap .i64 (x3 + (1 : Int))],()))) else none)) else none) else none) else none) else none) (κ (0,(v.1,v.2.1,IntKind.wrap .i64 (v.2.2.1 - (1 : Int)),v.2.2.2.1,()))))) else none)) else none) (κ (2,(v.1,v.2.1,v.2.2.1,v.2.2.2.1,())))
def uq (v : dC) : Option (Nat × dC) := uz v some
def Bp (v : dC) : Nat := v.1.length + v.2.1.length + v.2.2.1.toNat + v.2.2.2.1.length + 100
def nK (h0 : List (Ty.T (.int .i64))) (h1 : List (Ty.T (.int .i64))) (h2 : Int) (h3 : List (Ty.T (.int .i64))) (c : Nat) : Bool := iK uq Bp (h0,h1,h2,h3,()) c
def IJ (h0 : List (Ty.T (.int .i64))) (h1 : List (Ty.T (.int .i64))) (h2 : Int) (h3 : List (Ty.T (.int .i64))) : dC := iW uq Bp (h0,h1,h2,h3,())
def NI (v : dC) : aL (Ex × St) := aM uq (Bp v) v (ar B1 Cf) [.ret,.exit 0] 0
theorem Vj : aH Tryz.prog (aw (pb 3 5) (ab Tryz.f78)) B1 Cf NI := ag (lt := .none) E78.ok ak (af.no _) fun n v K => et (uz v (bL _ _ _ _ _ K)) (by kernel_rfl) (show uz v _ = (uz v some).bind _ from (bC (bI (bO fun x1 => (bI (bO fun x2 => (bC (bI (bI (bI (bI (bO fun x3 => (bI rfl)))))) rfl))))) rfl))
def Yb := E78.l (g := 78) (t := (a9 (pb 3 5) (ab Tryz.f78) .none (.sum B1 Cf NI))) (aC Tryz.func78 (af.put (aA (by kernel_rfl)) (af.no _) Vj))
def u78 (a0 : List (Ty.T (.int .i64))) (a1 : List (Ty.T (.int .i64))) : Option (AV × Sig) := cond (nK a0 a1 (IntKind.wrap .i64 (((a0).length : Int) - (1 : Int))) [] 0) (some (.one (.sl 4096),[(4096,.arr 3 (.int .i64) (IJ a0 a1 (IntKind.wrap .i64 (((a0).length : Int) - (1 : Int))) []).2.2.2.1 false)])) (cond (nK a0 a1 (IntKind.wrap .i64 (((a0).length : Int) - (1 : Int))) [] 1) (some (.one (.sl 4096),[(4096,.arr 3 (.int .i64) [] false)])) (none))
def v78 (a0 : List (Ty.T (.int .i64))) (a1 : List (Ty.T (.int .i64))) : (List (Ty.T (.int .i64))) := cond (nK a0 a1 (IntKind.wrap .i64 (((a0).length : Int) - (1 : Int))) [] 0) ((IJ a0 a1 (IntKind.wrap .i64 (((a0).length : Int) - (1 : Int))) []).2.2.2.1) (cond (nK a0 a1 (IntKind.wrap .i64 (((a0).length : Int) - (1 : Int))) [] 1) ([]) ([]))
def d78 (a0 : List (Ty.T (.int .i64))) (a1 : List (Ty.T (.int .i64))) : Bool := cond (nK a0 a1 (IntKind.wrap .i64 (((a0).length : Int) - (1 : Int))) [] 0) (true) (cond (nK a0 a1 (IntKind.wrap .i64 (((a0).length : Int) - (1 : Int))) [] 1) (true) (false))
theorem o78 (a0 : List (Ty.T (.int .i64))) (a1 : List (Ty.T (.int .i64))) : u78 a0 a1 = cond (d78 a0 a1) (some (f78 (v78 a0 a1))) none := (pC (pS _) (pC (pS _) (pN _)))
def p78 : Prim := ⟨[.one (.dat (.sl 3 (.int .i64)) true),.one (.dat (.sl 3 (.int .i64)) true)],fun v => .br (d78 v.1 v.2.1) (.done (f78 (v78 v.1 v.2.1))) .no⟩
theorem acM : PO 78 p78 := pK Yb fun v => et (u78 v.1 v.2.1) (by kernel_rfl) (o78 v.1 v.2.1)
end
end Go.Proofs.YtcddhifkfakcjaaGreat.Vm
