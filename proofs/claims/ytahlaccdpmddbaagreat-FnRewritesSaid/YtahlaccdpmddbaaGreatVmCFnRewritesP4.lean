/- Contracts. No condition. -/
import Derived.Test.YtahlaccdpmddbaaGreatVmCFnRewritesP3
import Derived.Test.YtahlaccdpmddbaaGreatVmLibThree
namespace Go.Proofs.YtahlaccdpmddbaaGreat.Vm
open Go Go.Proofs.YtahlaccdpmddbaaGreat.Lib
noncomputable section
set_option maxRecDepth 100000
set_option linter.unusedVariables false
def I8 (r : (Ty.T q2) × (Ty.T af) × (List (Ty.T y27))) : AV × Sig := (.agg ((q2.cells false r.1) ++ [.sl 33579008]), [(4294967296, .box 222 ((af.cells true r.2.1))), (33579008, .arr 41 y27 r.2.2 false)])
def qz := ((((((E0.g db).g K1).g dH).g px).g wv).g K4)
@[reducible] def AD : List SP := .one (.ptr 4294967296 0) :: U2 (.one (.ptr 3 0) :: .one (.ptr 4 0) :: U64 (U4 (U2 (.und :: []))))
@[reducible] def BQ : List (Nat × GP) := [(4294967296, .box 222 [.dat af true]), (3, .box 37 [.dat y36 false]), (4, .box 107 [.dat bm false])]
@[reducible] def iu : Type := (Ty.T af) × (Ty.T y36) × (Ty.T bm) × Unit
@[reducible] def eZ : List SP := .one (.ptr 4294967296 0) :: U2 (.one (.ptr 3 0) :: .one (.ptr 4 0) :: .one (.ptr 5 0) :: U64 (U4 (U2 ([]))))
@[reducible] def dT : List (Nat × GP) := [(4294967296, .box 222 [.dat af true]), (3, .box 37 [.dat y36 false]), (4, .box 107 [.dat bm false]), (5, .box 107 [.dat q2 false, .own 33579019]), (33579019, .arr 41 y27 false)]
def zE (v : iu) (r : Unit) : Ex × St := (.normal, ax eZ dT ((cJ v.2.1 (IntKind.wrap .i64 ((1 : Int) + (aa 6 v.1).1)) (aa 6 v.1).2).2.1, v.2.1, v.2.2.1, (cJ v.2.1 (IntKind.wrap .i64 ((1 : Int) + (aa 6 v.1).1)) (aa 6 v.1).2).1, (cJ v.2.1 (IntKind.wrap .i64 ((1 : Int) + (aa 6 v.1).1)) (aa 6 v.1).2).2.2, ()))
def jx (v : iu) {Z : Type} (κ : Unit -> Option Z) : Option Z := cond (bB 6 v.1) (cond (Ep v.2.1 (IntKind.wrap .i64 ((1 : Int) + (aa 6 v.1).1)) (aa 6 v.1).2) (κ ()) (none)) (none)
def Qd (v : iu) : Unit := (jx v some).getD ()
def zu (v : iu) : Bool := (jx v some).isSome
def Hc (v : iu) : aJ (Ex × St) := .br (zu v) (.done (zE v (Qd v))) .no
theorem SG : aN Tryz.prog (av [true, false] (ae Tryz.f295)) AD BQ Hc := bq (by kernel_rfl) (sx := eZ) (gx := dT) qz.ok aj (by kernel_rfl) 6 fun v => Eq.trans (b := List.replicate 6 (jx v (sm (zE v)))) (by kernel_rfl) (congrArg (List.replicate 6) (aq (show jx v (sm (zE v)) = (jx v some).bind _ from (bC (bC rfl rfl) rfl))))
@[reducible] def bg : Type := (Ty.T af) × (Ty.T y36) × (Ty.T bm) × (Ty.T q2) × (List (Ty.T y27)) × Unit
@[reducible] def eN : List SP := U4 (.one (.ptr 4 0) :: .one (.ptr 5 0) :: U64 (U4 (U2 ([]))))
@[reducible] def eW : List (Nat × GP) := [(4, .box 107 [.dat bm false]), (5, .box 107 [.dat q2 false, .own 33579019]), (4294967296, .box 222 [.dat af true]), (33579019, .arr 41 y27 false)]
def yY (v : bg) (r : Unit) : Ex × St := (.normal, ax eN eW (v.2.2.1, v.2.2.2.1, (n6 v.2.1 v.1).2, v.2.2.2.2.1 ++ [(n6 v.2.1 v.1).1], ()))
def jw (v : bg) {Z : Type} (κ : Unit -> Option Z) : Option Z := cond (CY v.2.1 v.1) (if (v.2.2.2.2.1 ++ [(n6 v.2.1 v.1).1] : List (Ty.T y27)).length * 56 <= 140737488351232 then (κ ()) else none) (none)
def Pa (v : bg) : Unit := (jw v some).getD ()
def z0 (v : bg) : Bool := (jw v some).isSome
def F5 (v : bg) : aJ (Ex × St) := .br (z0 v) (.done (yY v (Pa v))) .no
theorem PM : aN Tryz.prog (av [true, true, true, true, true, true, true, true, true, true, true, true, false] (av (pb 5 27) (ae Tryz.f295))) eZ dT F5 := bq (by kernel_rfl) (sx := eN) (gx := eW) qz.ok aj (by kernel_rfl) 2 fun v => Eq.trans (b := List.replicate 2 (jw v (sm (yY v)))) (by kernel_rfl) (congrArg (List.replicate 2) (aq (show jw v (sm (yY v)) = (jw v some).bind _ from (bC (bI rfl) rfl))))
def sC (v : bg) (r : Unit) : Ex × St := (.normal, ax eN eW (v.2.2.1, v.2.2.2.1, (al v.2.1 (al v.2.1 (al v.2.1 v.1).2).2).2, v.2.2.2.2.1 ++ [(al v.2.1 v.1).1, (al v.2.1 (al v.2.1 v.1).2).1, (al v.2.1 (al v.2.1 (al v.2.1 v.1).2).2).1], ()))
def gz (v : bg) {Z : Type} (κ : Unit -> Option Z) : Option Z := cond (lU v.2.1 v.1) (cond (lU v.2.1 (al v.2.1 v.1).2) (cond (lU v.2.1 (al v.2.1 (al v.2.1 v.1).2).2) (if (v.2.2.2.2.1 ++ [(al v.2.1 v.1).1, (al v.2.1 (al v.2.1 v.1).2).1, (al v.2.1 (al v.2.1 (al v.2.1 v.1).2).2).1] : List (Ty.T y27)).length * 56 <= 140737488351232 then (κ ()) else none) (none)) (none)) (none)
def OT (v : bg) : Unit := (gz v some).getD ()
def zD (v : bg) : Bool := (gz v some).isSome
def HD (v : bg) : aJ (Ex × St) := .br (zD v) (.done (sC v (OT v))) .no
def bW : List (List Nat) := [[0,2,5,8,1,3,6,9,4,7,10,11,12,13,14],[0,2,5,8,1,3,6,4,9,7,10,11,12,13,14],[0,2,5,8,1,3,6,4,7,9,10,11,12,13,14],[0,2,5,8,1,3,9,4,6,7,10,11,12,13,14],[0,2,5,8,1,3,4,6,9,7,10,11,12,13,14],[0,2,5,8,1,3,4,6,7,9,10,11,12,13,14],[0,2,5,8,3,6,9,4,1,7,10,11,12,13,14],[0,2,5,8,3,6,9,4,7,1,10,11,12,13,14],[0,2,5,8,3,6,9,4,7,10,1,11,12,13,14],[0,2,5,8,3,6,4,1,9,7,10,11,12,13,14],[0,2,5,8,3,6,4,1,7,9,10,11,12,13,14],[0,2,5,8,3,6,4,9,7,1,10,11,12,13,14],[0,2,5,8,3,6,4,9,7,10,1,11,12,13,14],[0,2,5,8,3,6,4,7,1,9,10,11,12,13,14],[0,2,5,8,3,6,4,7,9,10,1,11,12,13,14],[0,2,5,8,3,9,4,1,6,7,10,11,12,13,14],[0,2,5,8,3,9,4,6,7,1,10,11,12,13,14],[0,2,5,8,3,9,4,6,7,10,1,11,12,13,14],[0,2,5,8,3,4,1,6,9,7,10,11,12,13,14],[0,2,5,8,3,4,1,6,7,9,10,11,12,13,14],[0,2,5,8,3,4,6,9,7,1,10,11,12,13,14],[0,2,5,8,3,4,6,9,7,10,1,11,12,13,14],[0,2,5,8,3,4,6,7,1,9,10,11,12,13,14],[0,2,5,8,3,4,6,7,9,10,1,11,12,13,14]]
def aR (v : bg) (π : List Nat) : Prop := l8 qz.E (av [true, true, true, true, true, true, true, true, true, true, true, true, true, true, false] (av (pb 5 27) (ae Tryz.f295))) eN eW (ax eZ dT v) π = gz v (sm (sC v))
theorem Iy (v : bg) : aR v (bW.getD 0 []) := by unfold aR; kernel_rfl
theorem Jx (v : bg) : aR v (bW.getD 1 []) := by unfold aR; kernel_rfl
theorem JX (v : bg) : aR v (bW.getD 2 []) := by unfold aR; kernel_rfl
theorem Jl (v : bg) : aR v (bW.getD 3 []) := by unfold aR; kernel_rfl
theorem JI (v : bg) : aR v (bW.getD 4 []) := by unfold aR; kernel_rfl
theorem Jo (v : bg) : aR v (bW.getD 5 []) := by unfold aR; kernel_rfl
theorem IQ (v : bg) : aR v (bW.getD 6 []) := by unfold aR; kernel_rfl
theorem I7 (v : bg) : aR v (bW.getD 7 []) := by unfold aR; kernel_rfl
theorem IJ (v : bg) : aR v (bW.getD 8 []) := by unfold aR; kernel_rfl
theorem Ja (v : bg) : aR v (bW.getD 9 []) := by unfold aR; kernel_rfl
theorem FB (v : bg) : aR v (bW.getD 10 []) := by unfold aR; kernel_rfl
theorem Hj (v : bg) : aR v (bW.getD 11 []) := by unfold aR; kernel_rfl
theorem FY (v : bg) : aR v (bW.getD 12 []) := by unfold aR; kernel_rfl
theorem EW (v : bg) : aR v (bW.getD 13 []) := by unfold aR; kernel_rfl
theorem FE (v : bg) : aR v (bW.getD 14 []) := by unfold aR; kernel_rfl
theorem FP (v : bg) : aR v (bW.getD 15 []) := by unfold aR; kernel_rfl
theorem Fk (v : bg) : aR v (bW.getD 16 []) := by unfold aR; kernel_rfl
theorem Ge (v : bg) : aR v (bW.getD 17 []) := by unfold aR; kernel_rfl
theorem Ha (v : bg) : aR v (bW.getD 18 []) := by unfold aR; kernel_rfl
theorem GJ (v : bg) : aR v (bW.getD 19 []) := by unfold aR; kernel_rfl
theorem F8 (v : bg) : aR v (bW.getD 20 []) := by unfold aR; kernel_rfl
theorem HZ (v : bg) : aR v (bW.getD 21 []) := by unfold aR; kernel_rfl
theorem GM (v : bg) : aR v (bW.getD 22 []) := by unfold aR; kernel_rfl
theorem FN (v : bg) : aR v (bW.getD 23 []) := by unfold aR; kernel_rfl
theorem QR (v : bg) : ∀ π ∈ bW, l8 qz.E (av [true, true, true, true, true, true, true, true, true, true, true, true, true, true, false] (av (pb 5 27) (ae Tryz.f295))) eN eW (ax eZ dT v) π = gz v (sm (sC v)) := ar (Iy v) <| ar (Jx v) <| ar (JX v) <| ar (Jl v) <| ar (JI v) <| ar (Jo v) <| ar (IQ v) <| ar (I7 v) <| ar (IJ v) <| ar (Ja v) <| ar (FB v) <| ar (Hj v) <| ar (FY v) <| ar (EW v) <| ar (FE v) <| ar (FP v) <| ar (Fk v) <| ar (Ge v) <| ar (Ha v) <| ar (GJ v) <| ar (F8 v) <| ar (HZ v) <| ar (GM v) <| ar (FN v) <| Ei
theorem Pj : aN Tryz.prog (av [true, true, true, true, true, true, true, true, true, true, true, true, true, true, false] (av (pb 5 27) (ae Tryz.f295))) eZ dT HD := nq (by kernel_rfl) (sx := eN) (gx := eW) qz.ok aj (by kernel_rfl) (by kernel_rfl) fun v π hπ => (QR v π hπ).trans (aq (show gz v (sm (sC v)) = (gz v some).bind _ from (bC (bC (bC (bI rfl) rfl) rfl) rfl)))
@[reducible] def AL : List SP := .one (.ptr 4294967296 0) :: U2 (.one (.ptr 3 0) :: .one (.ptr 4 0) :: .one (.ptr 5 0) :: U4 (U2 (.und :: oI :: .one (.dat .bool true) :: U32 (U16 (U8 (U4 (.und :: [])))))))
@[reducible] def fj : Type := Int × Bool × (Ty.T af) × (Ty.T y36) × (Ty.T bm) × (Ty.T q2) × (List (Ty.T y27)) × Unit
def wW (v : fj) (r : (Ty.T q2) × (Ty.T af) × (List (Ty.T y27))) : Ex × St := (.normal, ax eN eW (v.2.2.2.2.1, r.1, r.2.1, r.2.2, ()))
def gu (v : fj) {Z : Type} (κ : (Ty.T q2) × (Ty.T af) × (List (Ty.T y27)) -> Option Z) : Option Z := cond v.2.1 (cond (aV [0, 1, 3, 6, 7, 8, 9, 10] v.2.2.1) (κ (((ai [0, 1, 3, 6, 7, 8, 9, 10] v.2.2.1).1, v.2.2.2.2.2.1.2), (ai [0, 1, 3, 6, 7, 8, 9, 10] v.2.2.1).2, v.2.2.2.2.2.2.1)) (none)) (cond (v.1 == (1 : Int)) (cond (iX v.2.2.1) (κ ((v.2.2.2.2.2.1.1, (dn v.2.2.1).1, v.2.2.2.2.2.1.2.2), (dn v.2.2.1).2, v.2.2.2.2.2.2.1)) (none)) (cond (v.1 == (2 : Int)) (cond (aV [0, 1, 99, 100] v.2.2.1) (κ ((v.2.2.2.2.2.1.1, v.2.2.2.2.2.1.2.1, (ai [0, 1, 99, 100] v.2.2.1).1, v.2.2.2.2.2.1.2.2.2), (ai [0, 1, 99, 100] v.2.2.1).2, v.2.2.2.2.2.2.1)) (none)) (cond (v.1 == (3 : Int)) (cond (aV [(-2), 0, 2, 3] v.2.2.1) (κ ((v.2.2.2.2.2.1.1, v.2.2.2.2.2.1.2.1, v.2.2.2.2.2.1.2.2.1, (ai [(-2), 0, 2, 3] v.2.2.1).1, v.2.2.2.2.2.1.2.2.2.2), (ai [(-2), 0, 2, 3] v.2.2.1).2, v.2.2.2.2.2.2.1)) (none)) (cond (v.1 == (4 : Int)) (cond (aV [0, 4, 5] v.2.2.1) (κ ((v.2.2.2.2.2.1.1, v.2.2.2.2.2.1.2.1, v.2.2.2.2.2.1.2.2.1, v.2.2.2.2.2.1.2.2.2.1, (ai [0, 4, 5] v.2.2.1).1, v.2.2.2.2.2.1.2.2.2.2.2), (ai [0, 4, 5] v.2.2.1).2, v.2.2.2.2.2.2.1)) (none)) (cond (v.1 == (5 : Int)) (κ ((v.2.2.2.2.2.1.1, v.2.2.2.2.2.1.2.1, v.2.2.2.2.2.1.2.2.1, v.2.2.2.2.2.1.2.2.2.1, v.2.2.2.2.2.1.2.2.2.2.1, !v.2.2.2.2.2.1.2.2.2.2.2), v.2.2.1, v.2.2.2.2.2.2.1)) (cond (v.1 == (6 : Int)) (cond (z0 (v.2.2.1, v.2.2.2.1, v.2.2.2.2.1, v.2.2.2.2.2.1, v.2.2.2.2.2.2.1, ())) (κ (v.2.2.2.2.2.1, (n6 v.2.2.2.1 v.2.2.1).2, v.2.2.2.2.2.2.1 ++ [(n6 v.2.2.2.1 v.2.2.1).1])) (none)) (cond (v.1 == (7 : Int)) (cond (zD (v.2.2.1, v.2.2.2.1, v.2.2.2.2.1, v.2.2.2.2.2.1, v.2.2.2.2.2.2.1, ())) (κ (v.2.2.2.2.2.1, (al v.2.2.2.1 (al v.2.2.2.1 (al v.2.2.2.1 v.2.2.1).2).2).2, v.2.2.2.2.2.2.1 ++ [(al v.2.2.2.1 v.2.2.1).1, (al v.2.2.2.1 (al v.2.2.2.1 v.2.2.1).2).1, (al v.2.2.2.1 (al v.2.2.2.1 (al v.2.2.2.1 v.2.2.1).2).2).1])) (none)) (κ (v.2.2.2.2.2.1, v.2.2.1, v.2.2.2.2.2.2.1)))))))))
def lp (v : fj) : (Ty.T q2) × (Ty.T af) × (List (Ty.T y27)) := (gu v some).getD ((Ty.zero q2), (Ty.zero af), [])
def yK (v : fj) : Bool := (gu v some).isSome
def GF (v : fj) : aJ (Ex × St) := .br (yK v) (.done (wW v (lp v))) .no
theorem RT : aN Tryz.prog (av (pb 5 27) (ae Tryz.f295)) AL dT GF := aI (lt := (aD [true, true, true, true, true, true, true, true, true, true, true, true, true, true, false] (av (pb 5 27) (ae Tryz.f295)) (aD [true, true, true, true, true, true, true, true, true, true, true, true, false] (av (pb 5 27) (ae Tryz.f295)) .none (.sum eZ dT F5)) (.sum eZ dT HD))) (sx := eN) (gx := eW) qz.ok aj (ah.b7 (az (by kernel_rfl)) (ah.b7 (az (by kernel_rfl)) (ah.no _) PM) Pj) fun v => Eq.trans (b := gu v (sm (wW v))) (by kernel_rfl) (aq (show gu v (sm (wW v)) = (gu v some).bind _ from by unfold gu; simp only [bb]))
def Ud := qz.l (g := 295) (t := (aD (pb 5 27) (ae Tryz.f295) (aD [true, false] (ae Tryz.f295) .none (.sum AD BQ Hc)) (.sum AL dT GF))) (aQ Tryz.func295 (ah.b7 (az (by kernel_rfl)) (ah.b7 (az (by kernel_rfl)) (ah.no _) SG) RT))
def ra (a0 : Ty.T y36) (a1 : Ty.T af) {Z : Type} (κ : (Ty.T q2) × (Ty.T af) × (List (Ty.T y27)) -> Option Z) : Option Z := cond (zu (a1, a0, (0, 0, 0, 0, 0, false, []), ())) (cond (bB 18 (cJ a0 (IntKind.wrap .i64 ((1 : Int) + (aa 6 a1).1)) (aa 6 a1).2).2.1) (cond (yK ((aa 18 (cJ a0 (IntKind.wrap .i64 ((1 : Int) + (aa 6 a1).1)) (aa 6 a1).2).2.1).1, ((aa 18 (cJ a0 (IntKind.wrap .i64 ((1 : Int) + (aa 6 a1).1)) (aa 6 a1).2).2.1).1 == (0 : Int)), (aa 18 (cJ a0 (IntKind.wrap .i64 ((1 : Int) + (aa 6 a1).1)) (aa 6 a1).2).2.1).2, a0, (0, 0, 0, 0, 0, false, []), (cJ a0 (IntKind.wrap .i64 ((1 : Int) + (aa 6 a1).1)) (aa 6 a1).2).1, (cJ a0 (IntKind.wrap .i64 ((1 : Int) + (aa 6 a1).1)) (aa 6 a1).2).2.2, ())) (κ ((lp ((aa 18 (cJ a0 (IntKind.wrap .i64 ((1 : Int) + (aa 6 a1).1)) (aa 6 a1).2).2.1).1, ((aa 18 (cJ a0 (IntKind.wrap .i64 ((1 : Int) + (aa 6 a1).1)) (aa 6 a1).2).2.1).1 == (0 : Int)), (aa 18 (cJ a0 (IntKind.wrap .i64 ((1 : Int) + (aa 6 a1).1)) (aa 6 a1).2).2.1).2, a0, (0, 0, 0, 0, 0, false, []), (cJ a0 (IntKind.wrap .i64 ((1 : Int) + (aa 6 a1).1)) (aa 6 a1).2).1, (cJ a0 (IntKind.wrap .i64 ((1 : Int) + (aa 6 a1).1)) (aa 6 a1).2).2.2, ())).1, (lp ((aa 18 (cJ a0 (IntKind.wrap .i64 ((1 : Int) + (aa 6 a1).1)) (aa 6 a1).2).2.1).1, ((aa 18 (cJ a0 (IntKind.wrap .i64 ((1 : Int) + (aa 6 a1).1)) (aa 6 a1).2).2.1).1 == (0 : Int)), (aa 18 (cJ a0 (IntKind.wrap .i64 ((1 : Int) + (aa 6 a1).1)) (aa 6 a1).2).2.1).2, a0, (0, 0, 0, 0, 0, false, []), (cJ a0 (IntKind.wrap .i64 ((1 : Int) + (aa 6 a1).1)) (aa 6 a1).2).1, (cJ a0 (IntKind.wrap .i64 ((1 : Int) + (aa 6 a1).1)) (aa 6 a1).2).2.2, ())).2.1, (lp ((aa 18 (cJ a0 (IntKind.wrap .i64 ((1 : Int) + (aa 6 a1).1)) (aa 6 a1).2).2.1).1, ((aa 18 (cJ a0 (IntKind.wrap .i64 ((1 : Int) + (aa 6 a1).1)) (aa 6 a1).2).2.1).1 == (0 : Int)), (aa 18 (cJ a0 (IntKind.wrap .i64 ((1 : Int) + (aa 6 a1).1)) (aa 6 a1).2).2.1).2, a0, (0, 0, 0, 0, 0, false, []), (cJ a0 (IntKind.wrap .i64 ((1 : Int) + (aa 6 a1).1)) (aa 6 a1).2).1, (cJ a0 (IntKind.wrap .i64 ((1 : Int) + (aa 6 a1).1)) (aa 6 a1).2).2.2, ())).2.2)) (none)) (none)) (none)
def uM (a0 : Ty.T y36) (a1 : Ty.T af) : (Ty.T q2) × (Ty.T af) × (List (Ty.T y27)) := (ra a0 a1 some).getD ((Ty.zero q2), (Ty.zero af), [])
def KC (a0 : Ty.T y36) (a1 : Ty.T af) : Bool := (ra a0 a1 some).isSome
def X5 : Gen := ⟨[false, false], [.one (.ptr 4294967296 0), .agg [.dat y36 false]], [(4294967296, .box 222 [.dat af true])], fun v => .br (KC v.1 v.2.1) (.done (I8 (uM v.1 v.2.1))) .no⟩
theorem T0 : bu Tryz.prog 295 X5 := bH Ud.ok aj (az (by kernel_rfl)) ⟨Tryz.f295, ae Tryz.f295, by kernel_rfl, by kernel_rfl⟩ fun v => Eq.trans (b := (ra v.1 v.2.1 (sm I8))) (by kernel_rfl) (aq (show ra v.1 v.2.1 (sm I8) = (ra v.1 v.2.1 some).bind _ from (bC (bC (bC rfl rfl) rfl) rfl)))
def Kd (r : (Ty.T q0) × (Ty.T aT) × (Ty.T af) × (List (Ty.T y27))) : AV × Sig := (.agg ((q0.cells false r.1) ++ [.sl 33632256] ++ (aT.cells false r.2.1)), [(4294967296, .box 222 ((af.cells true r.2.2.1))), (33632256, .arr 41 y27 r.2.2.2 false)])
def Ir := ((((((E0.g db).g dH).g CB).g UH).g UB).g T0)
@[reducible] def A4 : List SP := .one (.ptr 4294967296 0) :: U2 (.one (.ptr 3 0) :: .one (.ptr 4 0) :: U32 (U16 (U8 (U4 (U2 (.und :: []))))))
@[reducible] def AZ : List (Nat × GP) := [(4294967296, .box 222 [.dat af true]), (3, .box 37 [.dat y36 false]), (4, .box 109 [.dat ab false])]
@[reducible] def iS : Type := (Ty.T af) × (Ty.T y36) × (Ty.T ab) × Unit
@[reducible] def B7 : List SP := .one (.ptr 4294967296 0) :: U2 (.one (.ptr 3 0) :: .one (.ptr 4 0) :: .one (.ptr 5 0) :: U32 (U16 (U8 (U4 (U2 ([]))))))
@[reducible] def pe : List (Nat × GP) := [(4294967296, .box 222 [.dat af true]), (3, .box 37 [.dat y36 false]), (4, .box 109 [.dat ab false]), (5, .box 109 [.dat q0 false, .own 33632267, .dat aT false]), (33632267, .arr 41 y27 false)]
def xR (v : iS) (r : Unit) : Ex × St := (.normal, ax B7 pe ((an v.2.1 (IntKind.wrap .i64 ((1 : Int) + (aa 9 v.1).1)) (aa 9 v.1).2).2.2.1, v.2.1, v.2.2.1, (an v.2.1 (IntKind.wrap .i64 ((1 : Int) + (aa 9 v.1).1)) (aa 9 v.1).2).1, (an v.2.1 (IntKind.wrap .i64 ((1 : Int) + (aa 9 v.1).1)) (aa 9 v.1).2).2.1, (an v.2.1 (IntKind.wrap .i64 ((1 : Int) + (aa 9 v.1).1)) (aa 9 v.1).2).2.2.2, ()))
def iB (v : iS) {Z : Type} (κ : Unit -> Option Z) : Option Z := cond (bB 9 v.1) (cond (q8 v.2.1 (IntKind.wrap .i64 ((1 : Int) + (aa 9 v.1).1)) (aa 9 v.1).2) (κ ()) (none)) (none)
def Od (v : iS) : Unit := (iB v some).getD ()
def yn (v : iS) : Bool := (iB v some).isSome
def EO (v : iS) : aJ (Ex × St) := .br (yn v) (.done (xR v (Od v))) .no
theorem O2 : aN Tryz.prog (av [true, false] (ae Tryz.f236)) A4 AZ EO := bq (by kernel_rfl) (sx := B7) (gx := pe) Ir.ok aj (by kernel_rfl) 6 fun v => Eq.trans (b := List.replicate 6 (iB v (sm (xR v)))) (by kernel_rfl) (congrArg (List.replicate 6) (aq (show iB v (sm (xR v)) = (iB v some).bind _ from (bC (bC rfl rfl) rfl))))
@[reducible] def BM : List SP := .one (.ptr 4294967296 0) :: U2 (.one (.ptr 3 0) :: .one (.ptr 4 0) :: .one (.ptr 5 0) :: U4 (U2 (.und :: oI :: .one (.dat .bool true) :: U32 (U16 (U4 (.und :: []))))))
@[reducible] def fu : Type := Int × Bool × (Ty.T af) × (Ty.T y36) × (Ty.T ab) × (Ty.T q0) × (Ty.T aT) × (List (Ty.T y27)) × Unit
@[reducible] def AY : List SP := U4 (.one (.ptr 4 0) :: .one (.ptr 5 0) :: U32 (U16 (U8 (U4 (U2 ([]))))))
@[reducible] def BT : List (Nat × GP) := [(4, .box 109 [.dat ab false]), (5, .box 109 [.dat q0 false, .own 33632267, .dat aT false]), (4294967296, .box 222 [.dat af true]), (33632267, .arr 41 y27 false)]
def xl (v : fu) (r : (Ty.T q0) × (Ty.T aT) × (Ty.T af) × (List (Ty.T y27))) : Ex × St := (.normal, ax AY BT (v.2.2.2.2.1, r.1, r.2.1, r.2.2.1, r.2.2.2, ()))
def gH (v : fu) {Z : Type} (κ : (Ty.T q0) × (Ty.T aT) × (Ty.T af) × (List (Ty.T y27)) -> Option Z) : Option Z := cond v.2.1 (cond (aV [0, 99, 100] v.2.2.1) (κ (((ai [0, 99, 100] v.2.2.1).1, v.2.2.2.2.2.1.2), v.2.2.2.2.2.2.1, (ai [0, 99, 100] v.2.2.1).2, v.2.2.2.2.2.2.2.1)) (none)) (cond (v.1 == (1 : Int)) (cond (aV [(-1), 2, 3] v.2.2.1) (κ ((v.2.2.2.2.2.1.1, (ai [(-1), 2, 3] v.2.2.1).1, v.2.2.2.2.2.1.2.2), v.2.2.2.2.2.2.1, (ai [(-1), 2, 3] v.2.2.1).2, v.2.2.2.2.2.2.2.1)) (none)) (cond (v.1 == (2 : Int)) (cond (aV [(-1), 0, 99, 100] v.2.2.1) (κ ((v.2.2.2.2.2.1.1, v.2.2.2.2.2.1.2.1, (ai [(-1), 0, 99, 100] v.2.2.1).1, v.2.2.2.2.2.1.2.2.2), v.2.2.2.2.2.2.1, (ai [(-1), 0, 99, 100] v.2.2.1).2, v.2.2.2.2.2.2.2.1)) (none)) (cond (v.1 == (3 : Int)) (cond (aV [(-1), 0, 5] v.2.2.1) (κ ((v.2.2.2.2.2.1.1, v.2.2.2.2.2.1.2.1, v.2.2.2.2.2.1.2.2.1, (ai [(-1), 0, 5] v.2.2.1).1, v.2.2.2.2.2.1.2.2.2.2), v.2.2.2.2.2.2.1, (ai [(-1), 0, 5] v.2.2.1).2, v.2.2.2.2.2.2.2.1)) (none)) (cond (v.1 == (4 : Int)) (cond (Jj v.2.2.2.1 v.2.2.1) (κ ((v.2.2.2.2.2.1.1, v.2.2.2.2.2.1.2.1, v.2.2.2.2.2.1.2.2.1, v.2.2.2.2.2.1.2.2.2.1, (DI v.2.2.2.1 v.2.2.1).1, v.2.2.2.2.2.1.2.2.2.2.2), v.2.2.2.2.2.2.1, (DI v.2.2.2.1 v.2.2.1).2, v.2.2.2.2.2.2.2.1)) (none)) (cond (v.1 == (5 : Int)) (cond (KA v.2.2.1) (κ ((v.2.2.2.2.2.1.1, v.2.2.2.2.2.1.2.1, v.2.2.2.2.2.1.2.2.1, v.2.2.2.2.2.1.2.2.2.1, v.2.2.2.2.2.1.2.2.2.2.1, (CW v.2.2.1).1, v.2.2.2.2.2.1.2.2.2.2.2.2), v.2.2.2.2.2.2.1, (CW v.2.2.1).2, v.2.2.2.2.2.2.2.1)) (none)) (cond (v.1 == (6 : Int)) (cond (KC v.2.2.2.1 v.2.2.1) (κ ((v.2.2.2.2.2.1.1, v.2.2.2.2.2.1.2.1, v.2.2.2.2.2.1.2.2.1, v.2.2.2.2.2.1.2.2.2.1, v.2.2.2.2.2.1.2.2.2.2.1, v.2.2.2.2.2.1.2.2.2.2.2.1, (uM v.2.2.2.1 v.2.2.1).1), v.2.2.2.2.2.2.1, (uM v.2.2.2.1 v.2.2.1).2.1, (uM v.2.2.2.1 v.2.2.1).2.2)) (none)) (cond (v.1 == (7 : Int)) (cond (aV [(-2), 0, 9999, 10000] v.2.2.1) (κ (v.2.2.2.2.2.1, ((ai [(-2), 0, 9999, 10000] v.2.2.1).1, v.2.2.2.2.2.2.1.2), (ai [(-2), 0, 9999, 10000] v.2.2.1).2, v.2.2.2.2.2.2.2.1)) (none)) (cond (v.1 == (8 : Int)) (cond (aV [(-2), (-1), 0, 1, 2147483648] v.2.2.1) (κ (v.2.2.2.2.2.1, (v.2.2.2.2.2.2.1.1, (ai [(-2), (-1), 0, 1, 2147483648] v.2.2.1).1), (ai [(-2), (-1), 0, 1, 2147483648] v.2.2.1).2, v.2.2.2.2.2.2.2.1)) (none)) (κ (v.2.2.2.2.2.1, v.2.2.2.2.2.2.1, v.2.2.1, v.2.2.2.2.2.2.2.1))))))))))
def rW (v : fu) : (Ty.T q0) × (Ty.T aT) × (Ty.T af) × (List (Ty.T y27)) := (gH v some).getD ((Ty.zero q0), (Ty.zero aT), (Ty.zero af), [])
def xe (v : fu) : Bool := (gH v some).isSome
def EX (v : fu) : aJ (Ex × St) := .br (xe v) (.done (xl v (rW v))) .no
theorem OB : aN Tryz.prog (av (pb 5 27) (ae Tryz.f236)) BM pe EX := aI (lt := .none) (sx := AY) (gx := BT) Ir.ok aj (ah.no _) fun v => Eq.trans (b := gH v (sm (xl v))) (by kernel_rfl) (aq (show gH v (sm (xl v)) = (gH v some).bind _ from by unfold gH; simp only [bb]))
def Tf := Ir.l (g := 236) (t := (aD (pb 5 27) (ae Tryz.f236) (aD [true, false] (ae Tryz.f236) .none (.sum A4 AZ EO)) (.sum BM pe EX))) (aQ Tryz.func236 (ah.b7 (az (by kernel_rfl)) (ah.b7 (az (by kernel_rfl)) (ah.no _) O2) OB))
def cZ (a0 : Ty.T y36) (a1 : Ty.T af) := (an a0 (IntKind.wrap .i64 ((1 : Int) + (aa 9 a1).1)) (aa 9 a1).2)
def gE (a0 : Ty.T y36) (a1 : Ty.T af) := (rW ((aa 20 (cZ a0 a1).2.2.1).1, ((aa 20 (cZ a0 a1).2.2.1).1 == (0 : Int)), (aa 20 (cZ a0 a1).2.2.1).2, a0, (0, 0, 0, 0, (0, 0, 0, 0, 0, 0, 0), (0, 0), (0, 0, 0, 0, 0, false, []), 0, 0), (cZ a0 a1).1, (cZ a0 a1).2.1, (cZ a0 a1).2.2.2, ()))
def qG (a0 : Ty.T y36) (a1 : Ty.T af) {Z : Type} (κ : (Ty.T q0) × (Ty.T aT) × (Ty.T af) × (List (Ty.T y27)) -> Option Z) : Option Z := cond (yn (a1, a0, (0, 0, 0, 0, (0, 0, 0, 0, 0, 0, 0), (0, 0), (0, 0, 0, 0, 0, false, []), 0, 0), ())) (cond (bB 20 (cZ a0 a1).2.2.1) (cond (xe ((aa 20 (cZ a0 a1).2.2.1).1, ((aa 20 (cZ a0 a1).2.2.1).1 == (0 : Int)), (aa 20 (cZ a0 a1).2.2.1).2, a0, (0, 0, 0, 0, (0, 0, 0, 0, 0, 0, 0), (0, 0), (0, 0, 0, 0, 0, false, []), 0, 0), (cZ a0 a1).1, (cZ a0 a1).2.1, (cZ a0 a1).2.2.2, ())) (κ ((gE a0 a1).1, (gE a0 a1).2.1, (gE a0 a1).2.2.1, (gE a0 a1).2.2.2)) (none)) (none)) (none)
def bA (a0 : Ty.T y36) (a1 : Ty.T af) : (Ty.T q0) × (Ty.T aT) × (Ty.T af) × (List (Ty.T y27)) := (qG a0 a1 some).getD ((Ty.zero q0), (Ty.zero aT), (Ty.zero af), [])
def Cw (a0 : Ty.T y36) (a1 : Ty.T af) : Bool := (qG a0 a1 some).isSome
def Yu : Gen := ⟨[false, false], [.one (.ptr 4294967296 0), .agg [.dat y36 false]], [(4294967296, .box 222 [.dat af true])], fun v => .br (Cw v.1 v.2.1) (.done (Kd (bA v.1 v.2.1))) .no⟩
theorem Tz : bu Tryz.prog 236 Yu := bH Tf.ok aj (az (by kernel_rfl)) ⟨Tryz.f236, ae Tryz.f236, by kernel_rfl, by kernel_rfl⟩ fun v => Eq.trans (b := (qG v.1 v.2.1 (sm Kd))) (by kernel_rfl) (aq (show qG v.1 v.2.1 (sm Kd) = (qG v.1 v.2.1 some).bind _ from (bC (bC (bC rfl rfl) rfl) rfl)))
def Js (r : (Ty.T af) × (List (Ty.T ab))) : AV × Sig := (.one (.sl 33554432), [(4294967296, .box 222 ((af.cells true r.1))), (33554432, .arr 109 ab r.2 false)])
def Ik := ((((E0.g db).g KK).g CB).g Tz)
@[reducible] def Bz : List SP := .one (.ptr 4294967296 0) :: U2 (.one (.ptr 3 0) :: .one (.dat (.sl 109 ab) false) :: .one (.own 33554440) :: U32 (U4 (U2 ([]))))
@[reducible] def o8 : List (Nat × GP) := [(4294967296, .box 222 [.dat af true]), (3, .box 37 [.dat y36 false]), (33554440, .arr 109 ab false)]
@[reducible] def dX : Type := (List (Ty.T ab)) × (Ty.T af) × (Ty.T y36) × (List (Ty.T ab)) × Unit
@[reducible] def o3 : List SP := U4 (.one (.dat (.sl 109 ab) false) :: .one (.own 33554440) :: U32 (U4 (U2 ([]))))
@[reducible] def o0 : List (Nat × GP) := [(4294967296, .box 222 [.dat af true]), (33554440, .arr 109 ab false)]
def dv (v : dX) := (an v.2.2.1 52 (an v.2.2.1 51 (an v.2.2.1 50 v.2.1).2.2.1).2.2.1)
def yq (v : dX) (r : Unit) : Ex × St := (.normal, ax o3 o0 (v.1, (dv v).2.2.1, v.2.2.2.1 ++ [((an v.2.2.1 50 v.2.1).1.1, (an v.2.2.1 50 v.2.1).1.2.1, (an v.2.2.1 50 v.2.1).1.2.2.1, (an v.2.2.1 50 v.2.1).1.2.2.2.1, (an v.2.2.1 50 v.2.1).1.2.2.2.2.1, (an v.2.2.1 50 v.2.1).1.2.2.2.2.2.1, ((an v.2.2.1 50 v.2.1).1.2.2.2.2.2.2.1, (an v.2.2.1 50 v.2.1).1.2.2.2.2.2.2.2.1, (an v.2.2.1 50 v.2.1).1.2.2.2.2.2.2.2.2.1, (an v.2.2.1 50 v.2.1).1.2.2.2.2.2.2.2.2.2.1, (an v.2.2.1 50 v.2.1).1.2.2.2.2.2.2.2.2.2.2.1, (an v.2.2.1 50 v.2.1).1.2.2.2.2.2.2.2.2.2.2.2, (an v.2.2.1 50 v.2.1).2.2.2), (an v.2.2.1 50 v.2.1).2.1), ((an v.2.2.1 51 (an v.2.2.1 50 v.2.1).2.2.1).1.1, (an v.2.2.1 51 (an v.2.2.1 50 v.2.1).2.2.1).1.2.1, (an v.2.2.1 51 (an v.2.2.1 50 v.2.1).2.2.1).1.2.2.1, (an v.2.2.1 51 (an v.2.2.1 50 v.2.1).2.2.1).1.2.2.2.1, (an v.2.2.1 51 (an v.2.2.1 50 v.2.1).2.2.1).1.2.2.2.2.1, (an v.2.2.1 51 (an v.2.2.1 50 v.2.1).2.2.1).1.2.2.2.2.2.1, ((an v.2.2.1 51 (an v.2.2.1 50 v.2.1).2.2.1).1.2.2.2.2.2.2.1, (an v.2.2.1 51 (an v.2.2.1 50 v.2.1).2.2.1).1.2.2.2.2.2.2.2.1, (an v.2.2.1 51 (an v.2.2.1 50 v.2.1).2.2.1).1.2.2.2.2.2.2.2.2.1, (an v.2.2.1 51 (an v.2.2.1 50 v.2.1).2.2.1).1.2.2.2.2.2.2.2.2.2.1, (an v.2.2.1 51 (an v.2.2.1 50 v.2.1).2.2.1).1.2.2.2.2.2.2.2.2.2.2.1, (an v.2.2.1 51 (an v.2.2.1 50 v.2.1).2.2.1).1.2.2.2.2.2.2.2.2.2.2.2, (an v.2.2.1 51 (an v.2.2.1 50 v.2.1).2.2.1).2.2.2), (an v.2.2.1 51 (an v.2.2.1 50 v.2.1).2.2.1).2.1), ((dv v).1.1, (dv v).1.2.1, (dv v).1.2.2.1, (dv v).1.2.2.2.1, (dv v).1.2.2.2.2.1, (dv v).1.2.2.2.2.2.1, ((dv v).1.2.2.2.2.2.2.1, (dv v).1.2.2.2.2.2.2.2.1, (dv v).1.2.2.2.2.2.2.2.2.1, (dv v).1.2.2.2.2.2.2.2.2.2.1, (dv v).1.2.2.2.2.2.2.2.2.2.2.1, (dv v).1.2.2.2.2.2.2.2.2.2.2.2, (dv v).2.2.2), (dv v).2.1)], ()))
def cQ (v : dX) := (an v.2.2.1 52 (an v.2.2.1 51 (an v.2.2.1 50 v.2.1).2.2.1).2.2.1)
def iQ (v : dX) {Z : Type} (κ : Unit -> Option Z) : Option Z := cond (q8 v.2.2.1 50 v.2.1) (cond (q8 v.2.2.1 51 (an v.2.2.1 50 v.2.1).2.2.1) (cond (q8 v.2.2.1 52 (an v.2.2.1 51 (an v.2.2.1 50 v.2.1).2.2.1).2.2.1) (if (v.2.2.2.1 ++ [((an v.2.2.1 50 v.2.1).1.1, (an v.2.2.1 50 v.2.1).1.2.1, (an v.2.2.1 50 v.2.1).1.2.2.1, (an v.2.2.1 50 v.2.1).1.2.2.2.1, (an v.2.2.1 50 v.2.1).1.2.2.2.2.1, (an v.2.2.1 50 v.2.1).1.2.2.2.2.2.1, ((an v.2.2.1 50 v.2.1).1.2.2.2.2.2.2.1, (an v.2.2.1 50 v.2.1).1.2.2.2.2.2.2.2.1, (an v.2.2.1 50 v.2.1).1.2.2.2.2.2.2.2.2.1, (an v.2.2.1 50 v.2.1).1.2.2.2.2.2.2.2.2.2.1, (an v.2.2.1 50 v.2.1).1.2.2.2.2.2.2.2.2.2.2.1, (an v.2.2.1 50 v.2.1).1.2.2.2.2.2.2.2.2.2.2.2, (an v.2.2.1 50 v.2.1).2.2.2), (an v.2.2.1 50 v.2.1).2.1), ((an v.2.2.1 51 (an v.2.2.1 50 v.2.1).2.2.1).1.1, (an v.2.2.1 51 (an v.2.2.1 50 v.2.1).2.2.1).1.2.1, (an v.2.2.1 51 (an v.2.2.1 50 v.2.1).2.2.1).1.2.2.1, (an v.2.2.1 51 (an v.2.2.1 50 v.2.1).2.2.1).1.2.2.2.1, (an v.2.2.1 51 (an v.2.2.1 50 v.2.1).2.2.1).1.2.2.2.2.1, (an v.2.2.1 51 (an v.2.2.1 50 v.2.1).2.2.1).1.2.2.2.2.2.1, ((an v.2.2.1 51 (an v.2.2.1 50 v.2.1).2.2.1).1.2.2.2.2.2.2.1, (an v.2.2.1 51 (an v.2.2.1 50 v.2.1).2.2.1).1.2.2.2.2.2.2.2.1, (an v.2.2.1 51 (an v.2.2.1 50 v.2.1).2.2.1).1.2.2.2.2.2.2.2.2.1, (an v.2.2.1 51 (an v.2.2.1 50 v.2.1).2.2.1).1.2.2.2.2.2.2.2.2.2.1, (an v.2.2.1 51 (an v.2.2.1 50 v.2.1).2.2.1).1.2.2.2.2.2.2.2.2.2.2.1, (an v.2.2.1 51 (an v.2.2.1 50 v.2.1).2.2.1).1.2.2.2.2.2.2.2.2.2.2.2, (an v.2.2.1 51 (an v.2.2.1 50 v.2.1).2.2.1).2.2.2), (an v.2.2.1 51 (an v.2.2.1 50 v.2.1).2.2.1).2.1), ((cQ v).1.1, (cQ v).1.2.1, (cQ v).1.2.2.1, (cQ v).1.2.2.2.1, (cQ v).1.2.2.2.2.1, (cQ v).1.2.2.2.2.2.1, ((cQ v).1.2.2.2.2.2.2.1, (cQ v).1.2.2.2.2.2.2.2.1, (cQ v).1.2.2.2.2.2.2.2.2.1, (cQ v).1.2.2.2.2.2.2.2.2.2.1, (cQ v).1.2.2.2.2.2.2.2.2.2.2.1, (cQ v).1.2.2.2.2.2.2.2.2.2.2.2, (cQ v).2.2.2), (cQ v).2.1)] : List (Ty.T ab)).length * 192 <= 140737488351232 then (κ ()) else none) (none)) (none)) (none)
def PW (v : dX) : Unit := (iQ v some).getD ()
def xc (v : dX) : Bool := (iQ v some).isSome
def EZ (v : dX) : aJ (Ex × St) := .br (xc v) (.done (yq v (PW v))) .no
theorem RV : aN Tryz.prog (av [true, true, false] (av (pb 5 27) (ae Tryz.f150))) Bz o8 EZ := bq (by kernel_rfl) (sx := o3) (gx := o0) Ik.ok aj (by kernel_rfl) 6 fun v => Eq.trans (b := List.replicate 6 (iQ v (sm (yq v)))) (by kernel_rfl) (congrArg (List.replicate 6) (aq (show iQ v (sm (yq v)) = (iQ v some).bind _ from (bC (bC (bC (bI rfl) rfl) rfl) rfl))))
@[reducible] def AI : List SP := .one (.ptr 4294967296 0) :: U2 (.one (.ptr 3 0) :: .one (.dat (.sl 109 ab) false) :: .one (.own 33554440) :: U4 (oI :: .one (.dat .bool true) :: U32 ([])))
@[reducible] def dP : Type := (List (Ty.T ab)) × Int × Bool × (Ty.T af) × (Ty.T y36) × (List (Ty.T ab)) × Unit
def xv (v : dP) (r : (Ty.T af) × (List (Ty.T ab))) : Ex × St := (.normal, ax o3 o0 (v.1, r.1, r.2, ()))
def bz (v : dP) := (an v.2.2.2.2.1 51 (an v.2.2.2.2.1 50 v.2.2.2.1).2.2.1)
def gl (v : dP) {Z : Type} (κ : (Ty.T af) × (List (Ty.T ab)) -> Option Z) : Option Z := cond v.2.2.1 (cond (Cw v.2.2.2.2.1 v.2.2.2.1) (if (v.2.2.2.2.2.1 ++ [((bA v.2.2.2.2.1 v.2.2.2.1).1.1, (bA v.2.2.2.2.1 v.2.2.2.1).1.2.1, (bA v.2.2.2.2.1 v.2.2.2.1).1.2.2.1, (bA v.2.2.2.2.1 v.2.2.2.1).1.2.2.2.1, (bA v.2.2.2.2.1 v.2.2.2.1).1.2.2.2.2.1, (bA v.2.2.2.2.1 v.2.2.2.1).1.2.2.2.2.2.1, ((bA v.2.2.2.2.1 v.2.2.2.1).1.2.2.2.2.2.2.1, (bA v.2.2.2.2.1 v.2.2.2.1).1.2.2.2.2.2.2.2.1, (bA v.2.2.2.2.1 v.2.2.2.1).1.2.2.2.2.2.2.2.2.1, (bA v.2.2.2.2.1 v.2.2.2.1).1.2.2.2.2.2.2.2.2.2.1, (bA v.2.2.2.2.1 v.2.2.2.1).1.2.2.2.2.2.2.2.2.2.2.1, (bA v.2.2.2.2.1 v.2.2.2.1).1.2.2.2.2.2.2.2.2.2.2.2, (bA v.2.2.2.2.1 v.2.2.2.1).2.2.2), (bA v.2.2.2.2.1 v.2.2.2.1).2.1)] : List (Ty.T ab)).length * 192 <= 140737488351232 then (κ ((bA v.2.2.2.2.1 v.2.2.2.1).2.2.1, v.2.2.2.2.2.1 ++ [((bA v.2.2.2.2.1 v.2.2.2.1).1.1, (bA v.2.2.2.2.1 v.2.2.2.1).1.2.1, (bA v.2.2.2.2.1 v.2.2.2.1).1.2.2.1, (bA v.2.2.2.2.1 v.2.2.2.1).1.2.2.2.1, (bA v.2.2.2.2.1 v.2.2.2.1).1.2.2.2.2.1, (bA v.2.2.2.2.1 v.2.2.2.1).1.2.2.2.2.2.1, ((bA v.2.2.2.2.1 v.2.2.2.1).1.2.2.2.2.2.2.1, (bA v.2.2.2.2.1 v.2.2.2.1).1.2.2.2.2.2.2.2.1, (bA v.2.2.2.2.1 v.2.2.2.1).1.2.2.2.2.2.2.2.2.1, (bA v.2.2.2.2.1 v.2.2.2.1).1.2.2.2.2.2.2.2.2.2.1, (bA v.2.2.2.2.1 v.2.2.2.1).1.2.2.2.2.2.2.2.2.2.2.1, (bA v.2.2.2.2.1 v.2.2.2.1).1.2.2.2.2.2.2.2.2.2.2.2, (bA v.2.2.2.2.1 v.2.2.2.1).2.2.2), (bA v.2.2.2.2.1 v.2.2.2.1).2.1)])) else none) (none)) (cond (v.2.1 == (1 : Int)) (cond (xc (v.1, v.2.2.2.1, v.2.2.2.2.1, v.2.2.2.2.2.1, ())) (κ ((an v.2.2.2.2.1 52 (bz v).2.2.1).2.2.1, v.2.2.2.2.2.1 ++ [((an v.2.2.2.2.1 50 v.2.2.2.1).1.1, (an v.2.2.2.2.1 50 v.2.2.2.1).1.2.1, (an v.2.2.2.2.1 50 v.2.2.2.1).1.2.2.1, (an v.2.2.2.2.1 50 v.2.2.2.1).1.2.2.2.1, (an v.2.2.2.2.1 50 v.2.2.2.1).1.2.2.2.2.1, (an v.2.2.2.2.1 50 v.2.2.2.1).1.2.2.2.2.2.1, ((an v.2.2.2.2.1 50 v.2.2.2.1).1.2.2.2.2.2.2.1, (an v.2.2.2.2.1 50 v.2.2.2.1).1.2.2.2.2.2.2.2.1, (an v.2.2.2.2.1 50 v.2.2.2.1).1.2.2.2.2.2.2.2.2.1, (an v.2.2.2.2.1 50 v.2.2.2.1).1.2.2.2.2.2.2.2.2.2.1, (an v.2.2.2.2.1 50 v.2.2.2.1).1.2.2.2.2.2.2.2.2.2.2.1, (an v.2.2.2.2.1 50 v.2.2.2.1).1.2.2.2.2.2.2.2.2.2.2.2, (an v.2.2.2.2.1 50 v.2.2.2.1).2.2.2), (an v.2.2.2.2.1 50 v.2.2.2.1).2.1), ((bz v).1.1, (bz v).1.2.1, (bz v).1.2.2.1, (bz v).1.2.2.2.1, (bz v).1.2.2.2.2.1, (bz v).1.2.2.2.2.2.1, ((bz v).1.2.2.2.2.2.2.1, (bz v).1.2.2.2.2.2.2.2.1, (bz v).1.2.2.2.2.2.2.2.2.1, (bz v).1.2.2.2.2.2.2.2.2.2.1, (bz v).1.2.2.2.2.2.2.2.2.2.2.1, (bz v).1.2.2.2.2.2.2.2.2.2.2.2, (bz v).2.2.2), (bz v).2.1), ((an v.2.2.2.2.1 52 (bz v).2.2.1).1.1, (an v.2.2.2.2.1 52 (bz v).2.2.1).1.2.1, (an v.2.2.2.2.1 52 (bz v).2.2.1).1.2.2.1, (an v.2.2.2.2.1 52 (bz v).2.2.1).1.2.2.2.1, (an v.2.2.2.2.1 52 (bz v).2.2.1).1.2.2.2.2.1, (an v.2.2.2.2.1 52 (bz v).2.2.1).1.2.2.2.2.2.1, ((an v.2.2.2.2.1 52 (bz v).2.2.1).1.2.2.2.2.2.2.1, (an v.2.2.2.2.1 52 (bz v).2.2.1).1.2.2.2.2.2.2.2.1, (an v.2.2.2.2.1 52 (bz v).2.2.1).1.2.2.2.2.2.2.2.2.1, (an v.2.2.2.2.1 52 (bz v).2.2.1).1.2.2.2.2.2.2.2.2.2.1, (an v.2.2.2.2.1 52 (bz v).2.2.1).1.2.2.2.2.2.2.2.2.2.2.1, (an v.2.2.2.2.1 52 (bz v).2.2.1).1.2.2.2.2.2.2.2.2.2.2.2, (an v.2.2.2.2.1 52 (bz v).2.2.1).2.2.2), (an v.2.2.2.2.1 52 (bz v).2.2.1).2.1)])) (none)) (cond (v.2.1 == (2 : Int)) (cond (decide (((v.2.2.2.2.2.1).length : Int) > (0 : Int))) (cond (Cw v.2.2.2.2.1 v.2.2.2.1) (if (0 : Int) < ((v.2.2.2.2.2.1).length : Int) then (bt ((v.2.2.2.2.2.1)[0]?) (fun x1 => κ ((bA v.2.2.2.2.1 v.2.2.2.1).2.2.1, v.2.2.2.2.2.1.set 0 ((bA v.2.2.2.2.1 v.2.2.2.1).1.1, (bA v.2.2.2.2.1 v.2.2.2.1).1.2.1, (bA v.2.2.2.2.1 v.2.2.2.1).1.2.2.1, (bA v.2.2.2.2.1 v.2.2.2.1).1.2.2.2.1, (bA v.2.2.2.2.1 v.2.2.2.1).1.2.2.2.2.1, (bA v.2.2.2.2.1 v.2.2.2.1).1.2.2.2.2.2.1, ((bA v.2.2.2.2.1 v.2.2.2.1).1.2.2.2.2.2.2.1, (bA v.2.2.2.2.1 v.2.2.2.1).1.2.2.2.2.2.2.2.1, (bA v.2.2.2.2.1 v.2.2.2.1).1.2.2.2.2.2.2.2.2.1, (bA v.2.2.2.2.1 v.2.2.2.1).1.2.2.2.2.2.2.2.2.2.1, (bA v.2.2.2.2.1 v.2.2.2.1).1.2.2.2.2.2.2.2.2.2.2.1, (bA v.2.2.2.2.1 v.2.2.2.1).1.2.2.2.2.2.2.2.2.2.2.2, (bA v.2.2.2.2.1 v.2.2.2.1).2.2.2), (bA v.2.2.2.2.1 v.2.2.2.1).2.1)))) else none) (none)) (κ (v.2.2.2.1, v.2.2.2.2.2.1))) (κ (v.2.2.2.1, v.2.2.2.2.2.1))))
def nC (v : dP) : (Ty.T af) × (List (Ty.T ab)) := (gl v some).getD ((Ty.zero af), [])
def zb (v : dP) : Bool := (gl v some).isSome
def GW (v : dP) : aJ (Ex × St) := .br (zb v) (.done (xv v (nC v))) .no
theorem Pd : aN Tryz.prog (av (pb 5 27) (ae Tryz.f150)) AI o8 GW := aI (lt := (aD [true, true, false] (av (pb 5 27) (ae Tryz.f150)) .none (.sum Bz o8 EZ))) (sx := o3) (gx := o0) Ik.ok aj (ah.b7 (az (by kernel_rfl)) (ah.no _) RV) fun v => Eq.trans (b := gl v (sm (xv v))) (by kernel_rfl) (aq (show gl v (sm (xv v)) = (gl v some).bind _ from by unfold gl; simp only [bb]))
def UY := Ik.l (g := 150) (t := (aD (pb 5 27) (ae Tryz.f150) .none (.sum AI o8 GW))) (aQ Tryz.func150 (ah.b7 (az (by kernel_rfl)) (ah.no _) Pd))
def qb (a0 : Ty.T y36) (a1 : Ty.T af) {Z : Type} (κ : (Ty.T af) × (List (Ty.T ab)) -> Option Z) : Option Z := cond (yl a0 a1) (cond (bB 12 (bZ a0 a1).1) (cond (zb ([], (aa 12 (bZ a0 a1).1).1, ((aa 12 (bZ a0 a1).1).1 == (0 : Int)), (aa 12 (bZ a0 a1).1).2, a0, (bZ a0 a1).2, ())) (κ ((nC ([], (aa 12 (bZ a0 a1).1).1, ((aa 12 (bZ a0 a1).1).1 == (0 : Int)), (aa 12 (bZ a0 a1).1).2, a0, (bZ a0 a1).2, ())).1, (nC ([], (aa 12 (bZ a0 a1).1).1, ((aa 12 (bZ a0 a1).1).1 == (0 : Int)), (aa 12 (bZ a0 a1).1).2, a0, (bZ a0 a1).2, ())).2)) (none)) (none)) (none)
def JU (a0 : Ty.T y36) (a1 : Ty.T af) : (Ty.T af) × (List (Ty.T ab)) := (qb a0 a1 some).getD ((Ty.zero af), [])
def JP (a0 : Ty.T y36) (a1 : Ty.T af) : Bool := (qb a0 a1 some).isSome
def Ye : Gen := ⟨[false, false], [.one (.ptr 4294967296 0), .agg [.dat y36 false]], [(4294967296, .box 222 [.dat af true])], fun v => .br (JP v.1 v.2.1) (.done (Js (JU v.1 v.2.1))) .no⟩
theorem TW : bu Tryz.prog 150 Ye := bH UY.ok aj (az (by kernel_rfl)) ⟨Tryz.f150, ae Tryz.f150, by kernel_rfl, by kernel_rfl⟩ fun v => Eq.trans (b := (qb v.1 v.2.1 (sm Js))) (by kernel_rfl) (aq (show qb v.1 v.2.1 (sm Js) = (qb v.1 v.2.1 some).bind _ from (bC (bC (bC rfl rfl) rfl) rfl)))
def f50 (r : (Ty.T y36) × (List (Ty.T ab)) × (Ty.T y27) × (List (Ty.T (.int .i64)))) : AV × Sig := (.tup [(true, (y36.cells false r.1)), (false, ([.emb 109 ab r.2.1 true])), (true, (y27.cells false r.2.2.1)), (false, ([.sl 53248]))], [(53248, .arr 3 (.int .i64) r.2.2.2 false)])
def E50 := ((((((E0.g db).g Th).g UX).g TW).g K1).p aaL)
@[reducible] def O6 : List SP := U2 (.one (.ptr 2 0) :: .one (.dat (.sl 109 ab) false) :: .one (.ptr 4 0) :: .one (.dat (.sl 3 (.int .i64)) false) :: .one (.ptr 4108 0) :: .one (.ptr 7 0) :: .one (.dat (.sl 109 ab) false) :: .one (.ptr 9 0) :: .one (.own 33603599) :: U8 (U2 (oI :: .one (.dat .bool true) :: U16 (.und :: []))))
@[reducible] def SI : List (Nat × GP) := [(2, .box 37 [.dat y36 false]), (4, .box 41 [.dat y27 false]), (4108, .box 222 [.dat af true]), (7, .box 37 [.dat y36 false]), (9, .box 41 [.dat y27 false]), (33603599, .arr 3 (.int .i64) false)]
@[reducible] def G6 : Type := (List (Ty.T ab)) × (List (Ty.T (.int .i64))) × (List (Ty.T ab)) × Int × Bool × (Ty.T y36) × (Ty.T y27) × (Ty.T af) × (Ty.T y36) × (Ty.T y27) × (List (Ty.T (.int .i64))) × Unit
@[reducible] def C4 : List SP := U2 (.one (.ptr 2 0) :: .one (.dat (.sl 109 ab) false) :: .one (.ptr 4 0) :: .one (.dat (.sl 3 (.int .i64)) false) :: .und :: .one (.ptr 7 0) :: .one (.dat (.sl 109 ab) true) :: .one (.ptr 9 0) :: .one (.own 33603599) :: U16 (U8 (U4 (.und :: []))))
@[reducible] def Ct : List (Nat × GP) := [(2, .box 37 [.dat y36 false]), (4, .box 41 [.dat y27 false]), (7, .box 37 [.dat y36 false]), (9, .box 41 [.dat y27 false]), (33603599, .arr 3 (.int .i64) false)]
def SD (v : G6) (r : (List (Ty.T ab)) × (Ty.T y36) × (Ty.T y27)) : Ex × St := (.normal, ax C4 Ct (v.1, v.2.1, r.1, v.2.2.2.2.2.1, v.2.2.2.2.2.2.1, r.2.1, r.2.2, v.2.2.2.2.2.2.2.2.2.2.1, ()))
def vD (v : G6) {Z : Type} (κ : (List (Ty.T ab)) × (Ty.T y36) × (Ty.T y27) -> Option Z) : Option Z := cond v.2.2.2.2.1 (cond (Kw v.2.2.2.2.2.2.2.1) (κ (v.2.2.1, ((qI v.2.2.2.2.2.2.2.1).2.2.1, (qI v.2.2.2.2.2.2.2.1).2.2.2, (qI v.2.2.2.2.2.2.2.1).1), v.2.2.2.2.2.2.2.2.2.1)) (none)) (cond (v.2.2.2.1 == (1 : Int)) (cond (JP v.2.2.2.2.2.2.2.2.1 v.2.2.2.2.2.2.2.1) (κ ((JU v.2.2.2.2.2.2.2.2.1 v.2.2.2.2.2.2.2.1).2, v.2.2.2.2.2.2.2.2.1, v.2.2.2.2.2.2.2.2.2.1)) (none)) (cond (v.2.2.2.1 == (2 : Int)) (cond (CY v.2.2.2.2.2.2.2.2.1 v.2.2.2.2.2.2.2.1) (κ (v.2.2.1, v.2.2.2.2.2.2.2.2.1, (n6 v.2.2.2.2.2.2.2.2.1 v.2.2.2.2.2.2.2.1).1)) (none)) (κ (v.2.2.1, v.2.2.2.2.2.2.2.2.1, v.2.2.2.2.2.2.2.2.2.1))))
def xE (v : G6) : (List (Ty.T ab)) × (Ty.T y36) × (Ty.T y27) := (vD v some).getD ([], (Ty.zero y36), (Ty.zero y27))
def ON (v : G6) : Bool := (vD v some).isSome
def VH (v : G6) : aJ (Ex × St) := .br (ON v) (.done (SD v (xE v))) .no
theorem ZZ : aN Tryz.prog (av (pb 6 55) (ae Tryz.f50)) O6 SI VH := aI (lt := .none) (sx := C4) (gx := Ct) E50.ok aj (ah.no _) fun v => Eq.trans (b := vD v (sm (SD v))) (by kernel_rfl) (aq (show vD v (sm (SD v)) = (vD v some).bind _ from by unfold vD; simp only [bb]))
@[reducible] def Lk : Type := (List (Ty.T ab)) × (List (Ty.T (.int .i64))) × (List (Ty.T ab)) × (Ty.T y36) × (Ty.T y27) × (Ty.T y36) × (Ty.T y27) × (List (Ty.T (.int .i64))) × Unit
@[reducible] def Rt : List SP := U2 (.one (.ptr 2 0) :: .one (.dat (.sl 109 ab) true) :: .one (.ptr 4 0) :: .one (.own 33603599) :: U32 (U2 ([])))
@[reducible] def SL : List (Nat × GP) := [(2, .box 37 [.dat y36 false]), (4, .box 41 [.dat y27 false]), (33603599, .arr 3 (.int .i64) false)]
def Lz (v : Lk) (r : Unit) : Ex × St := (.normal, ax Rt SL (v.2.2.1, v.2.2.2.2.2.1, v.2.2.2.2.2.2.1, v.2.2.2.2.2.2.2.1, ()))
def LG (v : Lk) {Z : Type} (κ : Unit -> Z) : Z := κ ()
def aag (v : Lk) : Unit := LG v id
def Vz (v : Lk) : aJ (Ex × St) := .done (Lz v (aag v))
theorem adr : aN Tryz.prog (av (pb 5 15) (ae Tryz.f50)) C4 Ct Vz := bq (by kernel_rfl) (sx := Rt) (gx := SL) E50.ok aj (by kernel_rfl) 2 fun v => Eq.trans (b := List.replicate 2 (LG v (sm (Lz v)))) (by kernel_rfl) (congrArg (List.replicate 2) (show LG v (sm (Lz v)) = some (Lz v (LG v id)) from rfl))
def adW := E50.l (g := 50) (t := (aD (pb 5 15) (ae Tryz.f50) (aD (pb 6 55) (ae Tryz.f50) .none (.sum O6 SI VH)) (.sum C4 Ct Vz))) (aQ Tryz.func50 (ah.b7 (az (by kernel_rfl)) (ah.b7 (az (by kernel_rfl)) (ah.no _) ZZ) adr))
def t50 (a0 : List (Ty.T (.int .u8))) {Z : Type} (κ : (Ty.T y36) × (List (Ty.T ab)) × (Ty.T y27) × (List (Ty.T (.int .i64))) -> Option Z) : Option Z := cond (d116 a0) (cond (JD (dW a0)) (cond (bB 16 (bY (dW a0)).2.2.2.1) (cond (ON ([], [], (bY (dW a0)).2.1, (aa 16 (bY (dW a0)).2.2.2.1).1, ((aa 16 (bY (dW a0)).2.2.2.1).1 == (0 : Int)), ([], [], 0, 0), (0, 0, 0, 0, 0, 0, false), (aa 16 (bY (dW a0)).2.2.2.1).2, (bY (dW a0)).1, (bY (dW a0)).2.2.1, (bY (dW a0)).2.2.2.2, ())) (κ ((xE ([], [], (bY (dW a0)).2.1, (aa 16 (bY (dW a0)).2.2.2.1).1, ((aa 16 (bY (dW a0)).2.2.2.1).1 == (0 : Int)), ([], [], 0, 0), (0, 0, 0, 0, 0, 0, false), (aa 16 (bY (dW a0)).2.2.2.1).2, (bY (dW a0)).1, (bY (dW a0)).2.2.1, (bY (dW a0)).2.2.2.2, ())).2.1, (xE ([], [], (bY (dW a0)).2.1, (aa 16 (bY (dW a0)).2.2.2.1).1, ((aa 16 (bY (dW a0)).2.2.2.1).1 == (0 : Int)), ([], [], 0, 0), (0, 0, 0, 0, 0, 0, false), (aa 16 (bY (dW a0)).2.2.2.1).2, (bY (dW a0)).1, (bY (dW a0)).2.2.1, (bY (dW a0)).2.2.2.2, ())).1, (xE ([], [], (bY (dW a0)).2.1, (aa 16 (bY (dW a0)).2.2.2.1).1, ((aa 16 (bY (dW a0)).2.2.2.1).1 == (0 : Int)), ([], [], 0, 0), (0, 0, 0, 0, 0, 0, false), (aa 16 (bY (dW a0)).2.2.2.1).2, (bY (dW a0)).1, (bY (dW a0)).2.2.1, (bY (dW a0)).2.2.2.2, ())).2.2, (bY (dW a0)).2.2.2.2)) (none)) (none)) (none)) (none)
def v50 (a0 : List (Ty.T (.int .u8))) : (Ty.T y36) × (List (Ty.T ab)) × (Ty.T y27) × (List (Ty.T (.int .i64))) := (t50 a0 some).getD ((Ty.zero y36), [], (Ty.zero y27), [])
def d50 (a0 : List (Ty.T (.int .u8))) : Bool := (t50 a0 some).isSome
def p50 : Prim := ⟨[.one (.dat (.sl 5 (.int .u8)) true)], fun v => .br (d50 v.1) (.done (f50 (v50 v.1))) .no⟩
theorem ahZ : PO 50 p50 := pK adW fun v => Eq.trans (b := (t50 v.1 (sm f50))) (by kernel_rfl) (aq (show t50 v.1 (sm f50) = (t50 v.1 some).bind _ from (bC (bC (bC (bC rfl rfl) rfl) rfl) rfl)))
def f70 (r : Bool) : AV × Sig := (.one (.bool r), [])
def E70 := E0
@[reducible] def Jn : List SP := .one (.dat (.sl 41 y27) true) :: .one (.dat (.sl 41 y27) true) :: U2 (.one (.dat .bool true) :: oI :: U16 (U4 ([])))
@[reducible] def xP : Type := (List (Ty.T y27)) × (List (Ty.T y27)) × Bool × Int × Unit
def Bt (v : xP) {Z : Type} (κ : Nat × xP -> Option Z) : Option Z := cond (decide (v.2.2.2.1 < ((v.1).length : Int))) (if 0 <= v.2.2.2.1 then (bt ((v.1)[(v.2.2.2.1).toNat]?) (fun x1 => if 0 <= v.2.2.2.1 then (bt ((v.2.1)[(v.2.2.2.1).toNat]?) (fun x2 => cond (!((x1.1 == x2.1) && ((x1.2.1 == x2.2.1) && ((x1.2.2.1 == x2.2.2.1) && ((x1.2.2.2.1 == x2.2.2.2.1) && ((x1.2.2.2.2.1 == x2.2.2.2.2.1) && ((x1.2.2.2.2.2.1 == x2.2.2.2.2.2.1) && ((x1.2.2.2.2.2.2 == x2.2.2.2.2.2.2) && true)))))))) (κ (1, (v.1, v.2.1, false, v.2.2.2.1, ()))) (κ (0, (v.1, v.2.1, v.2.2.1, IntKind.wrap .i64 (v.2.2.2.1 + (1 : Int)), ()))))) else none)) else none) (κ (2, (v.1, v.2.1, v.2.2.1, v.2.2.2.1, ())))
def Bm (v : xP) : Option (Nat × xP) := Bt v some
def H5 (v : xP) : Nat := v.1.length + v.2.1.length + v.2.2.2.1.toNat + 100
def vW (h0 : List (Ty.T y27)) (h1 : List (Ty.T y27)) (h2 : Bool) (h3 : Int) (c : Nat) : Bool := iK Bm H5 (h0, h1, h2, h3, ()) c
def VE (h0 : List (Ty.T y27)) (h1 : List (Ty.T y27)) (h2 : Bool) (h3 : Int) : xP := iW Bm H5 (h0, h1, h2, h3, ())
def Ve (v : xP) : aJ (Ex × St) := bo Bm (H5 v) v (ax Jn au) [.ret, .exit 0] 0
theorem aaA : bl Tryz.prog (aB (pb 4 11) (ae Tryz.f70)) Jn au Ve := aw (lt := .none) E70.ok aj (ah.no _) fun n v K => Eq.trans (b := Bt v (cW _ _ _ _ _ K)) (by kernel_rfl) (show Bt v _ = (Bt v some).bind _ from (bC (bI (bO fun x1 => (bI (bO fun x2 => (bC rfl rfl))))) rfl))
def aiC := E70.l (g := 70) (t := (cv (pb 4 11) (ae Tryz.f70) .none (.sum Jn au Ve))) (aQ Tryz.func70 (ah.put (az (by kernel_rfl)) (ah.no _) aaA))
def u70 (a0 : List (Ty.T y27)) (a1 : List (Ty.T y27)) : Option (AV × Sig) := cond (((a0).length : Int) != ((a1).length : Int)) (some (.one (.bool false), [])) (cond (vW a0 a1 false 0 0) (some (.one (.bool (VE a0 a1 false 0).2.2.1), [])) (cond (vW a0 a1 false 0 1) (some (.one (.bool true), [])) (none)))
def v70 (a0 : List (Ty.T y27)) (a1 : List (Ty.T y27)) : Bool := cond (((a0).length : Int) != ((a1).length : Int)) (false) (cond (vW a0 a1 false 0 0) ((VE a0 a1 false 0).2.2.1) (cond (vW a0 a1 false 0 1) (true) (false)))
def d70 (a0 : List (Ty.T y27)) (a1 : List (Ty.T y27)) : Bool := cond (((a0).length : Int) != ((a1).length : Int)) (true) (cond (vW a0 a1 false 0 0) (true) (cond (vW a0 a1 false 0 1) (true) (false)))
theorem o70 (a0 : List (Ty.T y27)) (a1 : List (Ty.T y27)) : u70 a0 a1 = cond (d70 a0 a1) (some (f70 (v70 a0 a1))) none := (pC (pS _) (pC (pS _) (pC (pS _) (pN _))))
def p70 : Prim := ⟨[.one (.dat (.sl 41 y27) true), .one (.dat (.sl 41 y27) true)], fun v => .br (d70 v.1 v.2.1) (.done (f70 (v70 v.1 v.2.1))) .no⟩
theorem aiO : PO 70 p70 := pK aiC fun v => Eq.trans (b := u70 v.1 v.2.1) (by kernel_rfl) (o70 v.1 v.2.1)
def f174 (r : Bool) : AV × Sig := (.one (.bool r), [])
def aal := E0
@[reducible] def CA : List SP := .one (.dat (.sl 41 y27) true) :: .one (.dat (.sl 41 y27) true) :: U2 (.one (.dat .bool true) :: U4 (U2 (.und :: oI :: oI :: U8 (U4 ([])))))
@[reducible] def qQ : Type := (List (Ty.T y27)) × (List (Ty.T y27)) × Bool × Int × Int × Unit
def s8 (v : qQ) {Z : Type} (κ : Nat × qQ -> Option Z) : Option Z := cond (decide (v.2.2.2.2.1 < v.2.2.2.1)) (if 0 <= v.2.2.2.2.1 then (bt ((v.1)[(v.2.2.2.2.1).toNat]?) (fun x1 => if 0 <= v.2.2.2.2.1 then (bt ((v.2.1)[(v.2.2.2.2.1).toNat]?) (fun x2 => cond (!((x1.1 == x2.1) && ((x1.2.1 == x2.2.1) && ((x1.2.2.1 == x2.2.2.1) && ((x1.2.2.2.1 == x2.2.2.2.1) && ((x1.2.2.2.2.1 == x2.2.2.2.2.1) && ((x1.2.2.2.2.2.1 == x2.2.2.2.2.2.1) && ((x1.2.2.2.2.2.2 == x2.2.2.2.2.2.2) && true)))))))) (κ (1, (v.1, v.2.1, false, v.2.2.2.1, v.2.2.2.2.1, ()))) (κ (0, (v.1, v.2.1, v.2.2.1, v.2.2.2.1, IntKind.wrap .i64 (v.2.2.2.2.1 + (1 : Int)), ()))))) else none)) else none) (κ (2, (v.1, v.2.1, v.2.2.1, v.2.2.2.1, v.2.2.2.2.1, ())))
def tX (v : qQ) : Option (Nat × qQ) := s8 v some
def wV (v : qQ) : Nat := v.1.length + v.2.1.length + v.2.2.2.1.toNat + v.2.2.2.2.1.toNat + 100
def ng (h0 : List (Ty.T y27)) (h1 : List (Ty.T y27)) (h2 : Bool) (h3 : Int) (h4 : Int) (c : Nat) : Bool := iK tX wV (h0, h1, h2, h3, h4, ()) c
def OD (h0 : List (Ty.T y27)) (h1 : List (Ty.T y27)) (h2 : Bool) (h3 : Int) (h4 : Int) : qQ := iW tX wV (h0, h1, h2, h3, h4, ())
def Oq (v : qQ) : aJ (Ex × St) := bo tX (wV v) v (ax CA au) [.ret, .exit 0] 0
theorem Y3 : bl Tryz.prog (aB (pb 4 11) (ae Tryz.f174)) CA au Oq := aw (lt := .none) aal.ok aj (ah.no _) fun n v K => Eq.trans (b := s8 v (cW _ _ _ _ _ K)) (by kernel_rfl) (show s8 v _ = (s8 v some).bind _ from (bC (bI (bO fun x1 => (bI (bO fun x2 => (bC rfl rfl))))) rfl))
def Z7 := aal.l (g := 174) (t := (cv (pb 4 11) (ae Tryz.f174) .none (.sum CA au Oq))) (aQ Tryz.func174 (ah.put (az (by kernel_rfl)) (ah.no _) Y3))
def Z3 (a0 : List (Ty.T y27)) (a1 : List (Ty.T y27)) : Option (AV × Sig) := cond (((a0).length : Int) != ((a1).length : Int)) (some (.one (.bool false), [])) (cond (ng a0 a1 false ((a0).length : Int) 0 0) (some (.one (.bool (OD a0 a1 false ((a0).length : Int) 0).2.2.1), [])) (cond (ng a0 a1 false ((a0).length : Int) 0 1) (some (.one (.bool true), [])) (none)))
def IB (a0 : List (Ty.T y27)) (a1 : List (Ty.T y27)) : Bool := cond (((a0).length : Int) != ((a1).length : Int)) (false) (cond (ng a0 a1 false ((a0).length : Int) 0 0) ((OD a0 a1 false ((a0).length : Int) 0).2.2.1) (cond (ng a0 a1 false ((a0).length : Int) 0 1) (true) (false)))
def d174 (a0 : List (Ty.T y27)) (a1 : List (Ty.T y27)) : Bool := cond (((a0).length : Int) != ((a1).length : Int)) (true) (cond (ng a0 a1 false ((a0).length : Int) 0 0) (true) (cond (ng a0 a1 false ((a0).length : Int) 0 1) (true) (false)))
theorem agk (a0 : List (Ty.T y27)) (a1 : List (Ty.T y27)) : Z3 a0 a1 = cond (d174 a0 a1) (some (f174 (IB a0 a1))) none := (pC (pS _) (pC (pS _) (pC (pS _) (pN _))))
def agq : Prim := ⟨[.one (.dat (.sl 41 y27) true), .one (.dat (.sl 41 y27) true)], fun v => .br (d174 v.1 v.2.1) (.done (f174 (IB v.1 v.2.1))) .no⟩
theorem Vr : PO 174 agq := pK Z7 fun v => Eq.trans (b := Z3 v.1 v.2.1) (by kernel_rfl) (agk v.1 v.2.1)
def f179 (r : Bool) : AV × Sig := (.one (.bool r), [])
def ag9 := (E0.p Vr)
def ac3 (a0 : Ty.T bm) (a1 : Ty.T bm) : Option (AV × Sig) := cond (a0.1 == a1.1) (cond (a0.2.1 == a1.2.1) (cond (a0.2.2.1 == a1.2.2.1) (cond (a0.2.2.2.1 == a1.2.2.2.1) (cond (a0.2.2.2.2.1 == a1.2.2.2.2.1) (cond (a0.2.2.2.2.2.1 == a1.2.2.2.2.2.1) (cond (d174 a0.2.2.2.2.2.2 a1.2.2.2.2.2.2) (some (.one (.bool (IB a0.2.2.2.2.2.2 a1.2.2.2.2.2.2)), [])) (none)) (some (.one (.bool false), []))) (some (.one (.bool false), []))) (some (.one (.bool false), []))) (some (.one (.bool false), []))) (some (.one (.bool false), []))) (some (.one (.bool false), []))
def Sp (a0 : Ty.T bm) (a1 : Ty.T bm) : Bool := cond (a0.1 == a1.1) (cond (a0.2.1 == a1.2.1) (cond (a0.2.2.1 == a1.2.2.1) (cond (a0.2.2.2.1 == a1.2.2.2.1) (cond (a0.2.2.2.2.1 == a1.2.2.2.2.1) (cond (a0.2.2.2.2.2.1 == a1.2.2.2.2.2.1) (cond (d174 a0.2.2.2.2.2.2 a1.2.2.2.2.2.2) ((IB a0.2.2.2.2.2.2 a1.2.2.2.2.2.2)) (false)) (false)) (false)) (false)) (false)) (false)) (false)
def d179 (a0 : Ty.T bm) (a1 : Ty.T bm) : Bool := cond (a0.1 == a1.1) (cond (a0.2.1 == a1.2.1) (cond (a0.2.2.1 == a1.2.2.1) (cond (a0.2.2.2.1 == a1.2.2.2.1) (cond (a0.2.2.2.2.1 == a1.2.2.2.2.1) (cond (a0.2.2.2.2.2.1 == a1.2.2.2.2.2.1) (cond (d174 a0.2.2.2.2.2.2 a1.2.2.2.2.2.2) (true) (false)) (true)) (true)) (true)) (true)) (true)) (true)
theorem aiD (a0 : Ty.T bm) (a1 : Ty.T bm) : ac3 a0 a1 = cond (d179 a0 a1) (some (f179 (Sp a0 a1))) none := (pC (pC (pC (pC (pC (pC (pC (pS _) (pN _)) (pS _)) (pS _)) (pS _)) (pS _)) (pS _)) (pS _))
def agm : Prim := ⟨[.agg [.dat bm true], .agg [.dat bm true]], fun v => .br (d179 v.1 v.2.1) (.done (f179 (Sp v.1 v.2.1))) .no⟩
theorem adw : PO 179 agm := pK ag9 fun v => Eq.trans (b := ac3 v.1 v.2.1) (by kernel_rfl) (aiD v.1 v.2.1)
def f73 (r : Bool) : AV × Sig := (.one (.bool r), [])
def E73 := (E0.p adw)
def t73 (a0 : Ty.T ab) (a1 : Ty.T ab) {Z : Type} (κ : Bool -> Option Z) : Option Z := cond (a0.1 == a1.1) (cond (a0.2.1 == a1.2.1) (cond (a0.2.2.1 == a1.2.2.1) (cond (a0.2.2.2.1 == a1.2.2.2.1) (cond ((a0.2.2.2.2.1.1 == a1.2.2.2.2.1.1) && ((a0.2.2.2.2.1.2.1 == a1.2.2.2.2.1.2.1) && ((a0.2.2.2.2.1.2.2.1 == a1.2.2.2.2.1.2.2.1) && ((a0.2.2.2.2.1.2.2.2.1 == a1.2.2.2.2.1.2.2.2.1) && ((a0.2.2.2.2.1.2.2.2.2.1 == a1.2.2.2.2.1.2.2.2.2.1) && ((a0.2.2.2.2.1.2.2.2.2.2.1 == a1.2.2.2.2.1.2.2.2.2.2.1) && ((a0.2.2.2.2.1.2.2.2.2.2.2 == a1.2.2.2.2.1.2.2.2.2.2.2) && true))))))) (cond ((a0.2.2.2.2.2.1.1 == a1.2.2.2.2.2.1.1) && ((a0.2.2.2.2.2.1.2 == a1.2.2.2.2.2.1.2) && true)) (cond (d179 a0.2.2.2.2.2.2.1 a1.2.2.2.2.2.2.1) (cond (Sp a0.2.2.2.2.2.2.1 a1.2.2.2.2.2.2.1) (cond (a0.2.2.2.2.2.2.2.1 == a1.2.2.2.2.2.2.2.1) (κ (a0.2.2.2.2.2.2.2.2 == a1.2.2.2.2.2.2.2.2)) (κ false)) (κ false)) (none)) (κ false)) (κ false)) (κ false)) (κ false)) (κ false)) (κ false)
def v73 (a0 : Ty.T ab) (a1 : Ty.T ab) : Bool := (t73 a0 a1 some).getD false
def d73 (a0 : Ty.T ab) (a1 : Ty.T ab) : Bool := (t73 a0 a1 some).isSome
def p73 : Prim := ⟨[.agg [.dat ab true], .agg [.dat ab true]], fun v => .br (d73 v.1 v.2.1) (.done (f73 (v73 v.1 v.2.1))) .no⟩
theorem ais : PO 73 p73 := pK E73 fun v => Eq.trans (b := (t73 v.1 v.2.1 (sm f73))) (by kernel_rfl) (aq (show t73 v.1 v.2.1 (sm f73) = (t73 v.1 v.2.1 some).bind _ from by unfold t73; simp only [bb]))
def Rx (r : Bool) : AV × Sig := (.one (.bool r), [])
def Pw := (E0.p ais)
@[reducible] def ue : List SP := .und :: .one (.dat (.sl 109 ab) true) :: .one (.fnc 73 []) :: U2 (.und :: .one (.dat .bool true) :: U8 (.one (.dat (.sl 109 ab) true) :: oI :: oI :: U8 (U4 (U2 ([])))))
def kD (v : fc) {Z : Type} (κ : Nat × fc -> Option Z) : Option Z := cond (decide (v.2.2.2.2.1 < v.2.2.2.1)) (if 0 <= v.2.2.2.2.1 then (bt ((v.2.2.1)[(v.2.2.2.2.1).toNat]?) (fun x1 => if 0 <= v.2.2.2.2.1 then (bt ((v.1)[(v.2.2.2.2.1).toNat]?) (fun x2 => cond (d73 x1 x2) (cond (!(v73 x1 x2)) (κ (1, (v.1, false, v.2.2.1, v.2.2.2.1, v.2.2.2.2.1, ()))) (κ (0, (v.1, v.2.1, v.2.2.1, v.2.2.2.1, IntKind.wrap .i64 (v.2.2.2.2.1 + (1 : Int)), ())))) (none))) else none)) else none) (κ (2, (v.1, v.2.1, v.2.2.1, v.2.2.2.1, v.2.2.2.2.1, ())))
def kV (v : fc) : Option (Nat × fc) := kD v some
def oF (v : fc) : Nat := v.1.length + v.2.2.1.length + v.2.2.2.1.toNat + v.2.2.2.2.1.toNat + 100
def gj (h0 : List (Ty.T ab)) (h1 : Bool) (h2 : List (Ty.T ab)) (h3 : Int) (h4 : Int) (c : Nat) : Bool := iK kV oF (h0, h1, h2, h3, h4, ()) c
def GC (h0 : List (Ty.T ab)) (h1 : Bool) (h2 : List (Ty.T ab)) (h3 : Int) (h4 : Int) : fc := iW kV oF (h0, h1, h2, h3, h4, ())
def HC (v : fc) : aJ (Ex × St) := bo kV (oF v) v (ax ue au) [.ret, .exit 0] 0
theorem RN : bl Tryz.prog (aB (pb 4 11) (ae Tryz.f180)) ue au HC := aw (lt := .none) Pw.ok aj (ah.no _) fun n v K => Eq.trans (b := kD v (cW _ _ _ _ _ K)) (by kernel_rfl) (show kD v _ = (kD v some).bind _ from (bC (bI (bO fun x1 => (bI (bO fun x2 => (bC (bC rfl rfl) rfl))))) rfl))
def Tx := Pw.l (g := 180) (t := (cv (pb 4 11) (ae Tryz.f180) .none (.sum ue au HC))) (aQ Tryz.func180 (ah.put (az (by kernel_rfl)) (ah.no _) RN))
def PH (a0 : List (Ty.T ab)) (a1 : List (Ty.T ab)) : Option (AV × Sig) := cond (((a0).length : Int) != ((a1).length : Int)) (some (.one (.bool false), [])) (cond (gj a1 false a0 ((a0).length : Int) 0 0) (some (.one (.bool (GC a1 false a0 ((a0).length : Int) 0).2.1), [])) (cond (gj a1 false a0 ((a0).length : Int) 0 1) (some (.one (.bool true), [])) (none)))
def uc (a0 : List (Ty.T ab)) (a1 : List (Ty.T ab)) : Bool := cond (((a0).length : Int) != ((a1).length : Int)) (false) (cond (gj a1 false a0 ((a0).length : Int) 0 0) ((GC a1 false a0 ((a0).length : Int) 0).2.1) (cond (gj a1 false a0 ((a0).length : Int) 0 1) (true) (false)))
def qi (a0 : List (Ty.T ab)) (a1 : List (Ty.T ab)) : Bool := cond (((a0).length : Int) != ((a1).length : Int)) (true) (cond (gj a1 false a0 ((a0).length : Int) 0 0) (true) (cond (gj a1 false a0 ((a0).length : Int) 0 1) (true) (false)))
theorem WK (a0 : List (Ty.T ab)) (a1 : List (Ty.T ab)) : PH a0 a1 = cond (qi a0 a1) (some (Rx (uc a0 a1))) none := (pC (pS _) (pC (pS _) (pC (pS _) (pN _))))
def Wh : Prim := ⟨[.one (.dat (.sl 109 ab) true), .one (.dat (.sl 109 ab) true), .one (.fnc 73 [])], fun v => .br (qi v.1 v.2.1) (.done (Rx (uc v.1 v.2.1))) .no⟩
theorem TZ : PO 180 Wh := pK Tx fun v => Eq.trans (b := PH v.1 v.2.1) (by kernel_rfl) (WK v.1 v.2.1)
def f74 (r : Bool) : AV × Sig := (.one (.bool r), [])
def E74 := (E0.p TZ)
def u74 (a0 : List (Ty.T ab)) (a1 : List (Ty.T ab)) : Option (AV × Sig) := cond (qi a0 a1) (some (.one (.bool (uc a0 a1)), [])) (none)
def v74 (a0 : List (Ty.T ab)) (a1 : List (Ty.T ab)) : Bool := cond (qi a0 a1) ((uc a0 a1)) (false)
def d74 (a0 : List (Ty.T ab)) (a1 : List (Ty.T ab)) : Bool := cond (qi a0 a1) (true) (false)
theorem o74 (a0 : List (Ty.T ab)) (a1 : List (Ty.T ab)) : u74 a0 a1 = cond (d74 a0 a1) (some (f74 (v74 a0 a1))) none := (pC (pS _) (pN _))
def p74 : Prim := ⟨[.one (.dat (.sl 109 ab) true), .one (.dat (.sl 109 ab) true)], fun v => .br (d74 v.1 v.2.1) (.done (f74 (v74 v.1 v.2.1))) .no⟩
theorem aii : PO 74 p74 := pK E74 fun v => Eq.trans (b := u74 v.1 v.2.1) (by kernel_rfl) (o74 v.1 v.2.1)
def f152 (r : Bool) : AV × Sig := (.one (.bool r), [])
def abD := E0
@[reducible] def DE : List SP := .one (.dat (.sl 3 (.int .i64)) true) :: .one (.dat (.sl 3 (.int .i64)) true) :: U2 (.one (.dat .bool true) :: oI :: U16 (U4 ([])))
@[reducible] def q6 : Type := (List (Ty.T (.int .i64))) × (List (Ty.T (.int .i64))) × Bool × Int × Unit
def uW (v : q6) {Z : Type} (κ : Nat × q6 -> Option Z) : Option Z := cond (decide (v.2.2.2.1 < ((v.1).length : Int))) (if 0 <= v.2.2.2.1 then (bt ((v.1)[(v.2.2.2.1).toNat]?) (fun x1 => if 0 <= v.2.2.2.1 then (bt ((v.2.1)[(v.2.2.2.1).toNat]?) (fun x2 => cond (x1 != x2) (κ (1, (v.1, v.2.1, false, v.2.2.2.1, ()))) (κ (0, (v.1, v.2.1, v.2.2.1, IntKind.wrap .i64 (v.2.2.2.1 + (1 : Int)), ()))))) else none)) else none) (κ (2, (v.1, v.2.1, v.2.2.1, v.2.2.2.1, ())))
def vd (v : q6) : Option (Nat × q6) := uW v some
def xL (v : q6) : Nat := v.1.length + v.2.1.length + v.2.2.2.1.toNat + 100
def nJ (h0 : List (Ty.T (.int .i64))) (h1 : List (Ty.T (.int .i64))) (h2 : Bool) (h3 : Int) (c : Nat) : Bool := iK vd xL (h0, h1, h2, h3, ()) c
def P8 (h0 : List (Ty.T (.int .i64))) (h1 : List (Ty.T (.int .i64))) (h2 : Bool) (h3 : Int) : q6 := iW vd xL (h0, h1, h2, h3, ())
def Sc (v : q6) : aJ (Ex × St) := bo vd (xL v) v (ax DE au) [.ret, .exit 0] 0
theorem WD : bl Tryz.prog (aB (pb 4 11) (ae Tryz.f152)) DE au Sc := aw (lt := .none) abD.ok aj (ah.no _) fun n v K => Eq.trans (b := uW v (cW _ _ _ _ _ K)) (by kernel_rfl) (show uW v _ = (uW v some).bind _ from (bC (bI (bO fun x1 => (bI (bO fun x2 => (bC rfl rfl))))) rfl))
def aaN := abD.l (g := 152) (t := (cv (pb 4 11) (ae Tryz.f152) .none (.sum DE au Sc))) (aQ Tryz.func152 (ah.put (az (by kernel_rfl)) (ah.no _) WD))
def acf (a0 : List (Ty.T (.int .i64))) (a1 : List (Ty.T (.int .i64))) : Option (AV × Sig) := cond (((a0).length : Int) != ((a1).length : Int)) (some (.one (.bool false), [])) (cond (nJ a0 a1 false 0 0) (some (.one (.bool (P8 a0 a1 false 0).2.2.1), [])) (cond (nJ a0 a1 false 0 1) (some (.one (.bool true), [])) (none)))
def CL (a0 : List (Ty.T (.int .i64))) (a1 : List (Ty.T (.int .i64))) : Bool := cond (((a0).length : Int) != ((a1).length : Int)) (false) (cond (nJ a0 a1 false 0 0) ((P8 a0 a1 false 0).2.2.1) (cond (nJ a0 a1 false 0 1) (true) (false)))
def d152 (a0 : List (Ty.T (.int .i64))) (a1 : List (Ty.T (.int .i64))) : Bool := cond (((a0).length : Int) != ((a1).length : Int)) (true) (cond (nJ a0 a1 false 0 0) (true) (cond (nJ a0 a1 false 0 1) (true) (false)))
theorem afU (a0 : List (Ty.T (.int .i64))) (a1 : List (Ty.T (.int .i64))) : acf a0 a1 = cond (d152 a0 a1) (some (f152 (CL a0 a1))) none := (pC (pS _) (pC (pS _) (pC (pS _) (pN _))))
def aeT : Prim := ⟨[.one (.dat (.sl 3 (.int .i64)) true), .one (.dat (.sl 3 (.int .i64)) true)], fun v => .br (d152 v.1 v.2.1) (.done (f152 (CL v.1 v.2.1))) .no⟩
theorem VM : PO 152 aeT := pK aaN fun v => Eq.trans (b := acf v.1 v.2.1) (by kernel_rfl) (afU v.1 v.2.1)
def f153 (r : Bool) : AV × Sig := (.one (.bool r), [])
def aiF := (E0.p Vr)
def t153 (a0 : Ty.T y66) (a1 : Ty.T y66) {Z : Type} (κ : Bool -> Option Z) : Option Z := cond (a0.1 == a1.1) (cond (a0.2.1 == a1.2.1) (cond (a0.2.2.1 == a1.2.2.1) (cond (a0.2.2.2.1 == a1.2.2.2.1) (cond ((a0.2.2.2.2.1.1 == a1.2.2.2.2.1.1) && ((a0.2.2.2.2.1.2.1 == a1.2.2.2.2.1.2.1) && ((a0.2.2.2.2.1.2.2.1 == a1.2.2.2.2.1.2.2.1) && ((a0.2.2.2.2.1.2.2.2.1 == a1.2.2.2.2.1.2.2.2.1) && ((a0.2.2.2.2.1.2.2.2.2.1 == a1.2.2.2.2.1.2.2.2.2.1) && ((a0.2.2.2.2.1.2.2.2.2.2.1 == a1.2.2.2.2.1.2.2.2.2.2.1) && ((a0.2.2.2.2.1.2.2.2.2.2.2 == a1.2.2.2.2.1.2.2.2.2.2.2) && true))))))) (cond (d174 a0.2.2.2.2.2.1 a1.2.2.2.2.2.1) (cond (IB a0.2.2.2.2.2.1 a1.2.2.2.2.2.1) (cond (a0.2.2.2.2.2.2.1 == a1.2.2.2.2.2.2.1) (κ (a0.2.2.2.2.2.2.2 == a1.2.2.2.2.2.2.2)) (κ false)) (κ false)) (none)) (κ false)) (κ false)) (κ false)) (κ false)) (κ false)
def UA (a0 : Ty.T y66) (a1 : Ty.T y66) : Bool := (t153 a0 a1 some).getD false
def d153 (a0 : Ty.T y66) (a1 : Ty.T y66) : Bool := (t153 a0 a1 some).isSome
def af9 : Prim := ⟨[.agg [.dat y66 true], .agg [.dat y66 true]], fun v => .br (d153 v.1 v.2.1) (.done (f153 (UA v.1 v.2.1))) .no⟩
theorem abc : PO 153 af9 := pK aiF fun v => Eq.trans (b := (t153 v.1 v.2.1 (sm f153))) (by kernel_rfl) (aq (show t153 v.1 v.2.1 (sm f153) = (t153 v.1 v.2.1 some).bind _ from by unfold t153; simp only [bb]))
def f51 (r : Bool) : AV × Sig := (.one (.bool r), [])
def E51 := ((((E0.p VM).p abc).p aiO).p aii)
@[reducible] def JY : List SP := U2 (.one (.ptr 2 0) :: .one (.ptr 3 0) :: .one (.dat .bool true) :: oI :: U32 (U16 (U2 ([]))))
@[reducible] def Jb : List (Nat × GP) := [(2, .box 57 [.dat y56 true]), (3, .box 57 [.dat y56 true])]
@[reducible] def wX : Type := Bool × Int × (Ty.T y56) × (Ty.T y56) × Unit
def AH (v : wX) {Z : Type} (κ : Nat × wX -> Option Z) : Option Z := cond (decide (v.2.1 < ((v.2.2.1.2.2.2).length : Int))) (if 0 <= v.2.1 then (bt ((v.2.2.1.2.2.2)[(v.2.1).toNat]?) (fun x1 => if 0 <= v.2.1 then (bt ((v.2.2.2.1.2.2.2)[(v.2.1).toNat]?) (fun x2 => cond (d153 x1 x2) (cond (!(UA x1 x2)) (κ (1, (false, v.2.1, v.2.2.1, v.2.2.2.1, ()))) (κ (0, (v.1, IntKind.wrap .i64 (v.2.1 + (1 : Int)), v.2.2.1, v.2.2.2.1, ())))) (none))) else none)) else none) (κ (2, (v.1, v.2.1, v.2.2.1, v.2.2.2.1, ())))
def Bh (v : wX) : Option (Nat × wX) := AH v some
def Fp (v : wX) : Nat := v.2.1.toNat + v.2.2.1.1.length + v.2.2.1.2.1.length + v.2.2.1.2.2.1.length + v.2.2.1.2.2.2.length + v.2.2.2.1.1.length + v.2.2.2.1.2.1.length + v.2.2.2.1.2.2.1.length + v.2.2.2.1.2.2.2.length + 100
def vG (h0 : Bool) (h1 : Int) (h2 : Ty.T y56) (h3 : Ty.T y56) (c : Nat) : Bool := iK Bh Fp (h0, h1, h2, h3, ()) c
def VJ (h0 : Bool) (h1 : Int) (h2 : Ty.T y56) (h3 : Ty.T y56) : wX := iW Bh Fp (h0, h1, h2, h3, ())
def VQ (v : wX) : aJ (Ex × St) := bo Bh (Fp v) v (ax JY Jb) [.ret, .exit 0] 0
theorem abr : bl Tryz.prog (aB (pb 4 11) (ae Tryz.f51)) JY Jb VQ := aw (lt := .none) E51.ok aj (ah.no _) fun n v K => Eq.trans (b := AH v (cW _ _ _ _ _ K)) (by kernel_rfl) (show AH v _ = (AH v some).bind _ from (bC (bI (bO fun x1 => (bI (bO fun x2 => (bC (bC rfl rfl) rfl))))) rfl))
def ahR := E51.l (g := 51) (t := (cv (pb 4 11) (ae Tryz.f51) .none (.sum JY Jb VQ))) (aQ Tryz.func51 (ah.put (az (by kernel_rfl)) (ah.no _) abr))
def u51 (a0 : Ty.T y56) (a1 : Ty.T y56) : Option (AV × Sig) := cond (d70 a0.1 a1.1) (cond (!(v70 a0.1 a1.1)) (some (.one (.bool false), [])) (cond (d74 a0.2.1 a1.2.1) (cond (!(v74 a0.2.1 a1.2.1)) (some (.one (.bool false), [])) (cond (d152 a0.2.2.1 a1.2.2.1) (cond (!(CL a0.2.2.1 a1.2.2.1)) (some (.one (.bool false), [])) (cond (((a0.2.2.2).length : Int) != ((a1.2.2.2).length : Int)) (some (.one (.bool false), [])) (cond (vG false 0 a0 a1 0) (some (.one (.bool (VJ false 0 a0 a1).1), [])) (cond (vG false 0 a0 a1 1) (some (.one (.bool true), [])) (none))))) (none))) (none))) (none)
def v51 (a0 : Ty.T y56) (a1 : Ty.T y56) : Bool := cond (d70 a0.1 a1.1) (cond (!(v70 a0.1 a1.1)) (false) (cond (d74 a0.2.1 a1.2.1) (cond (!(v74 a0.2.1 a1.2.1)) (false) (cond (d152 a0.2.2.1 a1.2.2.1) (cond (!(CL a0.2.2.1 a1.2.2.1)) (false) (cond (((a0.2.2.2).length : Int) != ((a1.2.2.2).length : Int)) (false) (cond (vG false 0 a0 a1 0) ((VJ false 0 a0 a1).1) (cond (vG false 0 a0 a1 1) (true) (false))))) (false))) (false))) (false)
def d51 (a0 : Ty.T y56) (a1 : Ty.T y56) : Bool := cond (d70 a0.1 a1.1) (cond (!(v70 a0.1 a1.1)) (true) (cond (d74 a0.2.1 a1.2.1) (cond (!(v74 a0.2.1 a1.2.1)) (true) (cond (d152 a0.2.2.1 a1.2.2.1) (cond (!(CL a0.2.2.1 a1.2.2.1)) (true) (cond (((a0.2.2.2).length : Int) != ((a1.2.2.2).length : Int)) (true) (cond (vG false 0 a0 a1 0) (true) (cond (vG false 0 a0 a1 1) (true) (false))))) (false))) (false))) (false)
theorem o51 (a0 : Ty.T y56) (a1 : Ty.T y56) : u51 a0 a1 = cond (d51 a0 a1) (some (f51 (v51 a0 a1))) none := (pC (pC (pS _) (pC (pC (pS _) (pC (pC (pS _) (pC (pS _) (pC (pS _) (pC (pS _) (pN _))))) (pN _))) (pN _))) (pN _))
def p51 : Prim := ⟨[.agg [.dat y56 true], .agg [.dat y56 true]], fun v => .br (d51 v.1 v.2.1) (.done (f51 (v51 v.1 v.2.1))) .no⟩
theorem ahO : PO 51 p51 := pK ahR fun v => Eq.trans (b := u51 v.1 v.2.1) (by kernel_rfl) (o51 v.1 v.2.1)
def f296 (r : (Ty.T q2) × (List (Ty.T y27))) : AV × Sig := (.agg ((q2.cells false r.1) ++ [.sl 28672]), [(28672, .arr 41 y27 r.2 false)])
def ah8 := E0
def ZN (a0 : Ty.T bm) : Option (AV × Sig) := if ([] ++ a0.2.2.2.2.2.2 : List (Ty.T y27)).length * 56 <= 140737488351232 then (some (.agg [.int .i64 a0.1, .int .i64 a0.2.1, .int .i64 a0.2.2.1, .int .i64 a0.2.2.2.1, .int .i64 a0.2.2.2.2.1, .bool a0.2.2.2.2.2.1, .sl 28672], [(28672, .arr 41 y27 ([] ++ a0.2.2.2.2.2.2) false)])) else none
def Uo (a0 : Ty.T bm) : (Ty.T q2) × (List (Ty.T y27)) := ((a0.1, a0.2.1, a0.2.2.1, a0.2.2.2.1, a0.2.2.2.2.1, a0.2.2.2.2.2.1), [] ++ a0.2.2.2.2.2.2)
def d296 (a0 : Ty.T bm) : Bool := decide (([] ++ a0.2.2.2.2.2.2 : List (Ty.T y27)).length * 56 <= 140737488351232) && (true)
theorem afs (a0 : Ty.T bm) : ZN a0 = cond (d296 a0) (some (f296 (Uo a0))) none := (pI (pS _))
def afH : Prim := ⟨[.agg [.dat bm true]], fun v => .br (d296 v.1) (.done (f296 (Uo v.1))) .no⟩
theorem Zd : PO 296 afH := pK ah8 fun v => Eq.trans (b := ZN v.1) (by kernel_rfl) (afs v.1)
def f238 (r : (Ty.T q0) × (Ty.T aT) × (List (Ty.T y27))) : AV × Sig := (.agg ((q0.cells false r.1) ++ [.sl 81920] ++ (aT.cells false r.2.1)), [(81920, .arr 41 y27 r.2.2 false)])
def af2 := (E0.p Zd)
def t238 (a0 : Ty.T ab) {Z : Type} (κ : (Ty.T q0) × (Ty.T aT) × (List (Ty.T y27)) -> Option Z) : Option Z := cond (d296 a0.2.2.2.2.2.2.1) (κ ((a0.1, a0.2.1, a0.2.2.1, a0.2.2.2.1, a0.2.2.2.2.1, a0.2.2.2.2.2.1, (Uo a0.2.2.2.2.2.2.1).1), a0.2.2.2.2.2.2.2, (Uo a0.2.2.2.2.2.2.1).2)) (none)
def cO (a0 : Ty.T ab) : (Ty.T q0) × (Ty.T aT) × (List (Ty.T y27)) := (t238 a0 some).getD ((Ty.zero q0), (Ty.zero aT), [])
def d238 (a0 : Ty.T ab) : Bool := (t238 a0 some).isSome
def agn : Prim := ⟨[.agg [.dat ab true]], fun v => .br (d238 v.1) (.done (f238 (cO v.1))) .no⟩
theorem LK : PO 238 agn := pK af2 fun v => Eq.trans (b := (t238 v.1 (sm f238))) (by kernel_rfl) (aq (show t238 v.1 (sm f238) = (t238 v.1 some).bind _ from (bC rfl rfl)))
def f154 (r : (List (Ty.T ab))) : AV × Sig := (.one (.sl 4096), [(4096, .arr 109 ab r false)])
def aaR := (E0.p LK)
@[reducible] def EJ : List SP := .one (.dat (.sl 109 ab) true) :: .und :: .one (.dat (.sl 109 ab) false) :: .one (.own 5) :: oI :: U16 ([])
@[reducible] def EC : List (Nat × GP) := [(5, .arr 109 ab false)]
@[reducible] def qg : Type := (List (Ty.T ab)) × (List (Ty.T ab)) × Int × (List (Ty.T ab)) × Unit
def ui (v : qg) {Z : Type} (κ : Nat × qg -> Option Z) : Option Z := cond (decide (v.2.2.1 < ((v.1).length : Int))) (if 0 <= v.2.2.1 then (bt ((v.1)[(v.2.2.1).toNat]?) (fun x1 => cond (d238 x1) (if (v.2.2.2.1 ++ [((cO x1).1.1, (cO x1).1.2.1, (cO x1).1.2.2.1, (cO x1).1.2.2.2.1, (cO x1).1.2.2.2.2.1, (cO x1).1.2.2.2.2.2.1, ((cO x1).1.2.2.2.2.2.2.1, (cO x1).1.2.2.2.2.2.2.2.1, (cO x1).1.2.2.2.2.2.2.2.2.1, (cO x1).1.2.2.2.2.2.2.2.2.2.1, (cO x1).1.2.2.2.2.2.2.2.2.2.2.1, (cO x1).1.2.2.2.2.2.2.2.2.2.2.2, (cO x1).2.2), (cO x1).2.1)] : List (Ty.T ab)).length * 192 <= 140737488351232 then (κ (0, (v.1, v.2.1, IntKind.wrap .i64 (v.2.2.1 + (1 : Int)), v.2.2.2.1 ++ [((cO x1).1.1, (cO x1).1.2.1, (cO x1).1.2.2.1, (cO x1).1.2.2.2.1, (cO x1).1.2.2.2.2.1, (cO x1).1.2.2.2.2.2.1, ((cO x1).1.2.2.2.2.2.2.1, (cO x1).1.2.2.2.2.2.2.2.1, (cO x1).1.2.2.2.2.2.2.2.2.1, (cO x1).1.2.2.2.2.2.2.2.2.2.1, (cO x1).1.2.2.2.2.2.2.2.2.2.2.1, (cO x1).1.2.2.2.2.2.2.2.2.2.2.2, (cO x1).2.2), (cO x1).2.1)], ()))) else none) (none))) else none) (κ (1, (v.1, v.2.1, v.2.2.1, v.2.2.2.1, ())))
def sY (v : qg) : Option (Nat × qg) := ui v some
def yh (v : qg) : Nat := v.1.length + v.2.1.length + v.2.2.1.toNat + v.2.2.2.1.length + 100
def D1 (h0 : List (Ty.T ab)) (h1 : List (Ty.T ab)) (h2 : Int) (h3 : List (Ty.T ab)) (c : Nat) : Bool := iK sY yh (h0, h1, h2, h3, ()) c
def IZ (h0 : List (Ty.T ab)) (h1 : List (Ty.T ab)) (h2 : Int) (h3 : List (Ty.T ab)) : qg := iW sY yh (h0, h1, h2, h3, ())
def Qz (v : qg) : aJ (Ex × St) := bo sY (yh v) v (ax EJ EC) [.exit 0] 0
theorem Xv : bl Tryz.prog (aB (pb 4 11) (ae Tryz.f154)) EJ EC Qz := aw (lt := .none) aaR.ok aj (ah.no _) fun n v K => Eq.trans (b := ui v (cW _ _ _ _ _ K)) (by kernel_rfl) (show ui v _ = (ui v some).bind _ from (bC (bI (bO fun x1 => (bC (bI rfl) rfl))) rfl))
def aaT := aaR.l (g := 154) (t := (cv (pb 4 11) (ae Tryz.f154) .none (.sum EJ EC Qz))) (aQ Tryz.func154 (ah.put (az (by kernel_rfl)) (ah.no _) Xv))
def aaC (a0 : List (Ty.T ab)) : Option (AV × Sig) := cond (D1 a0 [] 0 [] 0) (some (.one (.sl 4096), [(4096, .arr 109 ab (IZ a0 [] 0 []).2.2.2.1 false)])) (none)
def kL (a0 : List (Ty.T ab)) : (List (Ty.T ab)) := cond (D1 a0 [] 0 [] 0) ((IZ a0 [] 0 []).2.2.2.1) ([])
def d154 (a0 : List (Ty.T ab)) : Bool := cond (D1 a0 [] 0 [] 0) (true) (false)
theorem afg (a0 : List (Ty.T ab)) : aaC a0 = cond (d154 a0) (some (f154 (kL a0))) none := (pC (pS _) (pN _))
def agY : Prim := ⟨[.one (.dat (.sl 109 ab) true)], fun v => .br (d154 v.1) (.done (f154 (kL v.1))) .no⟩
theorem V9 : PO 154 agY := pK aaT fun v => Eq.trans (b := aaC v.1) (by kernel_rfl) (afg v.1)
def f240 (r : Bool) : AV × Sig := (.one (.bool r), [])
def afO := (E0.p mP)
def t240 (a0 : Ty.T y63) {Z : Type} (κ : Bool -> Z) : Z := cond (!(bj a0.1 1 99)) (κ false) (cond (!(bj a0.2.1 0 2)) (κ false) (cond (!(bj a0.2.2.1 0 2)) (κ false) (cond (!(bj a0.2.2.2.1 1 4)) (κ false) (cond (!(bj a0.2.2.2.2.1 0 9999)) (κ false) (cond (!(bj a0.2.2.2.2.2.1 0 999)) (κ false) (cond (!(bj a0.2.2.2.2.2.2.1 0 999)) (κ false) (cond (!(bj a0.2.2.2.2.2.2.2.1 0 63)) (κ false) (cond (!(bj a0.2.2.2.2.2.2.2.2.1 0 2147483647)) (κ false) (cond (!(bj a0.2.2.2.2.2.2.2.2.2.1 0 2147483647)) (κ false) (cond (!(bj a0.2.2.2.2.2.2.2.2.2.2.1 0 2147483647)) (κ false) (cond (a0.2.2.2.1 == (2 : Int)) (κ true) (cond (a0.2.2.1 == a0.2.1) (cond (a0.2.2.2.2.2.2.2.2.1 == (0 : Int)) (cond (a0.2.2.2.2.2.2.2.2.2.1 == (0 : Int)) (cond (a0.2.2.2.2.2.2.2.2.2.2.1 == (0 : Int)) (cond (!a0.2.2.2.2.2.2.2.2.2.2.2.1) (κ (!a0.2.2.2.2.2.2.2.2.2.2.2.2)) (κ false)) (κ false)) (κ false)) (κ false)) (κ false)))))))))))))
def my (a0 : Ty.T y63) : Bool := t240 a0 fun r => r
def af0 : Prim := ⟨[.agg [.dat y63 true]], fun v => .done (f240 (my v.1))⟩
theorem acY : PO 240 af0 := pK afO fun v => Eq.trans (b := (t240 v.1 (sm f240))) (by kernel_rfl) (show t240 v.1 (sm f240) = some (f240 (t240 v.1 fun r => r)) from (tC rfl (tC rfl (tC rfl (tC rfl (tC rfl (tC rfl (tC rfl (tC rfl (tC rfl (tC rfl (tC rfl (tC rfl (tC (tC (tC (tC (tC rfl rfl) rfl) rfl) rfl) rfl))))))))))))))
def f241 (r : Bool) : AV × Sig := (.one (.bool r), [])
def afB := (E0.p mP)
def ab5 (a0 : Ty.T bS) : Option (AV × Sig) := cond (bj a0.1 (-2147483647) 2147483647) (some (.one (.bool (bj a0.2.1 0 2147483647)), [])) (some (.one (.bool false), []))
def ly (a0 : Ty.T bS) : Bool := cond (bj a0.1 (-2147483647) 2147483647) ((bj a0.2.1 0 2147483647)) (false)
theorem aiY (a0 : Ty.T bS) : ab5 a0 = some (f241 (ly a0)) := (tC rfl rfl)
def ahD : Prim := ⟨[.agg [.dat bS true]], fun v => .done (f241 (ly v.1))⟩
theorem abd : PO 241 ahD := pK afB fun v => Eq.trans (b := ab5 v.1) (by kernel_rfl) (aiY v.1)
def f155 (r : Bool) : AV × Sig := (.one (.bool r), [])
def Xu := (((E0.p mP).p acY).p abd)
@[reducible] def Cp : List SP := .und :: .one (.ptr 1 0) :: .one (.dat .bool true) :: oI :: U64 (U32 (.und :: []))
@[reducible] def et : Type := Bool × Int × (Ty.T y36) × Unit
def lL (v : et) {Z : Type} (κ : Nat × et -> Option Z) : Option Z := cond (decide (v.2.1 < ((v.2.2.1.1).length : Int))) (if 0 <= v.2.1 then (bt ((v.2.2.1.1)[(v.2.1).toNat]?) (fun x1 => cond (!(my x1)) (κ (1, (false, v.2.1, v.2.2.1, ()))) (cond (decide (v.2.1 > (0 : Int))) (if 0 <= (IntKind.wrap .i64 (v.2.1 - (1 : Int))) then (bt ((v.2.2.1.1)[(IntKind.wrap .i64 (v.2.1 - (1 : Int))).toNat]?) (fun x2 => cond (decide (x2.1 ≥ x1.1)) (κ (1, (false, v.2.1, v.2.2.1, ()))) (cond (decide (x1.2.1 ≥ ((v.2.2.1.2.1).length : Int))) (κ (1, (false, v.2.1, v.2.2.1, ()))) (cond (decide (x1.2.2.1 ≥ ((v.2.2.1.2.1).length : Int))) (κ (1, (false, v.2.1, v.2.2.1, ()))) (cond (decide (x1.2.2.2.2.1 > v.2.2.1.2.2.2)) (κ (1, (false, v.2.1, v.2.2.1, ()))) (κ (0, (v.1, IntKind.wrap .i64 (v.2.1 + (1 : Int)), v.2.2.1, ())))))))) else none) (cond (decide (x1.2.1 ≥ ((v.2.2.1.2.1).length : Int))) (κ (1, (false, v.2.1, v.2.2.1, ()))) (cond (decide (x1.2.2.1 ≥ ((v.2.2.1.2.1).length : Int))) (κ (1, (false, v.2.1, v.2.2.1, ()))) (cond (decide (x1.2.2.2.2.1 > v.2.2.1.2.2.2)) (κ (1, (false, v.2.1, v.2.2.1, ()))) (κ (0, (v.1, IntKind.wrap .i64 (v.2.1 + (1 : Int)), v.2.2.1, ()))))))))) else none) (κ (2, (v.1, v.2.1, v.2.2.1, ())))
def gP (v : et) : Option (Nat × et) := lL v some
def oU (v : et) : Nat := v.2.1.toNat + v.2.2.1.1.length + v.2.2.1.2.1.length + 100
def th (h0 : Bool) (h1 : Int) (h2 : Ty.T y36) (c : Nat) : Bool := iK gP oU (h0, h1, h2, ()) c
def kt (h0 : Bool) (h1 : Int) (h2 : Ty.T y36) : et := iW gP oU (h0, h1, h2, ())
def OI (v : et) : aJ (Ex × St) := bo gP (oU v) v (ax Cp l6) [.ret, .exit 0] 0
theorem X0 : bl Tryz.prog (aB (pb 4 11) (ae Tryz.f155)) Cp l6 OI := aw (lt := .none) Xu.ok aj (ah.no _) fun n v K => Eq.trans (b := lL v (cW _ _ _ _ _ K)) (by kernel_rfl) (show lL v _ = (lL v some).bind _ from (bC (bI (bO fun x1 => (bC rfl (bC (bI (bO fun x2 => (bC rfl (bC rfl (bC rfl (bC rfl rfl)))))) (bC rfl (bC rfl (bC rfl rfl))))))) rfl))
@[reducible] def Dn : List SP := .und :: .one (.ptr 1 0) :: .one (.dat .bool true) :: U2 (oI :: U64 (U16 (U8 (U4 (U2 (.und :: []))))))
def sV (v : et) {Z : Type} (κ : Nat × et -> Option Z) : Option Z := cond (decide (v.2.1 < ((v.2.2.1.2.1).length : Int))) (if 0 <= v.2.1 then (bt ((v.2.2.1.2.1)[(v.2.1).toNat]?) (fun x3 => cond (!(ly x3)) (κ (1, (false, v.2.1, v.2.2.1, ()))) (κ (0, (v.1, IntKind.wrap .i64 (v.2.1 + (1 : Int)), v.2.2.1, ()))))) else none) (κ (2, (v.1, v.2.1, v.2.2.1, ())))
def tf (v : et) : Option (Nat × et) := sV v some
def zk (v : et) : Nat := v.2.1.toNat + v.2.2.1.1.length + v.2.2.1.2.1.length + 100
def zQ (h0 : Bool) (h1 : Int) (h2 : Ty.T y36) (c : Nat) : Bool := iK tf zk (h0, h1, h2, ()) c
def JL (h0 : Bool) (h1 : Int) (h2 : Ty.T y36) : et := iW tf zk (h0, h1, h2, ())
def N7 (v : et) : aJ (Ex × St) := bo tf (zk v) v (ax Dn l6) [.ret, .exit 2] 0
theorem Yx : bl Tryz.prog (aB (pb 5 23) (ae Tryz.f155)) Dn l6 N7 := aw (lt := .none) Xu.ok aj (ah.no _) fun n v K => Eq.trans (b := sV v (cW _ _ _ _ _ K)) (by kernel_rfl) (show sV v _ = (sV v some).bind _ from (bC (bI (bO fun x3 => (bC rfl rfl))) rfl))
def abf := Xu.l (g := 155) (t := (cv (pb 5 23) (ae Tryz.f155) (cv (pb 4 11) (ae Tryz.f155) .none (.sum Cp l6 OI)) (.sum Dn l6 N7))) (aQ Tryz.func155 (ah.put (az (by kernel_rfl)) (ah.put (az (by kernel_rfl)) (ah.no _) X0) Yx))
def t155 (a0 : Ty.T y36) {Z : Type} (κ : Bool -> Option Z) : Option Z := cond (decide (((a0.1).length : Int) > (8 : Int))) (κ false) (cond (!(bj ((a0.2.1).length : Int) 2 3)) (κ false) (cond (!(bj a0.2.2.1 0 (IntKind.wrap .i64 (((a0.2.1).length : Int) - (1 : Int))))) (κ false) (cond (!(bj a0.2.2.2 0 9999)) (κ false) (cond (th false 0 a0 0) (κ (kt false 0 a0).1) (cond (th false 0 a0 1) (cond (zQ (kt false 0 a0).1 0 (kt false 0 a0).2.2.1 0) (κ (JL (kt false 0 a0).1 0 (kt false 0 a0).2.2.1).1) (cond (zQ (kt false 0 a0).1 0 (kt false 0 a0).2.2.1 1) (κ true) (none))) (none))))))
def kj (a0 : Ty.T y36) : Bool := (t155 a0 some).getD false
def d155 (a0 : Ty.T y36) : Bool := (t155 a0 some).isSome
def aeh : Prim := ⟨[.agg [.dat y36 true]], fun v => .br (d155 v.1) (.done (f155 (kj v.1))) .no⟩
theorem aaf : PO 155 aeh := pK abf fun v => Eq.trans (b := (t155 v.1 (sm f155))) (by kernel_rfl) (aq (show t155 v.1 (sm f155) = (t155 v.1 some).bind _ from by unfold t155; simp only [bb]))
def f156 (r : Bool) : AV × Sig := (.one (.bool r), [])
def adm := (E0.p Sa)
@[reducible] def CH : List SP := .one (.dat (.sl 109 ab) true) :: .und :: .one (.dat .bool true) :: oI :: U32 (.und :: [])
@[reducible] def qv : Type := (List (Ty.T ab)) × Bool × Int × Unit
def lS (v : qv) {Z : Type} (κ : Nat × qv -> Option Z) : Option Z := cond (decide (v.2.2.1 < ((v.1).length : Int))) (if 0 <= v.2.2.1 then (bt ((v.1)[(v.2.2.1).toNat]?) (fun x1 => cond (d242 x1) (cond (!(eg x1)) (κ (1, (v.1, false, v.2.2.1, ()))) (cond (decide (v.2.2.1 > (0 : Int))) (if 0 <= (IntKind.wrap .i64 (v.2.2.1 - (1 : Int))) then (bt ((v.1)[(IntKind.wrap .i64 (v.2.2.1 - (1 : Int))).toNat]?) (fun x2 => if 0 <= v.2.2.1 then (bt ((v.1)[(v.2.2.1).toNat]?) (fun x3 => cond (decide (x2.1 ≥ x3.1)) (κ (1, (v.1, false, v.2.2.1, ()))) (κ (0, (v.1, v.2.1, IntKind.wrap .i64 (v.2.2.1 + (1 : Int)), ()))))) else none)) else none) (κ (0, (v.1, v.2.1, IntKind.wrap .i64 (v.2.2.1 + (1 : Int)), ()))))) (none))) else none) (κ (2, (v.1, v.2.1, v.2.2.1, ())))
def fz (v : qv) : Option (Nat × qv) := lS v some
def tg (v : qv) : Nat := v.1.length + v.2.2.1.toNat + 100
def fL (h0 : List (Ty.T ab)) (h1 : Bool) (h2 : Int) (c : Nat) : Bool := iK fz tg (h0, h1, h2, ()) c
def lB (h0 : List (Ty.T ab)) (h1 : Bool) (h2 : Int) : qv := iW fz tg (h0, h1, h2, ())
def RL (v : qv) : aJ (Ex × St) := bo fz (tg v) v (ax CH au) [.ret, .exit 0] 0
theorem Yi : bl Tryz.prog (aB (pb 3 5) (ae Tryz.f156)) CH au RL := aw (lt := .none) adm.ok aj (ah.no _) fun n v K => Eq.trans (b := lS v (cW _ _ _ _ _ K)) (by kernel_rfl) (show lS v _ = (lS v some).bind _ from (bC (bI (bO fun x1 => (bC (bC rfl (bC (bI (bO fun x2 => (bI (bO fun x3 => (bC rfl rfl))))) rfl)) rfl))) rfl))
def adD := adm.l (g := 156) (t := (cv (pb 3 5) (ae Tryz.f156) .none (.sum CH au RL))) (aQ Tryz.func156 (ah.put (az (by kernel_rfl)) (ah.no _) Yi))
def ac6 (a0 : List (Ty.T ab)) : Option (AV × Sig) := cond (fL a0 false 0 0) (some (.one (.bool (lB a0 false 0).2.1), [])) (cond (fL a0 false 0 1) (some (.one (.bool (decide ((((lB a0 false 0).1).length : Int) <= (5 : Int)))), [])) (none))
def pD (a0 : List (Ty.T ab)) : Bool := cond (fL a0 false 0 0) ((lB a0 false 0).2.1) (cond (fL a0 false 0 1) (decide ((((lB a0 false 0).1).length : Int) <= (5 : Int))) (false))
def d156 (a0 : List (Ty.T ab)) : Bool := cond (fL a0 false 0 0) (true) (cond (fL a0 false 0 1) (true) (false))
theorem ahi (a0 : List (Ty.T ab)) : ac6 a0 = cond (d156 a0) (some (f156 (pD a0))) none := (pC (pS _) (pC (pS _) (pN _)))
def aeZ : Prim := ⟨[.one (.dat (.sl 109 ab) true)], fun v => .br (d156 v.1) (.done (f156 (pD v.1))) .no⟩
theorem aa6 : PO 156 aeZ := pK adD fun v => Eq.trans (b := ac6 v.1) (by kernel_rfl) (ahi v.1)
def f300 (r : Bool) : AV × Sig := (.one (.bool r), [])
def acu := E0
@[reducible] def DZ : List SP := .one (.dat (.sl 3 (.int .i64)) true) :: oI :: U2 (.one (.dat .bool true) :: oI :: U8 (U4 ([])))
@[reducible] def qu : Type := (List (Ty.T (.int .i64))) × Int × Bool × Int × Unit
def uV (v : qu) {Z : Type} (κ : Nat × qu -> Option Z) : Option Z := cond (decide (v.2.2.2.1 < ((v.1).length : Int))) (if 0 <= v.2.2.2.1 then (bt ((v.1)[(v.2.2.2.1).toNat]?) (fun x1 => cond (x1 == v.2.1) (κ (1, (v.1, v.2.1, true, v.2.2.2.1, ()))) (κ (0, (v.1, v.2.1, v.2.2.1, IntKind.wrap .i64 (v.2.2.2.1 + (1 : Int)), ()))))) else none) (κ (2, (v.1, v.2.1, v.2.2.1, v.2.2.2.1, ())))
def vr (v : qu) : Option (Nat × qu) := uV v some
def zf (v : qu) : Nat := v.1.length + v.2.1.toNat + v.2.2.2.1.toNat + 100
def lR (h0 : List (Ty.T (.int .i64))) (h1 : Int) (h2 : Bool) (h3 : Int) (c : Nat) : Bool := iK vr zf (h0, h1, h2, h3, ()) c
def JR (h0 : List (Ty.T (.int .i64))) (h1 : Int) (h2 : Bool) (h3 : Int) : qu := iW vr zf (h0, h1, h2, h3, ())
def NK (v : qu) : aJ (Ex × St) := bo vr (zf v) v (ax DZ au) [.ret, .exit 0] 0
theorem XG : bl Tryz.prog (aB (pb 3 5) (ae Tryz.f300)) DZ au NK := aw (lt := .none) acu.ok aj (ah.no _) fun n v K => Eq.trans (b := uV v (cW _ _ _ _ _ K)) (by kernel_rfl) (show uV v _ = (uV v some).bind _ from (bC (bI (bO fun x1 => (bC rfl rfl))) rfl))
def aaO := acu.l (g := 300) (t := (cv (pb 3 5) (ae Tryz.f300) .none (.sum DZ au NK))) (aQ Tryz.func300 (ah.put (az (by kernel_rfl)) (ah.no _) XG))
def abx (a0 : List (Ty.T (.int .i64))) (a1 : Int) : Option (AV × Sig) := cond (lR a0 a1 false 0 0) (some (.one (.bool (JR a0 a1 false 0).2.2.1), [])) (cond (lR a0 a1 false 0 1) (some (.one (.bool false), [])) (none))
def Gv (a0 : List (Ty.T (.int .i64))) (a1 : Int) : Bool := cond (lR a0 a1 false 0 0) ((JR a0 a1 false 0).2.2.1) (cond (lR a0 a1 false 0 1) (false) (false))
def d300 (a0 : List (Ty.T (.int .i64))) (a1 : Int) : Bool := cond (lR a0 a1 false 0 0) (true) (cond (lR a0 a1 false 0 1) (true) (false))
theorem ai2 (a0 : List (Ty.T (.int .i64))) (a1 : Int) : abx a0 a1 = cond (d300 a0 a1) (some (f300 (Gv a0 a1))) none := (pC (pS _) (pC (pS _) (pN _)))
def ae8 : Prim := ⟨[.one (.dat (.sl 3 (.int .i64)) true), oI], fun v => .br (d300 v.1 v.2.1) (.done (f300 (Gv v.1 v.2.1))) .no⟩
theorem Vv : PO 300 ae8 := pK aaO fun v => Eq.trans (b := abx v.1 v.2.1) (by kernel_rfl) (ai2 v.1 v.2.1)
end
end Go.Proofs.YtahlaccdpmddbaaGreat.Vm
