/- Contracts. No condition. -/
import Derived.Test.YtahlaccdpmddbaaGreatVmCFnUsedP4
import Derived.Test.YtahlaccdpmddbaaGreatVmLibThree
namespace Go.Proofs.YtahlaccdpmddbaaGreat.Vm
open Go Go.Proofs.YtahlaccdpmddbaaGreat.Lib
noncomputable section
set_option maxRecDepth 100000
set_option linter.unusedVariables false
def Ir (r : (Ty.T y27) × (Ty.T af)) : AV × Sig := (.agg (y27.cells false r.1), [(4294967296, .box 222 ((af.cells true r.2)))])
def Wf := ((((E0.g dm).g dN).g wB).g wj)
def n7 (a0 : Ty.T y36) (a1 : Ty.T af) {Z : Type} (κ : (Ty.T y27) × (Ty.T af) -> Option Z) : Option Z := cond (lu a0 a1) (cond (bD 16 (al a0 a1).2) (cond ((ab 16 (al a0 a1).2).1 == (0 : Int)) (cond (bu [0, 1, 2, 3, 5, 7] (ab 16 (al a0 a1).2).2) (κ (((ah [0, 1, 2, 3, 5, 7] (ab 16 (al a0 a1).2).2).1, (al a0 a1).1.2), (ah [0, 1, 2, 3, 5, 7] (ab 16 (al a0 a1).2).2).2)) (none)) (cond ((ab 16 (al a0 a1).2).1 == (1 : Int)) (cond (bu [0, 1, 99, 100] (ab 16 (al a0 a1).2).2) (κ (((al a0 a1).1.1, (ah [0, 1, 99, 100] (ab 16 (al a0 a1).2).2).1, (al a0 a1).1.2.2), (ah [0, 1, 99, 100] (ab 16 (al a0 a1).2).2).2)) (none)) (cond ((ab 16 (al a0 a1).2).1 == (2 : Int)) (cond (bu [0, 99, 100, (-1)] (ab 16 (al a0 a1).2).2) (κ (((al a0 a1).1.1, (al a0 a1).1.2.1, (ah [0, 99, 100, (-1)] (ab 16 (al a0 a1).2).2).1, (al a0 a1).1.2.2.2), (ah [0, 99, 100, (-1)] (ab 16 (al a0 a1).2).2).2)) (none)) (cond ((ab 16 (al a0 a1).2).1 == (3 : Int)) (cond (bu [(-2), (-1), 0, 2, 3] (ab 16 (al a0 a1).2).2) (κ (((al a0 a1).1.1, (al a0 a1).1.2.1, (al a0 a1).1.2.2.1, (ah [(-2), (-1), 0, 2, 3] (ab 16 (al a0 a1).2).2).1, (al a0 a1).1.2.2.2.2), (ah [(-2), (-1), 0, 2, 3] (ab 16 (al a0 a1).2).2).2)) (none)) (cond ((ab 16 (al a0 a1).2).1 == (4 : Int)) (cond (uA (ab 16 (al a0 a1).2).2) (κ (((al a0 a1).1.1, (al a0 a1).1.2.1, (al a0 a1).1.2.2.1, (al a0 a1).1.2.2.2.1, (kc (ab 16 (al a0 a1).2).2).1, (al a0 a1).1.2.2.2.2.2), (kc (ab 16 (al a0 a1).2).2).2)) (none)) (cond ((ab 16 (al a0 a1).2).1 == (5 : Int)) (cond (bu [0, 2, 4, 5] (ab 16 (al a0 a1).2).2) (κ (((al a0 a1).1.1, (al a0 a1).1.2.1, (al a0 a1).1.2.2.1, (al a0 a1).1.2.2.2.1, (al a0 a1).1.2.2.2.2.1, (ah [0, 2, 4, 5] (ab 16 (al a0 a1).2).2).1, (al a0 a1).1.2.2.2.2.2.2), (ah [0, 2, 4, 5] (ab 16 (al a0 a1).2).2).2)) (none)) (cond ((ab 16 (al a0 a1).2).1 == (6 : Int)) (κ (((al a0 a1).1.1, (al a0 a1).1.2.1, (al a0 a1).1.2.2.1, (al a0 a1).1.2.2.2.1, (al a0 a1).1.2.2.2.2.1, (al a0 a1).1.2.2.2.2.2.1, !(al a0 a1).1.2.2.2.2.2.2), (ab 16 (al a0 a1).2).2)) (κ ((al a0 a1).1, (ab 16 (al a0 a1).2).2))))))))) (none)) (none)
def qT (a0 : Ty.T y36) (a1 : Ty.T af) : (Ty.T y27) × (Ty.T af) := (n7 a0 a1 some).getD ((Ty.zero y27), (Ty.zero af))
def Kk (a0 : Ty.T y36) (a1 : Ty.T af) : Bool := (n7 a0 a1 some).isSome
def Xh : Gen := ⟨[false, false], [.one (.ptr 4294967296 0), .agg [.dat y36 false]], [(4294967296, .box 222 [.dat af true])], fun v => .br (Kk v.1 v.2.1) (.done (Ir (qT v.1 v.2.1))) .no⟩
theorem T5 : bw Tryz.prog 151 Xh := bF Wf.ok ai (aC (by kernel_rfl)) ⟨Tryz.f151, ae Tryz.f151, by kernel_rfl, by kernel_rfl⟩ fun v => Eq.trans (b := (n7 v.1 v.2.1 (sm Ir))) (by kernel_rfl) (ar (show n7 v.1 v.2.1 (sm Ir) = (n7 v.1 v.2.1 some).bind _ from by unfold n7; simp only [bb]))
def JN (r : (Ty.T q0) × (Ty.T af) × (List (Ty.T y27))) : AV × Sig := (.agg ((q0.cells false r.1) ++ [.sl 33579008]), [(4294967296, .box 222 ((af.cells true r.2.1))), (33579008, .arr 41 y27 r.2.2 false)])
def p4 := ((((((E0.g dm).g T5).g dN).g wB).g wj).g KK)
@[reducible] def BH : List SP := .one (.ptr 4294967296 0) :: U2 (.one (.ptr 3 0) :: .one (.ptr 4 0) :: U64 (U4 (U2 (.und :: []))))
@[reducible] def Bs : List (Nat × GP) := [(4294967296, .box 222 [.dat af true]), (3, .box 37 [.dat y36 false]), (4, .box 107 [.dat bp false])]
@[reducible] def jl : Type := (Ty.T af) × (Ty.T y36) × (Ty.T bp) × Unit
@[reducible] def eW : List SP := .one (.ptr 4294967296 0) :: U2 (.one (.ptr 3 0) :: .one (.ptr 4 0) :: .one (.ptr 5 0) :: U64 (U4 (U2 ([]))))
@[reducible] def dV : List (Nat × GP) := [(4294967296, .box 222 [.dat af true]), (3, .box 37 [.dat y36 false]), (4, .box 107 [.dat bp false]), (5, .box 107 [.dat q0 false, .own 33579019]), (33579019, .arr 41 y27 false)]
def zx (v : jl) (r : Unit) : Ex × St := (.normal, aB eW dV ((cI v.2.1 (IntKind.wrap .i64 ((1 : Int) + (ab 6 v.1).1)) (ab 6 v.1).2).2.1, v.2.1, v.2.2.1, (cI v.2.1 (IntKind.wrap .i64 ((1 : Int) + (ab 6 v.1).1)) (ab 6 v.1).2).1, (cI v.2.1 (IntKind.wrap .i64 ((1 : Int) + (ab 6 v.1).1)) (ab 6 v.1).2).2.2, ()))
def iB (v : jl) {Z : Type} (κ : Unit -> Option Z) : Option Z := cond (bD 6 v.1) (cond (Cf v.2.1 (IntKind.wrap .i64 ((1 : Int) + (ab 6 v.1).1)) (ab 6 v.1).2) (κ ()) (none)) (none)
def QS (v : jl) : Unit := (iB v some).getD ()
def zq (v : jl) : Bool := (iB v some).isSome
def F9 (v : jl) : aR (Ex × St) := .br (zq v) (.done (zx v (QS v))) .no
theorem Oe : a7 Tryz.prog (aA [true, false] (ae Tryz.f295)) BH Bs F9 := bP (by kernel_rfl) (sx := eW) (gx := dV) p4.ok ai (by kernel_rfl) 6 fun v => Eq.trans (b := List.replicate 6 (iB v (sm (zx v)))) (by kernel_rfl) (congrArg (List.replicate 6) (ar (show iB v (sm (zx v)) = (iB v some).bind _ from (bC (bC rfl rfl) rfl))))
@[reducible] def bc : Type := (Ty.T af) × (Ty.T y36) × (Ty.T bp) × (Ty.T q0) × (List (Ty.T y27)) × Unit
@[reducible] def eS : List SP := U4 (.one (.ptr 4 0) :: .one (.ptr 5 0) :: U64 (U4 (U2 ([]))))
@[reducible] def eV : List (Nat × GP) := [(4, .box 107 [.dat bp false]), (5, .box 107 [.dat q0 false, .own 33579019]), (4294967296, .box 222 [.dat af true]), (33579019, .arr 41 y27 false)]
def yY (v : bc) (r : Unit) : Ex × St := (.normal, aB eS eV (v.2.2.1, v.2.2.2.1, (qT v.2.1 v.1).2, v.2.2.2.2.1 ++ [(qT v.2.1 v.1).1], ()))
def je (v : bc) {Z : Type} (κ : Unit -> Option Z) : Option Z := cond (Kk v.2.1 v.1) (if (v.2.2.2.2.1 ++ [(qT v.2.1 v.1).1] : List (Ty.T y27)).length * 56 <= 140737488351232 then (κ ()) else none) (none)
def QR (v : bc) : Unit := (je v some).getD ()
def zG (v : bc) : Bool := (je v some).isSome
def HF (v : bc) : aR (Ex × St) := .br (zG v) (.done (yY v (QR v))) .no
theorem Nu : a7 Tryz.prog (aA [true, true, true, true, true, true, true, true, true, true, true, true, false] (aA (pb 5 27) (ae Tryz.f295))) eW dV HF := bP (by kernel_rfl) (sx := eS) (gx := eV) p4.ok ai (by kernel_rfl) 2 fun v => Eq.trans (b := List.replicate 2 (je v (sm (yY v)))) (by kernel_rfl) (congrArg (List.replicate 2) (ar (show je v (sm (yY v)) = (je v some).bind _ from (bC (bI rfl) rfl))))
def rQ (v : bc) (r : Unit) : Ex × St := (.normal, aB eS eV (v.2.2.1, v.2.2.2.1, (al v.2.1 (al v.2.1 (al v.2.1 v.1).2).2).2, v.2.2.2.2.1 ++ [(al v.2.1 v.1).1, (al v.2.1 (al v.2.1 v.1).2).1, (al v.2.1 (al v.2.1 (al v.2.1 v.1).2).2).1], ()))
def gm (v : bc) {Z : Type} (κ : Unit -> Option Z) : Option Z := cond (lu v.2.1 v.1) (cond (lu v.2.1 (al v.2.1 v.1).2) (cond (lu v.2.1 (al v.2.1 (al v.2.1 v.1).2).2) (if (v.2.2.2.2.1 ++ [(al v.2.1 v.1).1, (al v.2.1 (al v.2.1 v.1).2).1, (al v.2.1 (al v.2.1 (al v.2.1 v.1).2).2).1] : List (Ty.T y27)).length * 56 <= 140737488351232 then (κ ()) else none) (none)) (none)) (none)
def Pq (v : bc) : Unit := (gm v some).getD ()
def xT (v : bc) : Bool := (gm v some).isSome
def G5 (v : bc) : aR (Ex × St) := .br (xT v) (.done (rQ v (Pq v))) .no
def bV : List (List Nat) := [[0,2,5,8,1,3,6,9,4,7,10,11,12,13,14],[0,2,5,8,1,3,6,4,9,7,10,11,12,13,14],[0,2,5,8,1,3,6,4,7,9,10,11,12,13,14],[0,2,5,8,1,3,9,4,6,7,10,11,12,13,14],[0,2,5,8,1,3,4,6,9,7,10,11,12,13,14],[0,2,5,8,1,3,4,6,7,9,10,11,12,13,14],[0,2,5,8,3,6,9,4,1,7,10,11,12,13,14],[0,2,5,8,3,6,9,4,7,1,10,11,12,13,14],[0,2,5,8,3,6,9,4,7,10,1,11,12,13,14],[0,2,5,8,3,6,4,1,9,7,10,11,12,13,14],[0,2,5,8,3,6,4,1,7,9,10,11,12,13,14],[0,2,5,8,3,6,4,9,7,1,10,11,12,13,14],[0,2,5,8,3,6,4,9,7,10,1,11,12,13,14],[0,2,5,8,3,6,4,7,1,9,10,11,12,13,14],[0,2,5,8,3,6,4,7,9,10,1,11,12,13,14],[0,2,5,8,3,9,4,1,6,7,10,11,12,13,14],[0,2,5,8,3,9,4,6,7,1,10,11,12,13,14],[0,2,5,8,3,9,4,6,7,10,1,11,12,13,14],[0,2,5,8,3,4,1,6,9,7,10,11,12,13,14],[0,2,5,8,3,4,1,6,7,9,10,11,12,13,14],[0,2,5,8,3,4,6,9,7,1,10,11,12,13,14],[0,2,5,8,3,4,6,9,7,10,1,11,12,13,14],[0,2,5,8,3,4,6,7,1,9,10,11,12,13,14],[0,2,5,8,3,4,6,7,9,10,1,11,12,13,14]]
def aU (v : bc) (π : List Nat) : Prop := lv p4.E (aA [true, true, true, true, true, true, true, true, true, true, true, true, true, true, false] (aA (pb 5 27) (ae Tryz.f295))) eS eV (aB eW dV v) π = gm v (sm (rQ v))
theorem Jt (v : bc) : aU v (bV.getD 0 []) := by unfold aU; kernel_rfl
theorem JG (v : bc) : aU v (bV.getD 1 []) := by unfold aU; kernel_rfl
theorem J6 (v : bc) : aU v (bV.getD 2 []) := by unfold aU; kernel_rfl
theorem Ih (v : bc) : aU v (bV.getD 3 []) := by unfold aU; kernel_rfl
theorem JL (v : bc) : aU v (bV.getD 4 []) := by unfold aU; kernel_rfl
theorem HY (v : bc) : aU v (bV.getD 5 []) := by unfold aU; kernel_rfl
theorem H3 (v : bc) : aU v (bV.getD 6 []) := by unfold aU; kernel_rfl
theorem Jx (v : bc) : aU v (bV.getD 7 []) := by unfold aU; kernel_rfl
theorem J2 (v : bc) : aU v (bV.getD 8 []) := by unfold aU; kernel_rfl
theorem J3 (v : bc) : aU v (bV.getD 9 []) := by unfold aU; kernel_rfl
theorem FW (v : bc) : aU v (bV.getD 10 []) := by unfold aU; kernel_rfl
theorem EF (v : bc) : aU v (bV.getD 11 []) := by unfold aU; kernel_rfl
theorem G3 (v : bc) : aU v (bV.getD 12 []) := by unfold aU; kernel_rfl
theorem GL (v : bc) : aU v (bV.getD 13 []) := by unfold aU; kernel_rfl
theorem G4 (v : bc) : aU v (bV.getD 14 []) := by unfold aU; kernel_rfl
theorem FT (v : bc) : aU v (bV.getD 15 []) := by unfold aU; kernel_rfl
theorem Hl (v : bc) : aU v (bV.getD 16 []) := by unfold aU; kernel_rfl
theorem Fe (v : bc) : aU v (bV.getD 17 []) := by unfold aU; kernel_rfl
theorem GJ (v : bc) : aU v (bV.getD 18 []) := by unfold aU; kernel_rfl
theorem EJ (v : bc) : aU v (bV.getD 19 []) := by unfold aU; kernel_rfl
theorem Gs (v : bc) : aU v (bV.getD 20 []) := by unfold aU; kernel_rfl
theorem ET (v : bc) : aU v (bV.getD 21 []) := by unfold aU; kernel_rfl
theorem ER (v : bc) : aU v (bV.getD 22 []) := by unfold aU; kernel_rfl
theorem Gn (v : bc) : aU v (bV.getD 23 []) := by unfold aU; kernel_rfl
theorem Qs (v : bc) : ∀ π ∈ bV, lv p4.E (aA [true, true, true, true, true, true, true, true, true, true, true, true, true, true, false] (aA (pb 5 27) (ae Tryz.f295))) eS eV (aB eW dV v) π = gm v (sm (rQ v)) := aw (Jt v) <| aw (JG v) <| aw (J6 v) <| aw (Ih v) <| aw (JL v) <| aw (HY v) <| aw (H3 v) <| aw (Jx v) <| aw (J2 v) <| aw (J3 v) <| aw (FW v) <| aw (EF v) <| aw (G3 v) <| aw (GL v) <| aw (G4 v) <| aw (FT v) <| aw (Hl v) <| aw (Fe v) <| aw (GJ v) <| aw (EJ v) <| aw (Gs v) <| aw (ET v) <| aw (ER v) <| aw (Gn v) <| B6
theorem Sk : a7 Tryz.prog (aA [true, true, true, true, true, true, true, true, true, true, true, true, true, true, false] (aA (pb 5 27) (ae Tryz.f295))) eW dV G5 := nI (by kernel_rfl) (sx := eS) (gx := eV) p4.ok ai (by kernel_rfl) (by kernel_rfl) fun v π hπ => (Qs v π hπ).trans (ar (show gm v (sm (rQ v)) = (gm v some).bind _ from (bC (bC (bC (bI rfl) rfl) rfl) rfl)))
@[reducible] def A3 : List SP := .one (.ptr 4294967296 0) :: U2 (.one (.ptr 3 0) :: .one (.ptr 4 0) :: .one (.ptr 5 0) :: U4 (U2 (.und :: oI :: .one (.dat .bool true) :: U32 (U16 (U8 (U4 (.und :: [])))))))
@[reducible] def e9 : Type := Int × Bool × (Ty.T af) × (Ty.T y36) × (Ty.T bp) × (Ty.T q0) × (List (Ty.T y27)) × Unit
def wY (v : e9) (r : (Ty.T q0) × (Ty.T af) × (List (Ty.T y27))) : Ex × St := (.normal, aB eS eV (v.2.2.2.2.1, r.1, r.2.1, r.2.2, ()))
def gl (v : e9) {Z : Type} (κ : (Ty.T q0) × (Ty.T af) × (List (Ty.T y27)) -> Option Z) : Option Z := cond v.2.1 (cond (bu [0, 1, 3, 6, 7, 8, 9, 10] v.2.2.1) (κ (((ah [0, 1, 3, 6, 7, 8, 9, 10] v.2.2.1).1, v.2.2.2.2.2.1.2), (ah [0, 1, 3, 6, 7, 8, 9, 10] v.2.2.1).2, v.2.2.2.2.2.2.1)) (none)) (cond (v.1 == (1 : Int)) (cond (uA v.2.2.1) (κ ((v.2.2.2.2.2.1.1, (kc v.2.2.1).1, v.2.2.2.2.2.1.2.2), (kc v.2.2.1).2, v.2.2.2.2.2.2.1)) (none)) (cond (v.1 == (2 : Int)) (cond (bu [0, 1, 99, 100] v.2.2.1) (κ ((v.2.2.2.2.2.1.1, v.2.2.2.2.2.1.2.1, (ah [0, 1, 99, 100] v.2.2.1).1, v.2.2.2.2.2.1.2.2.2), (ah [0, 1, 99, 100] v.2.2.1).2, v.2.2.2.2.2.2.1)) (none)) (cond (v.1 == (3 : Int)) (cond (bu [(-2), 0, 2, 3] v.2.2.1) (κ ((v.2.2.2.2.2.1.1, v.2.2.2.2.2.1.2.1, v.2.2.2.2.2.1.2.2.1, (ah [(-2), 0, 2, 3] v.2.2.1).1, v.2.2.2.2.2.1.2.2.2.2), (ah [(-2), 0, 2, 3] v.2.2.1).2, v.2.2.2.2.2.2.1)) (none)) (cond (v.1 == (4 : Int)) (cond (bu [0, 4, 5] v.2.2.1) (κ ((v.2.2.2.2.2.1.1, v.2.2.2.2.2.1.2.1, v.2.2.2.2.2.1.2.2.1, v.2.2.2.2.2.1.2.2.2.1, (ah [0, 4, 5] v.2.2.1).1, v.2.2.2.2.2.1.2.2.2.2.2), (ah [0, 4, 5] v.2.2.1).2, v.2.2.2.2.2.2.1)) (none)) (cond (v.1 == (5 : Int)) (κ ((v.2.2.2.2.2.1.1, v.2.2.2.2.2.1.2.1, v.2.2.2.2.2.1.2.2.1, v.2.2.2.2.2.1.2.2.2.1, v.2.2.2.2.2.1.2.2.2.2.1, !v.2.2.2.2.2.1.2.2.2.2.2), v.2.2.1, v.2.2.2.2.2.2.1)) (cond (v.1 == (6 : Int)) (cond (zG (v.2.2.1, v.2.2.2.1, v.2.2.2.2.1, v.2.2.2.2.2.1, v.2.2.2.2.2.2.1, ())) (κ (v.2.2.2.2.2.1, (qT v.2.2.2.1 v.2.2.1).2, v.2.2.2.2.2.2.1 ++ [(qT v.2.2.2.1 v.2.2.1).1])) (none)) (cond (v.1 == (7 : Int)) (cond (xT (v.2.2.1, v.2.2.2.1, v.2.2.2.2.1, v.2.2.2.2.2.1, v.2.2.2.2.2.2.1, ())) (κ (v.2.2.2.2.2.1, (al v.2.2.2.1 (al v.2.2.2.1 (al v.2.2.2.1 v.2.2.1).2).2).2, v.2.2.2.2.2.2.1 ++ [(al v.2.2.2.1 v.2.2.1).1, (al v.2.2.2.1 (al v.2.2.2.1 v.2.2.1).2).1, (al v.2.2.2.1 (al v.2.2.2.1 (al v.2.2.2.1 v.2.2.1).2).2).1])) (none)) (κ (v.2.2.2.2.2.1, v.2.2.1, v.2.2.2.2.2.2.1)))))))))
def kR (v : e9) : (Ty.T q0) × (Ty.T af) × (List (Ty.T y27)) := (gl v some).getD ((Ty.zero q0), (Ty.zero af), [])
def yr (v : e9) : Bool := (gl v some).isSome
def Gp (v : e9) : aR (Ex × St) := .br (yr v) (.done (wY v (kR v))) .no
theorem N5 : a7 Tryz.prog (aA (pb 5 27) (ae Tryz.f295)) A3 dV Gp := aS (lt := (aM [true, true, true, true, true, true, true, true, true, true, true, true, true, true, false] (aA (pb 5 27) (ae Tryz.f295)) (aM [true, true, true, true, true, true, true, true, true, true, true, true, false] (aA (pb 5 27) (ae Tryz.f295)) .none (.sum eW dV HF)) (.sum eW dV G5))) (sx := eS) (gx := eV) p4.ok ai (ag.ct (aC (by kernel_rfl)) (ag.ct (aC (by kernel_rfl)) (ag.no _) Nu) Sk) fun v => Eq.trans (b := gl v (sm (wY v))) (by kernel_rfl) (ar (show gl v (sm (wY v)) = (gl v some).bind _ from by unfold gl; simp only [bb]))
def SM := p4.l (g := 295) (t := (aM (pb 5 27) (ae Tryz.f295) (aM [true, false] (ae Tryz.f295) .none (.sum BH Bs F9)) (.sum A3 dV Gp))) (aP Tryz.func295 (ag.ct (aC (by kernel_rfl)) (ag.ct (aC (by kernel_rfl)) (ag.no _) Oe) N5))
def qm (a0 : Ty.T y36) (a1 : Ty.T af) {Z : Type} (κ : (Ty.T q0) × (Ty.T af) × (List (Ty.T y27)) -> Option Z) : Option Z := cond (zq (a1, a0, (0, 0, 0, 0, 0, false, []), ())) (cond (bD 18 (cI a0 (IntKind.wrap .i64 ((1 : Int) + (ab 6 a1).1)) (ab 6 a1).2).2.1) (cond (yr ((ab 18 (cI a0 (IntKind.wrap .i64 ((1 : Int) + (ab 6 a1).1)) (ab 6 a1).2).2.1).1, ((ab 18 (cI a0 (IntKind.wrap .i64 ((1 : Int) + (ab 6 a1).1)) (ab 6 a1).2).2.1).1 == (0 : Int)), (ab 18 (cI a0 (IntKind.wrap .i64 ((1 : Int) + (ab 6 a1).1)) (ab 6 a1).2).2.1).2, a0, (0, 0, 0, 0, 0, false, []), (cI a0 (IntKind.wrap .i64 ((1 : Int) + (ab 6 a1).1)) (ab 6 a1).2).1, (cI a0 (IntKind.wrap .i64 ((1 : Int) + (ab 6 a1).1)) (ab 6 a1).2).2.2, ())) (κ ((kR ((ab 18 (cI a0 (IntKind.wrap .i64 ((1 : Int) + (ab 6 a1).1)) (ab 6 a1).2).2.1).1, ((ab 18 (cI a0 (IntKind.wrap .i64 ((1 : Int) + (ab 6 a1).1)) (ab 6 a1).2).2.1).1 == (0 : Int)), (ab 18 (cI a0 (IntKind.wrap .i64 ((1 : Int) + (ab 6 a1).1)) (ab 6 a1).2).2.1).2, a0, (0, 0, 0, 0, 0, false, []), (cI a0 (IntKind.wrap .i64 ((1 : Int) + (ab 6 a1).1)) (ab 6 a1).2).1, (cI a0 (IntKind.wrap .i64 ((1 : Int) + (ab 6 a1).1)) (ab 6 a1).2).2.2, ())).1, (kR ((ab 18 (cI a0 (IntKind.wrap .i64 ((1 : Int) + (ab 6 a1).1)) (ab 6 a1).2).2.1).1, ((ab 18 (cI a0 (IntKind.wrap .i64 ((1 : Int) + (ab 6 a1).1)) (ab 6 a1).2).2.1).1 == (0 : Int)), (ab 18 (cI a0 (IntKind.wrap .i64 ((1 : Int) + (ab 6 a1).1)) (ab 6 a1).2).2.1).2, a0, (0, 0, 0, 0, 0, false, []), (cI a0 (IntKind.wrap .i64 ((1 : Int) + (ab 6 a1).1)) (ab 6 a1).2).1, (cI a0 (IntKind.wrap .i64 ((1 : Int) + (ab 6 a1).1)) (ab 6 a1).2).2.2, ())).2.1, (kR ((ab 18 (cI a0 (IntKind.wrap .i64 ((1 : Int) + (ab 6 a1).1)) (ab 6 a1).2).2.1).1, ((ab 18 (cI a0 (IntKind.wrap .i64 ((1 : Int) + (ab 6 a1).1)) (ab 6 a1).2).2.1).1 == (0 : Int)), (ab 18 (cI a0 (IntKind.wrap .i64 ((1 : Int) + (ab 6 a1).1)) (ab 6 a1).2).2.1).2, a0, (0, 0, 0, 0, 0, false, []), (cI a0 (IntKind.wrap .i64 ((1 : Int) + (ab 6 a1).1)) (ab 6 a1).2).1, (cI a0 (IntKind.wrap .i64 ((1 : Int) + (ab 6 a1).1)) (ab 6 a1).2).2.2, ())).2.2)) (none)) (none)) (none)
def tN (a0 : Ty.T y36) (a1 : Ty.T af) : (Ty.T q0) × (Ty.T af) × (List (Ty.T y27)) := (qm a0 a1 some).getD ((Ty.zero q0), (Ty.zero af), [])
def Jf (a0 : Ty.T y36) (a1 : Ty.T af) : Bool := (qm a0 a1 some).isSome
def XZ : Gen := ⟨[false, false], [.one (.ptr 4294967296 0), .agg [.dat y36 false]], [(4294967296, .box 222 [.dat af true])], fun v => .br (Jf v.1 v.2.1) (.done (JN (tN v.1 v.2.1))) .no⟩
theorem TO : bw Tryz.prog 295 XZ := bF SM.ok ai (aC (by kernel_rfl)) ⟨Tryz.f295, ae Tryz.f295, by kernel_rfl, by kernel_rfl⟩ fun v => Eq.trans (b := (qm v.1 v.2.1 (sm JN))) (by kernel_rfl) (ar (show qm v.1 v.2.1 (sm JN) = (qm v.1 v.2.1 some).bind _ from (bC (bC (bC rfl rfl) rfl) rfl)))
def IL (r : (Ty.T q1) × (Ty.T a9) × (Ty.T af) × (List (Ty.T y27))) : AV × Sig := (.agg ((q1.cells false r.1) ++ [.sl 33632256] ++ (a9.cells false r.2.1)), [(4294967296, .box 222 ((af.cells true r.2.2.1))), (33632256, .arr 41 y27 r.2.2.2 false)])
def JC := ((((((E0.g dm).g dN).g DD).g TN).g Sm).g TO)
@[reducible] def BU : List SP := .one (.ptr 4294967296 0) :: U2 (.one (.ptr 3 0) :: .one (.ptr 4 0) :: U32 (U16 (U8 (U4 (U2 (.und :: []))))))
@[reducible] def BF : List (Nat × GP) := [(4294967296, .box 222 [.dat af true]), (3, .box 37 [.dat y36 false]), (4, .box 109 [.dat aa false])]
@[reducible] def ji : Type := (Ty.T af) × (Ty.T y36) × (Ty.T aa) × Unit
@[reducible] def Bm : List SP := .one (.ptr 4294967296 0) :: U2 (.one (.ptr 3 0) :: .one (.ptr 4 0) :: .one (.ptr 5 0) :: U32 (U16 (U8 (U4 (U2 ([]))))))
@[reducible] def o6 : List (Nat × GP) := [(4294967296, .box 222 [.dat af true]), (3, .box 37 [.dat y36 false]), (4, .box 109 [.dat aa false]), (5, .box 109 [.dat q1 false, .own 33632267, .dat a9 false]), (33632267, .arr 41 y27 false)]
def wN (v : ji) (r : Unit) : Ex × St := (.normal, aB Bm o6 ((aq v.2.1 (IntKind.wrap .i64 ((1 : Int) + (ab 9 v.1).1)) (ab 9 v.1).2).2.2.1, v.2.1, v.2.2.1, (aq v.2.1 (IntKind.wrap .i64 ((1 : Int) + (ab 9 v.1).1)) (ab 9 v.1).2).1, (aq v.2.1 (IntKind.wrap .i64 ((1 : Int) + (ab 9 v.1).1)) (ab 9 v.1).2).2.1, (aq v.2.1 (IntKind.wrap .i64 ((1 : Int) + (ab 9 v.1).1)) (ab 9 v.1).2).2.2.2, ()))
def iy (v : ji) {Z : Type} (κ : Unit -> Option Z) : Option Z := cond (bD 9 v.1) (cond (q5 v.2.1 (IntKind.wrap .i64 ((1 : Int) + (ab 9 v.1).1)) (ab 9 v.1).2) (κ ()) (none)) (none)
def Qi (v : ji) : Unit := (iy v some).getD ()
def zS (v : ji) : Bool := (iy v some).isSome
def Gq (v : ji) : aR (Ex × St) := .br (zS v) (.done (wN v (Qi v))) .no
theorem Q7 : a7 Tryz.prog (aA [true, false] (ae Tryz.f236)) BU BF Gq := bP (by kernel_rfl) (sx := Bm) (gx := o6) JC.ok ai (by kernel_rfl) 6 fun v => Eq.trans (b := List.replicate 6 (iy v (sm (wN v)))) (by kernel_rfl) (congrArg (List.replicate 6) (ar (show iy v (sm (wN v)) = (iy v some).bind _ from (bC (bC rfl rfl) rfl))))
@[reducible] def AX : List SP := .one (.ptr 4294967296 0) :: U2 (.one (.ptr 3 0) :: .one (.ptr 4 0) :: .one (.ptr 5 0) :: U4 (U2 (.und :: oI :: .one (.dat .bool true) :: U32 (U16 (U4 (.und :: []))))))
@[reducible] def fe : Type := Int × Bool × (Ty.T af) × (Ty.T y36) × (Ty.T aa) × (Ty.T q1) × (Ty.T a9) × (List (Ty.T y27)) × Unit
@[reducible] def AN : List SP := U4 (.one (.ptr 4 0) :: .one (.ptr 5 0) :: U32 (U16 (U8 (U4 (U2 ([]))))))
@[reducible] def Bn : List (Nat × GP) := [(4, .box 109 [.dat aa false]), (5, .box 109 [.dat q1 false, .own 33632267, .dat a9 false]), (4294967296, .box 222 [.dat af true]), (33632267, .arr 41 y27 false)]
def zf (v : fe) (r : (Ty.T q1) × (Ty.T a9) × (Ty.T af) × (List (Ty.T y27))) : Ex × St := (.normal, aB AN Bn (v.2.2.2.2.1, r.1, r.2.1, r.2.2.1, r.2.2.2, ()))
def gj (v : fe) {Z : Type} (κ : (Ty.T q1) × (Ty.T a9) × (Ty.T af) × (List (Ty.T y27)) -> Option Z) : Option Z := cond v.2.1 (cond (bu [0, 99, 100] v.2.2.1) (κ (((ah [0, 99, 100] v.2.2.1).1, v.2.2.2.2.2.1.2), v.2.2.2.2.2.2.1, (ah [0, 99, 100] v.2.2.1).2, v.2.2.2.2.2.2.2.1)) (none)) (cond (v.1 == (1 : Int)) (cond (bu [(-1), 2, 3] v.2.2.1) (κ ((v.2.2.2.2.2.1.1, (ah [(-1), 2, 3] v.2.2.1).1, v.2.2.2.2.2.1.2.2), v.2.2.2.2.2.2.1, (ah [(-1), 2, 3] v.2.2.1).2, v.2.2.2.2.2.2.2.1)) (none)) (cond (v.1 == (2 : Int)) (cond (bu [(-1), 0, 99, 100] v.2.2.1) (κ ((v.2.2.2.2.2.1.1, v.2.2.2.2.2.1.2.1, (ah [(-1), 0, 99, 100] v.2.2.1).1, v.2.2.2.2.2.1.2.2.2), v.2.2.2.2.2.2.1, (ah [(-1), 0, 99, 100] v.2.2.1).2, v.2.2.2.2.2.2.2.1)) (none)) (cond (v.1 == (3 : Int)) (cond (bu [(-1), 0, 5] v.2.2.1) (κ ((v.2.2.2.2.2.1.1, v.2.2.2.2.2.1.2.1, v.2.2.2.2.2.1.2.2.1, (ah [(-1), 0, 5] v.2.2.1).1, v.2.2.2.2.2.1.2.2.2.2), v.2.2.2.2.2.2.1, (ah [(-1), 0, 5] v.2.2.1).2, v.2.2.2.2.2.2.2.1)) (none)) (cond (v.1 == (4 : Int)) (cond (H4 v.2.2.2.1 v.2.2.1) (κ ((v.2.2.2.2.2.1.1, v.2.2.2.2.2.1.2.1, v.2.2.2.2.2.1.2.2.1, v.2.2.2.2.2.1.2.2.2.1, (DI v.2.2.2.1 v.2.2.1).1, v.2.2.2.2.2.1.2.2.2.2.2), v.2.2.2.2.2.2.1, (DI v.2.2.2.1 v.2.2.1).2, v.2.2.2.2.2.2.2.1)) (none)) (cond (v.1 == (5 : Int)) (cond (Ja v.2.2.1) (κ ((v.2.2.2.2.2.1.1, v.2.2.2.2.2.1.2.1, v.2.2.2.2.2.1.2.2.1, v.2.2.2.2.2.1.2.2.2.1, v.2.2.2.2.2.1.2.2.2.2.1, (Cy v.2.2.1).1, v.2.2.2.2.2.1.2.2.2.2.2.2), v.2.2.2.2.2.2.1, (Cy v.2.2.1).2, v.2.2.2.2.2.2.2.1)) (none)) (cond (v.1 == (6 : Int)) (cond (Jf v.2.2.2.1 v.2.2.1) (κ ((v.2.2.2.2.2.1.1, v.2.2.2.2.2.1.2.1, v.2.2.2.2.2.1.2.2.1, v.2.2.2.2.2.1.2.2.2.1, v.2.2.2.2.2.1.2.2.2.2.1, v.2.2.2.2.2.1.2.2.2.2.2.1, (tN v.2.2.2.1 v.2.2.1).1), v.2.2.2.2.2.2.1, (tN v.2.2.2.1 v.2.2.1).2.1, (tN v.2.2.2.1 v.2.2.1).2.2)) (none)) (cond (v.1 == (7 : Int)) (cond (bu [(-2), 0, 9999, 10000] v.2.2.1) (κ (v.2.2.2.2.2.1, ((ah [(-2), 0, 9999, 10000] v.2.2.1).1, v.2.2.2.2.2.2.1.2), (ah [(-2), 0, 9999, 10000] v.2.2.1).2, v.2.2.2.2.2.2.2.1)) (none)) (cond (v.1 == (8 : Int)) (cond (bu [(-2), (-1), 0, 1, 2147483648] v.2.2.1) (κ (v.2.2.2.2.2.1, (v.2.2.2.2.2.2.1.1, (ah [(-2), (-1), 0, 1, 2147483648] v.2.2.1).1), (ah [(-2), (-1), 0, 1, 2147483648] v.2.2.1).2, v.2.2.2.2.2.2.2.1)) (none)) (κ (v.2.2.2.2.2.1, v.2.2.2.2.2.2.1, v.2.2.1, v.2.2.2.2.2.2.2.1))))))))))
def rK (v : fe) : (Ty.T q1) × (Ty.T a9) × (Ty.T af) × (List (Ty.T y27)) := (gj v some).getD ((Ty.zero q1), (Ty.zero a9), (Ty.zero af), [])
def yi (v : fe) : Bool := (gj v some).isSome
def EO (v : fe) : aR (Ex × St) := .br (yi v) (.done (zf v (rK v))) .no
theorem Pf : a7 Tryz.prog (aA (pb 5 27) (ae Tryz.f236)) AX o6 EO := aS (lt := .none) (sx := AN) (gx := Bn) JC.ok ai (ag.no _) fun v => Eq.trans (b := gj v (sm (zf v))) (by kernel_rfl) (ar (show gj v (sm (zf v)) = (gj v some).bind _ from by unfold gj; simp only [bb]))
def To := JC.l (g := 236) (t := (aM (pb 5 27) (ae Tryz.f236) (aM [true, false] (ae Tryz.f236) .none (.sum BU BF Gq)) (.sum AX o6 EO))) (aP Tryz.func236 (ag.ct (aC (by kernel_rfl)) (ag.ct (aC (by kernel_rfl)) (ag.no _) Q7) Pf))
def cV (a0 : Ty.T y36) (a1 : Ty.T af) := (aq a0 (IntKind.wrap .i64 ((1 : Int) + (ab 9 a1).1)) (ab 9 a1).2)
def gr (a0 : Ty.T y36) (a1 : Ty.T af) := (rK ((ab 20 (cV a0 a1).2.2.1).1, ((ab 20 (cV a0 a1).2.2.1).1 == (0 : Int)), (ab 20 (cV a0 a1).2.2.1).2, a0, (0, 0, 0, 0, (0, 0, 0, 0, 0, 0, 0), (0, 0), (0, 0, 0, 0, 0, false, []), 0, 0), (cV a0 a1).1, (cV a0 a1).2.1, (cV a0 a1).2.2.2, ()))
def p6 (a0 : Ty.T y36) (a1 : Ty.T af) {Z : Type} (κ : (Ty.T q1) × (Ty.T a9) × (Ty.T af) × (List (Ty.T y27)) -> Option Z) : Option Z := cond (zS (a1, a0, (0, 0, 0, 0, (0, 0, 0, 0, 0, 0, 0), (0, 0), (0, 0, 0, 0, 0, false, []), 0, 0), ())) (cond (bD 20 (cV a0 a1).2.2.1) (cond (yi ((ab 20 (cV a0 a1).2.2.1).1, ((ab 20 (cV a0 a1).2.2.1).1 == (0 : Int)), (ab 20 (cV a0 a1).2.2.1).2, a0, (0, 0, 0, 0, (0, 0, 0, 0, 0, 0, 0), (0, 0), (0, 0, 0, 0, 0, false, []), 0, 0), (cV a0 a1).1, (cV a0 a1).2.1, (cV a0 a1).2.2.2, ())) (κ ((gr a0 a1).1, (gr a0 a1).2.1, (gr a0 a1).2.2.1, (gr a0 a1).2.2.2)) (none)) (none)) (none)
def bE (a0 : Ty.T y36) (a1 : Ty.T af) : (Ty.T q1) × (Ty.T a9) × (Ty.T af) × (List (Ty.T y27)) := (p6 a0 a1 some).getD ((Ty.zero q1), (Ty.zero a9), (Ty.zero af), [])
def Dg (a0 : Ty.T y36) (a1 : Ty.T af) : Bool := (p6 a0 a1 some).isSome
def V1 : Gen := ⟨[false, false], [.one (.ptr 4294967296 0), .agg [.dat y36 false]], [(4294967296, .box 222 [.dat af true])], fun v => .br (Dg v.1 v.2.1) (.done (IL (bE v.1 v.2.1))) .no⟩
theorem S2 : bw Tryz.prog 236 V1 := bF To.ok ai (aC (by kernel_rfl)) ⟨Tryz.f236, ae Tryz.f236, by kernel_rfl, by kernel_rfl⟩ fun v => Eq.trans (b := (p6 v.1 v.2.1 (sm IL))) (by kernel_rfl) (ar (show p6 v.1 v.2.1 (sm IL) = (p6 v.1 v.2.1 some).bind _ from (bC (bC (bC rfl rfl) rfl) rfl)))
def Iy (r : (Ty.T af) × (List (Ty.T aa))) : AV × Sig := (.one (.sl 33554432), [(4294967296, .box 222 ((af.cells true r.1))), (33554432, .arr 109 aa r.2 false)])
def JI := ((((E0.g dm).g Li).g DD).g S2)
@[reducible] def Bd : List SP := .one (.ptr 4294967296 0) :: U2 (.one (.ptr 3 0) :: .one (.dat (.sl 109 aa) false) :: .one (.own 33554440) :: U32 (U4 (U2 ([]))))
@[reducible] def oY : List (Nat × GP) := [(4294967296, .box 222 [.dat af true]), (3, .box 37 [.dat y36 false]), (33554440, .arr 109 aa false)]
@[reducible] def dZ : Type := (List (Ty.T aa)) × (Ty.T af) × (Ty.T y36) × (List (Ty.T aa)) × Unit
@[reducible] def oZ : List SP := U4 (.one (.dat (.sl 109 aa) false) :: .one (.own 33554440) :: U32 (U4 (U2 ([]))))
@[reducible] def oG : List (Nat × GP) := [(4294967296, .box 222 [.dat af true]), (33554440, .arr 109 aa false)]
def dv (v : dZ) := (aq v.2.2.1 52 (aq v.2.2.1 51 (aq v.2.2.1 50 v.2.1).2.2.1).2.2.1)
def zI (v : dZ) (r : Unit) : Ex × St := (.normal, aB oZ oG (v.1, (dv v).2.2.1, v.2.2.2.1 ++ [((aq v.2.2.1 50 v.2.1).1.1, (aq v.2.2.1 50 v.2.1).1.2.1, (aq v.2.2.1 50 v.2.1).1.2.2.1, (aq v.2.2.1 50 v.2.1).1.2.2.2.1, (aq v.2.2.1 50 v.2.1).1.2.2.2.2.1, (aq v.2.2.1 50 v.2.1).1.2.2.2.2.2.1, ((aq v.2.2.1 50 v.2.1).1.2.2.2.2.2.2.1, (aq v.2.2.1 50 v.2.1).1.2.2.2.2.2.2.2.1, (aq v.2.2.1 50 v.2.1).1.2.2.2.2.2.2.2.2.1, (aq v.2.2.1 50 v.2.1).1.2.2.2.2.2.2.2.2.2.1, (aq v.2.2.1 50 v.2.1).1.2.2.2.2.2.2.2.2.2.2.1, (aq v.2.2.1 50 v.2.1).1.2.2.2.2.2.2.2.2.2.2.2, (aq v.2.2.1 50 v.2.1).2.2.2), (aq v.2.2.1 50 v.2.1).2.1), ((aq v.2.2.1 51 (aq v.2.2.1 50 v.2.1).2.2.1).1.1, (aq v.2.2.1 51 (aq v.2.2.1 50 v.2.1).2.2.1).1.2.1, (aq v.2.2.1 51 (aq v.2.2.1 50 v.2.1).2.2.1).1.2.2.1, (aq v.2.2.1 51 (aq v.2.2.1 50 v.2.1).2.2.1).1.2.2.2.1, (aq v.2.2.1 51 (aq v.2.2.1 50 v.2.1).2.2.1).1.2.2.2.2.1, (aq v.2.2.1 51 (aq v.2.2.1 50 v.2.1).2.2.1).1.2.2.2.2.2.1, ((aq v.2.2.1 51 (aq v.2.2.1 50 v.2.1).2.2.1).1.2.2.2.2.2.2.1, (aq v.2.2.1 51 (aq v.2.2.1 50 v.2.1).2.2.1).1.2.2.2.2.2.2.2.1, (aq v.2.2.1 51 (aq v.2.2.1 50 v.2.1).2.2.1).1.2.2.2.2.2.2.2.2.1, (aq v.2.2.1 51 (aq v.2.2.1 50 v.2.1).2.2.1).1.2.2.2.2.2.2.2.2.2.1, (aq v.2.2.1 51 (aq v.2.2.1 50 v.2.1).2.2.1).1.2.2.2.2.2.2.2.2.2.2.1, (aq v.2.2.1 51 (aq v.2.2.1 50 v.2.1).2.2.1).1.2.2.2.2.2.2.2.2.2.2.2, (aq v.2.2.1 51 (aq v.2.2.1 50 v.2.1).2.2.1).2.2.2), (aq v.2.2.1 51 (aq v.2.2.1 50 v.2.1).2.2.1).2.1), ((dv v).1.1, (dv v).1.2.1, (dv v).1.2.2.1, (dv v).1.2.2.2.1, (dv v).1.2.2.2.2.1, (dv v).1.2.2.2.2.2.1, ((dv v).1.2.2.2.2.2.2.1, (dv v).1.2.2.2.2.2.2.2.1, (dv v).1.2.2.2.2.2.2.2.2.1, (dv v).1.2.2.2.2.2.2.2.2.2.1, (dv v).1.2.2.2.2.2.2.2.2.2.2.1, (dv v).1.2.2.2.2.2.2.2.2.2.2.2, (dv v).2.2.2), (dv v).2.1)], ()))
def cQ (v : dZ) := (aq v.2.2.1 52 (aq v.2.2.1 51 (aq v.2.2.1 50 v.2.1).2.2.1).2.2.1)
def iz (v : dZ) {Z : Type} (κ : Unit -> Option Z) : Option Z := cond (q5 v.2.2.1 50 v.2.1) (cond (q5 v.2.2.1 51 (aq v.2.2.1 50 v.2.1).2.2.1) (cond (q5 v.2.2.1 52 (aq v.2.2.1 51 (aq v.2.2.1 50 v.2.1).2.2.1).2.2.1) (if (v.2.2.2.1 ++ [((aq v.2.2.1 50 v.2.1).1.1, (aq v.2.2.1 50 v.2.1).1.2.1, (aq v.2.2.1 50 v.2.1).1.2.2.1, (aq v.2.2.1 50 v.2.1).1.2.2.2.1, (aq v.2.2.1 50 v.2.1).1.2.2.2.2.1, (aq v.2.2.1 50 v.2.1).1.2.2.2.2.2.1, ((aq v.2.2.1 50 v.2.1).1.2.2.2.2.2.2.1, (aq v.2.2.1 50 v.2.1).1.2.2.2.2.2.2.2.1, (aq v.2.2.1 50 v.2.1).1.2.2.2.2.2.2.2.2.1, (aq v.2.2.1 50 v.2.1).1.2.2.2.2.2.2.2.2.2.1, (aq v.2.2.1 50 v.2.1).1.2.2.2.2.2.2.2.2.2.2.1, (aq v.2.2.1 50 v.2.1).1.2.2.2.2.2.2.2.2.2.2.2, (aq v.2.2.1 50 v.2.1).2.2.2), (aq v.2.2.1 50 v.2.1).2.1), ((aq v.2.2.1 51 (aq v.2.2.1 50 v.2.1).2.2.1).1.1, (aq v.2.2.1 51 (aq v.2.2.1 50 v.2.1).2.2.1).1.2.1, (aq v.2.2.1 51 (aq v.2.2.1 50 v.2.1).2.2.1).1.2.2.1, (aq v.2.2.1 51 (aq v.2.2.1 50 v.2.1).2.2.1).1.2.2.2.1, (aq v.2.2.1 51 (aq v.2.2.1 50 v.2.1).2.2.1).1.2.2.2.2.1, (aq v.2.2.1 51 (aq v.2.2.1 50 v.2.1).2.2.1).1.2.2.2.2.2.1, ((aq v.2.2.1 51 (aq v.2.2.1 50 v.2.1).2.2.1).1.2.2.2.2.2.2.1, (aq v.2.2.1 51 (aq v.2.2.1 50 v.2.1).2.2.1).1.2.2.2.2.2.2.2.1, (aq v.2.2.1 51 (aq v.2.2.1 50 v.2.1).2.2.1).1.2.2.2.2.2.2.2.2.1, (aq v.2.2.1 51 (aq v.2.2.1 50 v.2.1).2.2.1).1.2.2.2.2.2.2.2.2.2.1, (aq v.2.2.1 51 (aq v.2.2.1 50 v.2.1).2.2.1).1.2.2.2.2.2.2.2.2.2.2.1, (aq v.2.2.1 51 (aq v.2.2.1 50 v.2.1).2.2.1).1.2.2.2.2.2.2.2.2.2.2.2, (aq v.2.2.1 51 (aq v.2.2.1 50 v.2.1).2.2.1).2.2.2), (aq v.2.2.1 51 (aq v.2.2.1 50 v.2.1).2.2.1).2.1), ((cQ v).1.1, (cQ v).1.2.1, (cQ v).1.2.2.1, (cQ v).1.2.2.2.1, (cQ v).1.2.2.2.2.1, (cQ v).1.2.2.2.2.2.1, ((cQ v).1.2.2.2.2.2.2.1, (cQ v).1.2.2.2.2.2.2.2.1, (cQ v).1.2.2.2.2.2.2.2.2.1, (cQ v).1.2.2.2.2.2.2.2.2.2.1, (cQ v).1.2.2.2.2.2.2.2.2.2.2.1, (cQ v).1.2.2.2.2.2.2.2.2.2.2.2, (cQ v).2.2.2), (cQ v).2.1)] : List (Ty.T aa)).length * 192 <= 140737488351232 then (κ ()) else none) (none)) (none)) (none)
def Qb (v : dZ) : Unit := (iz v some).getD ()
def y6 (v : dZ) : Bool := (iz v some).isSome
def EP (v : dZ) : aR (Ex × St) := .br (y6 v) (.done (zI v (Qb v))) .no
theorem OT : a7 Tryz.prog (aA [true, true, false] (aA (pb 5 27) (ae Tryz.f150))) Bd oY EP := bP (by kernel_rfl) (sx := oZ) (gx := oG) JI.ok ai (by kernel_rfl) 6 fun v => Eq.trans (b := List.replicate 6 (iz v (sm (zI v)))) (by kernel_rfl) (congrArg (List.replicate 6) (ar (show iz v (sm (zI v)) = (iz v some).bind _ from (bC (bC (bC (bI rfl) rfl) rfl) rfl))))
@[reducible] def A5 : List SP := .one (.ptr 4294967296 0) :: U2 (.one (.ptr 3 0) :: .one (.dat (.sl 109 aa) false) :: .one (.own 33554440) :: U4 (oI :: .one (.dat .bool true) :: U32 ([])))
@[reducible] def dR : Type := (List (Ty.T aa)) × Int × Bool × (Ty.T af) × (Ty.T y36) × (List (Ty.T aa)) × Unit
def yM (v : dR) (r : (Ty.T af) × (List (Ty.T aa))) : Ex × St := (.normal, aB oZ oG (v.1, r.1, r.2, ()))
def bB (v : dR) := (aq v.2.2.2.2.1 51 (aq v.2.2.2.2.1 50 v.2.2.2.1).2.2.1)
def fZ (v : dR) {Z : Type} (κ : (Ty.T af) × (List (Ty.T aa)) -> Option Z) : Option Z := cond v.2.2.1 (cond (Dg v.2.2.2.2.1 v.2.2.2.1) (if (v.2.2.2.2.2.1 ++ [((bE v.2.2.2.2.1 v.2.2.2.1).1.1, (bE v.2.2.2.2.1 v.2.2.2.1).1.2.1, (bE v.2.2.2.2.1 v.2.2.2.1).1.2.2.1, (bE v.2.2.2.2.1 v.2.2.2.1).1.2.2.2.1, (bE v.2.2.2.2.1 v.2.2.2.1).1.2.2.2.2.1, (bE v.2.2.2.2.1 v.2.2.2.1).1.2.2.2.2.2.1, ((bE v.2.2.2.2.1 v.2.2.2.1).1.2.2.2.2.2.2.1, (bE v.2.2.2.2.1 v.2.2.2.1).1.2.2.2.2.2.2.2.1, (bE v.2.2.2.2.1 v.2.2.2.1).1.2.2.2.2.2.2.2.2.1, (bE v.2.2.2.2.1 v.2.2.2.1).1.2.2.2.2.2.2.2.2.2.1, (bE v.2.2.2.2.1 v.2.2.2.1).1.2.2.2.2.2.2.2.2.2.2.1, (bE v.2.2.2.2.1 v.2.2.2.1).1.2.2.2.2.2.2.2.2.2.2.2, (bE v.2.2.2.2.1 v.2.2.2.1).2.2.2), (bE v.2.2.2.2.1 v.2.2.2.1).2.1)] : List (Ty.T aa)).length * 192 <= 140737488351232 then (κ ((bE v.2.2.2.2.1 v.2.2.2.1).2.2.1, v.2.2.2.2.2.1 ++ [((bE v.2.2.2.2.1 v.2.2.2.1).1.1, (bE v.2.2.2.2.1 v.2.2.2.1).1.2.1, (bE v.2.2.2.2.1 v.2.2.2.1).1.2.2.1, (bE v.2.2.2.2.1 v.2.2.2.1).1.2.2.2.1, (bE v.2.2.2.2.1 v.2.2.2.1).1.2.2.2.2.1, (bE v.2.2.2.2.1 v.2.2.2.1).1.2.2.2.2.2.1, ((bE v.2.2.2.2.1 v.2.2.2.1).1.2.2.2.2.2.2.1, (bE v.2.2.2.2.1 v.2.2.2.1).1.2.2.2.2.2.2.2.1, (bE v.2.2.2.2.1 v.2.2.2.1).1.2.2.2.2.2.2.2.2.1, (bE v.2.2.2.2.1 v.2.2.2.1).1.2.2.2.2.2.2.2.2.2.1, (bE v.2.2.2.2.1 v.2.2.2.1).1.2.2.2.2.2.2.2.2.2.2.1, (bE v.2.2.2.2.1 v.2.2.2.1).1.2.2.2.2.2.2.2.2.2.2.2, (bE v.2.2.2.2.1 v.2.2.2.1).2.2.2), (bE v.2.2.2.2.1 v.2.2.2.1).2.1)])) else none) (none)) (cond (v.2.1 == (1 : Int)) (cond (y6 (v.1, v.2.2.2.1, v.2.2.2.2.1, v.2.2.2.2.2.1, ())) (κ ((aq v.2.2.2.2.1 52 (bB v).2.2.1).2.2.1, v.2.2.2.2.2.1 ++ [((aq v.2.2.2.2.1 50 v.2.2.2.1).1.1, (aq v.2.2.2.2.1 50 v.2.2.2.1).1.2.1, (aq v.2.2.2.2.1 50 v.2.2.2.1).1.2.2.1, (aq v.2.2.2.2.1 50 v.2.2.2.1).1.2.2.2.1, (aq v.2.2.2.2.1 50 v.2.2.2.1).1.2.2.2.2.1, (aq v.2.2.2.2.1 50 v.2.2.2.1).1.2.2.2.2.2.1, ((aq v.2.2.2.2.1 50 v.2.2.2.1).1.2.2.2.2.2.2.1, (aq v.2.2.2.2.1 50 v.2.2.2.1).1.2.2.2.2.2.2.2.1, (aq v.2.2.2.2.1 50 v.2.2.2.1).1.2.2.2.2.2.2.2.2.1, (aq v.2.2.2.2.1 50 v.2.2.2.1).1.2.2.2.2.2.2.2.2.2.1, (aq v.2.2.2.2.1 50 v.2.2.2.1).1.2.2.2.2.2.2.2.2.2.2.1, (aq v.2.2.2.2.1 50 v.2.2.2.1).1.2.2.2.2.2.2.2.2.2.2.2, (aq v.2.2.2.2.1 50 v.2.2.2.1).2.2.2), (aq v.2.2.2.2.1 50 v.2.2.2.1).2.1), ((bB v).1.1, (bB v).1.2.1, (bB v).1.2.2.1, (bB v).1.2.2.2.1, (bB v).1.2.2.2.2.1, (bB v).1.2.2.2.2.2.1, ((bB v).1.2.2.2.2.2.2.1, (bB v).1.2.2.2.2.2.2.2.1, (bB v).1.2.2.2.2.2.2.2.2.1, (bB v).1.2.2.2.2.2.2.2.2.2.1, (bB v).1.2.2.2.2.2.2.2.2.2.2.1, (bB v).1.2.2.2.2.2.2.2.2.2.2.2, (bB v).2.2.2), (bB v).2.1), ((aq v.2.2.2.2.1 52 (bB v).2.2.1).1.1, (aq v.2.2.2.2.1 52 (bB v).2.2.1).1.2.1, (aq v.2.2.2.2.1 52 (bB v).2.2.1).1.2.2.1, (aq v.2.2.2.2.1 52 (bB v).2.2.1).1.2.2.2.1, (aq v.2.2.2.2.1 52 (bB v).2.2.1).1.2.2.2.2.1, (aq v.2.2.2.2.1 52 (bB v).2.2.1).1.2.2.2.2.2.1, ((aq v.2.2.2.2.1 52 (bB v).2.2.1).1.2.2.2.2.2.2.1, (aq v.2.2.2.2.1 52 (bB v).2.2.1).1.2.2.2.2.2.2.2.1, (aq v.2.2.2.2.1 52 (bB v).2.2.1).1.2.2.2.2.2.2.2.2.1, (aq v.2.2.2.2.1 52 (bB v).2.2.1).1.2.2.2.2.2.2.2.2.2.1, (aq v.2.2.2.2.1 52 (bB v).2.2.1).1.2.2.2.2.2.2.2.2.2.2.1, (aq v.2.2.2.2.1 52 (bB v).2.2.1).1.2.2.2.2.2.2.2.2.2.2.2, (aq v.2.2.2.2.1 52 (bB v).2.2.1).2.2.2), (aq v.2.2.2.2.1 52 (bB v).2.2.1).2.1)])) (none)) (cond (v.2.1 == (2 : Int)) (cond (decide (((v.2.2.2.2.2.1).length : Int) > (0 : Int))) (cond (Dg v.2.2.2.2.1 v.2.2.2.1) (if (0 : Int) < ((v.2.2.2.2.2.1).length : Int) then (bq ((v.2.2.2.2.2.1)[0]?) (fun x1 => κ ((bE v.2.2.2.2.1 v.2.2.2.1).2.2.1, v.2.2.2.2.2.1.set 0 ((bE v.2.2.2.2.1 v.2.2.2.1).1.1, (bE v.2.2.2.2.1 v.2.2.2.1).1.2.1, (bE v.2.2.2.2.1 v.2.2.2.1).1.2.2.1, (bE v.2.2.2.2.1 v.2.2.2.1).1.2.2.2.1, (bE v.2.2.2.2.1 v.2.2.2.1).1.2.2.2.2.1, (bE v.2.2.2.2.1 v.2.2.2.1).1.2.2.2.2.2.1, ((bE v.2.2.2.2.1 v.2.2.2.1).1.2.2.2.2.2.2.1, (bE v.2.2.2.2.1 v.2.2.2.1).1.2.2.2.2.2.2.2.1, (bE v.2.2.2.2.1 v.2.2.2.1).1.2.2.2.2.2.2.2.2.1, (bE v.2.2.2.2.1 v.2.2.2.1).1.2.2.2.2.2.2.2.2.2.1, (bE v.2.2.2.2.1 v.2.2.2.1).1.2.2.2.2.2.2.2.2.2.2.1, (bE v.2.2.2.2.1 v.2.2.2.1).1.2.2.2.2.2.2.2.2.2.2.2, (bE v.2.2.2.2.1 v.2.2.2.1).2.2.2), (bE v.2.2.2.2.1 v.2.2.2.1).2.1)))) else none) (none)) (κ (v.2.2.2.1, v.2.2.2.2.2.1))) (κ (v.2.2.2.1, v.2.2.2.2.2.1))))
def nH (v : dR) : (Ty.T af) × (List (Ty.T aa)) := (fZ v some).getD ((Ty.zero af), [])
def yQ (v : dR) : Bool := (fZ v some).isSome
def Hc (v : dR) : aR (Ex × St) := .br (yQ v) (.done (yM v (nH v))) .no
theorem OL : a7 Tryz.prog (aA (pb 5 27) (ae Tryz.f150)) A5 oY Hc := aS (lt := (aM [true, true, false] (aA (pb 5 27) (ae Tryz.f150)) .none (.sum Bd oY EP))) (sx := oZ) (gx := oG) JI.ok ai (ag.ct (aC (by kernel_rfl)) (ag.no _) OT) fun v => Eq.trans (b := fZ v (sm (yM v))) (by kernel_rfl) (ar (show fZ v (sm (yM v)) = (fZ v some).bind _ from by unfold fZ; simp only [bb]))
def S3 := JI.l (g := 150) (t := (aM (pb 5 27) (ae Tryz.f150) .none (.sum A5 oY Hc))) (aP Tryz.func150 (ag.ct (aC (by kernel_rfl)) (ag.no _) OL))
def qS (a0 : Ty.T y36) (a1 : Ty.T af) {Z : Type} (κ : (Ty.T af) × (List (Ty.T aa)) -> Option Z) : Option Z := cond (z8 a0 a1) (cond (bD 12 (bX a0 a1).1) (cond (yQ ([], (ab 12 (bX a0 a1).1).1, ((ab 12 (bX a0 a1).1).1 == (0 : Int)), (ab 12 (bX a0 a1).1).2, a0, (bX a0 a1).2, ())) (κ ((nH ([], (ab 12 (bX a0 a1).1).1, ((ab 12 (bX a0 a1).1).1 == (0 : Int)), (ab 12 (bX a0 a1).1).2, a0, (bX a0 a1).2, ())).1, (nH ([], (ab 12 (bX a0 a1).1).1, ((ab 12 (bX a0 a1).1).1 == (0 : Int)), (ab 12 (bX a0 a1).1).2, a0, (bX a0 a1).2, ())).2)) (none)) (none)) (none)
def tK (a0 : Ty.T y36) (a1 : Ty.T af) : (Ty.T af) × (List (Ty.T aa)) := (qS a0 a1 some).getD ((Ty.zero af), [])
def Ew (a0 : Ty.T y36) (a1 : Ty.T af) : Bool := (qS a0 a1 some).isSome
def Xx : Gen := ⟨[false, false], [.one (.ptr 4294967296 0), .agg [.dat y36 false]], [(4294967296, .box 222 [.dat af true])], fun v => .br (Ew v.1 v.2.1) (.done (Iy (tK v.1 v.2.1))) .no⟩
theorem SZ : bw Tryz.prog 150 Xx := bF S3.ok ai (aC (by kernel_rfl)) ⟨Tryz.f150, ae Tryz.f150, by kernel_rfl, by kernel_rfl⟩ fun v => Eq.trans (b := (qS v.1 v.2.1 (sm Iy))) (by kernel_rfl) (ar (show qS v.1 v.2.1 (sm Iy) = (qS v.1 v.2.1 some).bind _ from (bC (bC (bC rfl rfl) rfl) rfl)))
def f63 (r : (List (Ty.T aa))) : AV × Sig := (.one (.sl 4096), [(4096, .arr 109 aa r false)])
def E63 := (((E0.g Kw).g SZ).p HG)
def t63 (a0 : List (Ty.T (.int .u8))) {Z : Type} (κ : (List (Ty.T aa)) -> Option Z) : Option Z := cond (d116 a0) (cond (sM (cO a0)) (cond (Ew ((aj (cO a0)).2.2.1, (aj (cO a0)).2.2.2, (aj (cO a0)).1) (aj (cO a0)).2.1) (κ (tK ((aj (cO a0)).2.2.1, (aj (cO a0)).2.2.2, (aj (cO a0)).1) (aj (cO a0)).2.1).2) (none)) (none)) (none)
def v63 (a0 : List (Ty.T (.int .u8))) : (List (Ty.T aa)) := (t63 a0 some).getD []
def d63 (a0 : List (Ty.T (.int .u8))) : Bool := (t63 a0 some).isSome
def p63 : Prim := ⟨[.one (.dat (.sl 5 (.int .u8)) true)], fun v => .br (d63 v.1) (.done (f63 (v63 v.1))) .no⟩
theorem aho : PO 63 p63 := pK E63 fun v => Eq.trans (b := (t63 v.1 (sm f63))) (by kernel_rfl) (ar (show t63 v.1 (sm f63) = (t63 v.1 some).bind _ from (bC (bC (bC rfl rfl) rfl) rfl)))
def f64 (r : Int × (List (Ty.T y27)) × (List (Ty.T aa)) × (List (Ty.T (.int .i64))) × (List (Ty.T y66))) : AV × Sig := (.tup [(true, ([.sl 4096] ++ [.sl 8192] ++ [.sl 12288] ++ [.sl 16384])), (false, ([.int .i64 r.1]))], [(4096, .arr 41 y27 r.2.1 false), (8192, .arr 109 aa r.2.2.1 false), (12288, .arr 3 (.int .i64) r.2.2.2.1 false), (16384, .arr 67 y66 r.2.2.2.2 false)])
def E64 := (((E0.g dm).g Dn).p HG)
def u64 (a0 : List (Ty.T (.int .u8))) : Option (AV × Sig) := cond (d116 a0) (cond (ka (cO a0)) (cond (bD 6 (cC (cO a0)).1) (some (.tup [(true, [.sl 4096, .sl 8192, .sl 12288, .sl 16384]), (false, [.int .i64 (IntKind.wrap .i64 ((1 : Int) + (ab 6 (cC (cO a0)).1).1))])], [(4096, .arr 41 y27 (cC (cO a0)).2.1 false), (8192, .arr 109 aa (cC (cO a0)).2.2.1 false), (12288, .arr 3 (.int .i64) (cC (cO a0)).2.2.2.1 false), (16384, .arr 67 y66 (cC (cO a0)).2.2.2.2 false)])) (none)) (none)) (none)
def v64 (a0 : List (Ty.T (.int .u8))) : Int × (List (Ty.T y27)) × (List (Ty.T aa)) × (List (Ty.T (.int .i64))) × (List (Ty.T y66)) := cond (d116 a0) (cond (ka (cO a0)) (cond (bD 6 (cC (cO a0)).1) ((IntKind.wrap .i64 ((1 : Int) + (ab 6 (cC (cO a0)).1).1), (cC (cO a0)).2.1, (cC (cO a0)).2.2.1, (cC (cO a0)).2.2.2.1, (cC (cO a0)).2.2.2.2)) ((0, [], [], [], []))) ((0, [], [], [], []))) ((0, [], [], [], []))
def d64 (a0 : List (Ty.T (.int .u8))) : Bool := cond (d116 a0) (cond (ka (cO a0)) (cond (bD 6 (cC (cO a0)).1) (true) (false)) (false)) (false)
theorem o64 (a0 : List (Ty.T (.int .u8))) : u64 a0 = cond (d64 a0) (some (f64 (v64 a0))) none := (pC (pC (pC (pS _) (pN _)) (pN _)) (pN _))
def p64 : Prim := ⟨[.one (.dat (.sl 5 (.int .u8)) true)], fun v => .br (d64 v.1) (.done (f64 (v64 v.1))) .no⟩
theorem ahF : PO 64 p64 := pK E64 fun v => Eq.trans (b := u64 v.1) (by kernel_rfl) (o64 v.1)
def f65 (r : Int) : AV × Sig := (.one (.int .i64 r), [])
def E65 := E0
@[reducible] def Kl : List SP := U2 (oI :: oI :: U2 (.und :: .one (.dat (.sl 67 y66) true) :: oI :: oI :: U8 (U2 ([]))))
@[reducible] def zL : Type := Int × Int × (List (Ty.T y66)) × Int × Int × Unit
def BD (v : zL) {Z : Type} (κ : Nat × zL -> Option Z) : Option Z := cond (decide (v.2.2.2.2.1 < v.2.2.2.1)) (if 0 <= v.2.2.2.2.1 then (bq ((v.2.2.1)[(v.2.2.2.2.1).toNat]?) (fun x1 => κ (0, (v.1, if (IntKind.wrap .i64 (x1.2.2.2.2.2.2.2 + (1 : Int))) > v.2.1 then IntKind.wrap .i64 (x1.2.2.2.2.2.2.2 + (1 : Int)) else v.2.1, v.2.2.1, v.2.2.2.1, IntKind.wrap .i64 (v.2.2.2.2.1 + (1 : Int)), ())))) else none) (κ (1, (v.1, v.2.1, v.2.2.1, v.2.2.2.1, v.2.2.2.2.1, ())))
def BC (v : zL) : Option (Nat × zL) := BD v some
def FV (v : zL) : Nat := v.1.toNat + v.2.1.toNat + v.2.2.1.length + v.2.2.2.1.toNat + v.2.2.2.2.1.toNat + 100
def Lo (h0 : Int) (h1 : Int) (h2 : List (Ty.T y66)) (h3 : Int) (h4 : Int) (c : Nat) : Bool := iK BC FV (h0, h1, h2, h3, h4, ()) c
def Rj (h0 : Int) (h1 : Int) (h2 : List (Ty.T y66)) (h3 : Int) (h4 : Int) : zL := iW BC FV (h0, h1, h2, h3, h4, ())
def Vb (v : zL) : aR (Ex × St) := bj BC (FV v) v (aB Kl aG) [.exit 0] 0
theorem Za : bg Tryz.prog (aH (pb 4 11) (ae Tryz.f65)) Kl aG Vb := au (lt := .none) E65.ok ai (ag.no _) fun n v K => Eq.trans (b := BD v (cM _ _ _ _ _ K)) (by kernel_rfl) (show BD v _ = (BD v some).bind _ from (bC (bI (bO fun x1 => rfl)) rfl))
def ad6 := E65.l (g := 65) (t := (bW (pb 4 11) (ae Tryz.f65) .none (.sum Kl aG Vb))) (aP Tryz.func65 (ag.put (aC (by kernel_rfl)) (ag.no _) Za))
def u65 (a0 : Ty.T y56) : Option (AV × Sig) := cond (Lo 0 0 a0.2.2.2 ((a0.2.2.2).length : Int) 0 0) (some (.one (.int .i64 (Rj 0 0 a0.2.2.2 ((a0.2.2.2).length : Int) 0).2.1), [])) (none)
def v65 (a0 : Ty.T y56) : Int := cond (Lo 0 0 a0.2.2.2 ((a0.2.2.2).length : Int) 0 0) ((Rj 0 0 a0.2.2.2 ((a0.2.2.2).length : Int) 0).2.1) (0)
def d65 (a0 : Ty.T y56) : Bool := cond (Lo 0 0 a0.2.2.2 ((a0.2.2.2).length : Int) 0 0) (true) (false)
theorem o65 (a0 : Ty.T y56) : u65 a0 = cond (d65 a0) (some (f65 (v65 a0))) none := (pC (pS _) (pN _))
def p65 : Prim := ⟨[.agg [.dat y56 true]], fun v => .br (d65 v.1) (.done (f65 (v65 v.1))) .no⟩
theorem ag7 : PO 65 p65 := pK ad6 fun v => Eq.trans (b := u65 v.1) (by kernel_rfl) (o65 v.1)
def f66 (r : Int) : AV × Sig := (.one (.int .i64 r), [])
def E66 := E0
@[reducible] def Is : List SP := .und :: .one (.ptr 1 0) :: oI :: oI :: oI :: U32 (.und :: [])
@[reducible] def uP : List (Nat × GP) := [(1, .box 57 [.dat y56 true])]
@[reducible] def jL : Type := Int × Int × Int × (Ty.T y56) × Unit
def AZ (v : jL) {Z : Type} (κ : Nat × jL -> Option Z) : Option Z := cond (decide (v.2.2.1 < ((v.2.2.2.1.2.2.2).length : Int))) (if 0 <= v.2.2.1 then (bq ((v.2.2.2.1.2.2.2)[(v.2.2.1).toNat]?) (fun x1 => cond (decide (x1.2.2.2.2.2.2.2 ≥ v.2.1)) (if 0 <= v.2.2.1 then (bq ((v.2.2.2.1.2.2.2)[(v.2.2.1).toNat]?) (fun x2 => cond (decide ((IntKind.wrap .i64 (x2.2.2.2.2.2.2.2 + (1 : Int))) > (0 : Int))) (if 0 <= v.2.2.1 then (bq ((v.2.2.2.1.2.2.2)[(v.2.2.1).toNat]?) (fun x3 => κ (0, (v.1, IntKind.wrap .i64 (x3.2.2.2.2.2.2.2 + (1 : Int)), IntKind.wrap .i64 (v.2.2.1 + (1 : Int)), v.2.2.2.1, ())))) else none) (κ (0, (v.1, v.2.1, IntKind.wrap .i64 (v.2.2.1 + (1 : Int)), v.2.2.2.1, ()))))) else none) (κ (0, (v.1, v.2.1, IntKind.wrap .i64 (v.2.2.1 + (1 : Int)), v.2.2.2.1, ()))))) else none) (κ (1, (v.1, v.2.1, v.2.2.1, v.2.2.2.1, ())))
def A2 (v : jL) : Option (Nat × jL) := AZ v some
def Hp (v : jL) : Nat := v.1.toNat + v.2.1.toNat + v.2.2.1.toNat + v.2.2.2.1.1.length + v.2.2.2.1.2.1.length + v.2.2.2.1.2.2.1.length + v.2.2.2.1.2.2.2.length + 100
def KA (h0 : Int) (h1 : Int) (h2 : Int) (h3 : Ty.T y56) (c : Nat) : Bool := iK A2 Hp (h0, h1, h2, h3, ()) c
def NA (h0 : Int) (h1 : Int) (h2 : Int) (h3 : Ty.T y56) : jL := iW A2 Hp (h0, h1, h2, h3, ())
def UD (v : jL) : aR (Ex × St) := bj A2 (Hp v) v (aB Is uP) [.exit 0] 0
theorem abG : bg Tryz.prog (aH (pb 4 11) (ae Tryz.f66)) Is uP UD := au (lt := .none) E66.ok ai (ag.no _) fun n v K => Eq.trans (b := AZ v (cM _ _ _ _ _ K)) (by kernel_rfl) (show AZ v _ = (AZ v some).bind _ from (bC (bI (bO fun x1 => (bC (bI (bO fun x2 => (bC (bI (bO fun x3 => rfl)) rfl))) rfl))) rfl))
def ahJ := E66.l (g := 66) (t := (bW (pb 4 11) (ae Tryz.f66) .none (.sum Is uP UD))) (aP Tryz.func66 (ag.put (aC (by kernel_rfl)) (ag.no _) abG))
def u66 (a0 : Ty.T y56) : Option (AV × Sig) := cond (KA 0 0 0 a0 0) (some (.one (.int .i64 (NA 0 0 0 a0).2.1), [])) (none)
def v66 (a0 : Ty.T y56) : Int := cond (KA 0 0 0 a0 0) ((NA 0 0 0 a0).2.1) (0)
def d66 (a0 : Ty.T y56) : Bool := cond (KA 0 0 0 a0 0) (true) (false)
theorem o66 (a0 : Ty.T y56) : u66 a0 = cond (d66 a0) (some (f66 (v66 a0))) none := (pC (pS _) (pN _))
def p66 : Prim := ⟨[.agg [.dat y56 true]], fun v => .br (d66 v.1) (.done (f66 (v66 v.1))) .no⟩
theorem ae3 : PO 66 p66 := pK ahJ fun v => Eq.trans (b := u66 v.1) (by kernel_rfl) (o66 v.1)
def f67 (r : Int) : AV × Sig := (.one (.int .i64 r), [])
def E67 := E0
@[reducible] def H7 : List SP := .und :: .one (.ptr 1 0) :: oI :: oI :: oI :: U16 (.und :: [])
def zb (v : jL) {Z : Type} (κ : Nat × jL -> Option Z) : Option Z := cond (decide (v.2.2.1 < ((v.2.2.2.1.2.2.2).length : Int))) (if 0 <= v.2.2.1 then (bq ((v.2.2.2.1.2.2.2)[(v.2.2.1).toNat]?) (fun x1 => cond (decide (x1.2.2.2.1 ≥ (2 : Int))) (κ (0, (v.1, IntKind.wrap .i64 (v.2.1 + (1 : Int)), IntKind.wrap .i64 (v.2.2.1 + (1 : Int)), v.2.2.2.1, ()))) (κ (0, (v.1, v.2.1, IntKind.wrap .i64 (v.2.2.1 + (1 : Int)), v.2.2.2.1, ()))))) else none) (κ (1, (v.1, v.2.1, v.2.2.1, v.2.2.2.1, ())))
def zD (v : jL) : Option (Nat × jL) := zb v some
def ED (v : jL) : Nat := v.1.toNat + v.2.1.toNat + v.2.2.1.toNat + v.2.2.2.1.1.length + v.2.2.2.1.2.1.length + v.2.2.2.1.2.2.1.length + v.2.2.2.1.2.2.2.length + 100
def Lz (h0 : Int) (h1 : Int) (h2 : Int) (h3 : Ty.T y56) (c : Nat) : Bool := iK zD ED (h0, h1, h2, h3, ()) c
def N6 (h0 : Int) (h1 : Int) (h2 : Int) (h3 : Ty.T y56) : jL := iW zD ED (h0, h1, h2, h3, ())
def Vv (v : jL) : aR (Ex × St) := bj zD (ED v) v (aB H7 uP) [.exit 0] 0
theorem Z6 : bg Tryz.prog (aH (pb 4 11) (ae Tryz.f67)) H7 uP Vv := au (lt := .none) E67.ok ai (ag.no _) fun n v K => Eq.trans (b := zb v (cM _ _ _ _ _ K)) (by kernel_rfl) (show zb v _ = (zb v some).bind _ from (bC (bI (bO fun x1 => (bC rfl rfl))) rfl))
def aeK := E67.l (g := 67) (t := (bW (pb 4 11) (ae Tryz.f67) .none (.sum H7 uP Vv))) (aP Tryz.func67 (ag.put (aC (by kernel_rfl)) (ag.no _) Z6))
def u67 (a0 : Ty.T y56) : Option (AV × Sig) := cond (Lz 0 0 0 a0 0) (some (.one (.int .i64 (N6 0 0 0 a0).2.1), [])) (none)
def v67 (a0 : Ty.T y56) : Int := cond (Lz 0 0 0 a0 0) ((N6 0 0 0 a0).2.1) (0)
def d67 (a0 : Ty.T y56) : Bool := cond (Lz 0 0 0 a0 0) (true) (false)
theorem o67 (a0 : Ty.T y56) : u67 a0 = cond (d67 a0) (some (f67 (v67 a0))) none := (pC (pS _) (pN _))
def p67 : Prim := ⟨[.agg [.dat y56 true]], fun v => .br (d67 v.1) (.done (f67 (v67 v.1))) .no⟩
theorem agn : PO 67 p67 := pK aeK fun v => Eq.trans (b := u67 v.1) (by kernel_rfl) (o67 v.1)
def f68 (r : Int) : AV × Sig := (.one (.int .i64 r), [])
def E68 := E0
@[reducible] def Je : List SP := U2 (oI :: oI :: U2 (.one (.dat (.sl 109 aa) true) :: oI :: oI :: U8 (U2 ([]))))
@[reducible] def wR : Type := Int × Int × (List (Ty.T aa)) × Int × Int × Unit
def xS (v : wR) {Z : Type} (κ : Nat × wR -> Option Z) : Option Z := cond (decide (v.2.2.2.2.1 < v.2.2.2.1)) (if 0 <= v.2.2.2.2.1 then (bq ((v.2.2.1)[(v.2.2.2.2.1).toNat]?) (fun x1 => cond (x1.2.2.2.2.2.2.2.2 != (0 : Int)) (κ (0, (v.1, IntKind.wrap .i64 (v.2.1 + (1 : Int)), v.2.2.1, v.2.2.2.1, IntKind.wrap .i64 (v.2.2.2.2.1 + (1 : Int)), ()))) (κ (0, (v.1, v.2.1, v.2.2.1, v.2.2.2.1, IntKind.wrap .i64 (v.2.2.2.2.1 + (1 : Int)), ()))))) else none) (κ (1, (v.1, v.2.1, v.2.2.1, v.2.2.2.1, v.2.2.2.2.1, ())))
def yN (v : wR) : Option (Nat × wR) := xS v some
def HJ (v : wR) : Nat := v.1.toNat + v.2.1.toNat + v.2.2.1.length + v.2.2.2.1.toNat + v.2.2.2.2.1.toNat + 100
def LD (h0 : Int) (h1 : Int) (h2 : List (Ty.T aa)) (h3 : Int) (h4 : Int) (c : Nat) : Bool := iK yN HJ (h0, h1, h2, h3, h4, ()) c
def QZ (h0 : Int) (h1 : Int) (h2 : List (Ty.T aa)) (h3 : Int) (h4 : Int) : wR := iW yN HJ (h0, h1, h2, h3, h4, ())
def UI (v : wR) : aR (Ex × St) := bj yN (HJ v) v (aB Je aG) [.exit 0] 0
theorem abC : bg Tryz.prog (aH (pb 4 11) (ae Tryz.f68)) Je aG UI := au (lt := .none) E68.ok ai (ag.no _) fun n v K => Eq.trans (b := xS v (cM _ _ _ _ _ K)) (by kernel_rfl) (show xS v _ = (xS v some).bind _ from (bC (bI (bO fun x1 => (bC rfl rfl))) rfl))
def aeC := E68.l (g := 68) (t := (bW (pb 4 11) (ae Tryz.f68) .none (.sum Je aG UI))) (aP Tryz.func68 (ag.put (aC (by kernel_rfl)) (ag.no _) abC))
def u68 (a0 : List (Ty.T aa)) : Option (AV × Sig) := cond (LD 0 0 a0 ((a0).length : Int) 0 0) (some (.one (.int .i64 (QZ 0 0 a0 ((a0).length : Int) 0).2.1), [])) (none)
def v68 (a0 : List (Ty.T aa)) : Int := cond (LD 0 0 a0 ((a0).length : Int) 0 0) ((QZ 0 0 a0 ((a0).length : Int) 0).2.1) (0)
def d68 (a0 : List (Ty.T aa)) : Bool := cond (LD 0 0 a0 ((a0).length : Int) 0 0) (true) (false)
theorem o68 (a0 : List (Ty.T aa)) : u68 a0 = cond (d68 a0) (some (f68 (v68 a0))) none := (pC (pS _) (pN _))
def p68 : Prim := ⟨[.one (.dat (.sl 109 aa) true)], fun v => .br (d68 v.1) (.done (f68 (v68 v.1))) .no⟩
theorem ad1 : PO 68 p68 := pK aeC fun v => Eq.trans (b := u68 v.1) (by kernel_rfl) (o68 v.1)
def f69 (r : Int) : AV × Sig := (.one (.int .i64 r), [])
def E69 := E0
@[reducible] def IU : List SP := .one (.dat (.sl 109 aa) true) :: .und :: oI :: oI :: oI :: U8 (U4 (U2 (.und :: [])))
def xI (v : e4) {Z : Type} (κ : Nat × e4 -> Option Z) : Option Z := cond (decide (v.2.2.2.1 < ((v.1).length : Int))) (if 0 <= v.2.2.2.1 then (bq ((v.1)[(v.2.2.2.1).toNat]?) (fun x1 => cond (x1.2.2.2.2.2.2.2.2 != (0 : Int)) (κ (0, (v.1, v.2.1, IntKind.wrap .i64 (v.2.2.1 + (1 : Int)), IntKind.wrap .i64 (v.2.2.2.1 + (1 : Int)), ()))) (κ (0, (v.1, v.2.1, v.2.2.1, IntKind.wrap .i64 (v.2.2.2.1 + (1 : Int)), ()))))) else none) (κ (1, (v.1, v.2.1, v.2.2.1, v.2.2.2.1, ())))
def yH (v : e4) : Option (Nat × e4) := xI v some
def FL (v : e4) : Nat := v.1.length + v.2.1.toNat + v.2.2.1.toNat + v.2.2.2.1.toNat + 100
def KM (h0 : List (Ty.T aa)) (h1 : Int) (h2 : Int) (h3 : Int) (c : Nat) : Bool := iK yH FL (h0, h1, h2, h3, ()) c
def N7 (h0 : List (Ty.T aa)) (h1 : Int) (h2 : Int) (h3 : Int) : e4 := iW yH FL (h0, h1, h2, h3, ())
def UC (v : e4) : aR (Ex × St) := bj yH (FL v) v (aB IU aG) [.exit 0] 0
theorem aap : bg Tryz.prog (aH (pb 4 11) (ae Tryz.f69)) IU aG UC := au (lt := .none) E69.ok ai (ag.no _) fun n v K => Eq.trans (b := xI v (cM _ _ _ _ _ K)) (by kernel_rfl) (show xI v _ = (xI v some).bind _ from (bC (bI (bO fun x1 => (bC rfl rfl))) rfl))
def aeB := E69.l (g := 69) (t := (bW (pb 4 11) (ae Tryz.f69) .none (.sum IU aG UC))) (aP Tryz.func69 (ag.put (aC (by kernel_rfl)) (ag.no _) aap))
def u69 (a0 : List (Ty.T aa)) : Option (AV × Sig) := cond (KM a0 0 0 0 0) (some (.one (.int .i64 (N7 a0 0 0 0).2.2.1), [])) (none)
def v69 (a0 : List (Ty.T aa)) : Int := cond (KM a0 0 0 0 0) ((N7 a0 0 0 0).2.2.1) (0)
def d69 (a0 : List (Ty.T aa)) : Bool := cond (KM a0 0 0 0 0) (true) (false)
theorem o69 (a0 : List (Ty.T aa)) : u69 a0 = cond (d69 a0) (some (f69 (v69 a0))) none := (pC (pS _) (pN _))
def p69 : Prim := ⟨[.one (.dat (.sl 109 aa) true)], fun v => .br (d69 v.1) (.done (f69 (v69 v.1))) .no⟩
theorem af5 : PO 69 p69 := pK aeB fun v => Eq.trans (b := u69 v.1) (by kernel_rfl) (o69 v.1)
def f70 (r : Bool) : AV × Sig := (.one (.bool r), [])
def E70 := E0
@[reducible] def H8 : List SP := .one (.dat (.sl 41 y27) true) :: .one (.dat (.sl 41 y27) true) :: U2 (.one (.dat .bool true) :: oI :: U16 (U4 ([])))
@[reducible] def xj : Type := (List (Ty.T y27)) × (List (Ty.T y27)) × Bool × Int × Unit
def BE (v : xj) {Z : Type} (κ : Nat × xj -> Option Z) : Option Z := cond (decide (v.2.2.2.1 < ((v.1).length : Int))) (if 0 <= v.2.2.2.1 then (bq ((v.1)[(v.2.2.2.1).toNat]?) (fun x1 => if 0 <= v.2.2.2.1 then (bq ((v.2.1)[(v.2.2.2.1).toNat]?) (fun x2 => cond (!((x1.1 == x2.1) && ((x1.2.1 == x2.2.1) && ((x1.2.2.1 == x2.2.2.1) && ((x1.2.2.2.1 == x2.2.2.2.1) && ((x1.2.2.2.2.1 == x2.2.2.2.2.1) && ((x1.2.2.2.2.2.1 == x2.2.2.2.2.2.1) && ((x1.2.2.2.2.2.2 == x2.2.2.2.2.2.2) && true)))))))) (κ (1, (v.1, v.2.1, false, v.2.2.2.1, ()))) (κ (0, (v.1, v.2.1, v.2.2.1, IntKind.wrap .i64 (v.2.2.2.1 + (1 : Int)), ()))))) else none)) else none) (κ (2, (v.1, v.2.1, v.2.2.1, v.2.2.2.1, ())))
def Ax (v : xj) : Option (Nat × xj) := BE v some
def Fg (v : xj) : Nat := v.1.length + v.2.1.length + v.2.2.2.1.toNat + 100
def vY (h0 : List (Ty.T y27)) (h1 : List (Ty.T y27)) (h2 : Bool) (h3 : Int) (c : Nat) : Bool := iK Ax Fg (h0, h1, h2, h3, ()) c
def Vy (h0 : List (Ty.T y27)) (h1 : List (Ty.T y27)) (h2 : Bool) (h3 : Int) : xj := iW Ax Fg (h0, h1, h2, h3, ())
def U1 (v : xj) : aR (Ex × St) := bj Ax (Fg v) v (aB H8 aG) [.ret, .exit 0] 0
theorem aaT : bg Tryz.prog (aH (pb 4 11) (ae Tryz.f70)) H8 aG U1 := au (lt := .none) E70.ok ai (ag.no _) fun n v K => Eq.trans (b := BE v (cM _ _ _ _ _ K)) (by kernel_rfl) (show BE v _ = (BE v some).bind _ from (bC (bI (bO fun x1 => (bI (bO fun x2 => (bC rfl rfl))))) rfl))
def ad2 := E70.l (g := 70) (t := (bW (pb 4 11) (ae Tryz.f70) .none (.sum H8 aG U1))) (aP Tryz.func70 (ag.put (aC (by kernel_rfl)) (ag.no _) aaT))
def u70 (a0 : List (Ty.T y27)) (a1 : List (Ty.T y27)) : Option (AV × Sig) := cond (((a0).length : Int) != ((a1).length : Int)) (some (.one (.bool false), [])) (cond (vY a0 a1 false 0 0) (some (.one (.bool (Vy a0 a1 false 0).2.2.1), [])) (cond (vY a0 a1 false 0 1) (some (.one (.bool true), [])) (none)))
def v70 (a0 : List (Ty.T y27)) (a1 : List (Ty.T y27)) : Bool := cond (((a0).length : Int) != ((a1).length : Int)) (false) (cond (vY a0 a1 false 0 0) ((Vy a0 a1 false 0).2.2.1) (cond (vY a0 a1 false 0 1) (true) (false)))
def d70 (a0 : List (Ty.T y27)) (a1 : List (Ty.T y27)) : Bool := cond (((a0).length : Int) != ((a1).length : Int)) (true) (cond (vY a0 a1 false 0 0) (true) (cond (vY a0 a1 false 0 1) (true) (false)))
theorem o70 (a0 : List (Ty.T y27)) (a1 : List (Ty.T y27)) : u70 a0 a1 = cond (d70 a0 a1) (some (f70 (v70 a0 a1))) none := (pC (pS _) (pC (pS _) (pC (pS _) (pN _))))
def p70 : Prim := ⟨[.one (.dat (.sl 41 y27) true), .one (.dat (.sl 41 y27) true)], fun v => .br (d70 v.1 v.2.1) (.done (f70 (v70 v.1 v.2.1))) .no⟩
theorem agB : PO 70 p70 := pK ad2 fun v => Eq.trans (b := u70 v.1 v.2.1) (by kernel_rfl) (o70 v.1 v.2.1)
def Nm (r : Bool) : AV × Sig := (.one (.bool r), [])
def WU := E0
def R6 (a0 : Ty.T y27) (a1 : Int) : Option (AV × Sig) := some (.one (.bool (a0.1 != a1)), [])
def Ek (a0 : Ty.T y27) (a1 : Int) : Bool := (a0.1 != a1)
theorem Xo (a0 : Ty.T y27) (a1 : Int) : R6 a0 a1 = some (Nm (Ek a0 a1)) := rfl
def Xt : Prim := ⟨[.agg [.dat y27 true], .one (.ept (.int .i64))], fun v => .done (Nm (Ek v.1 v.2.1))⟩
theorem Uh : PO 178 Xt := pK WU fun v => Eq.trans (b := R6 v.1 v.2.1) (by kernel_rfl) (Xo v.1 v.2.1)
def NP (r : Int) : AV × Sig := (.one (.int .i64 r), [])
def R3 := (E0.p Uh)
@[reducible] def uY : List SP := .one (.dat (.sl 41 y27) true) :: .one (.fnc 178 [(.int .i64)]) :: U2 (oI :: U2 (oI :: oI :: U8 (U2 ([]))))
@[reducible] def iC : Type := (List (Ty.T y27)) × Int × Int × Int × Int × Unit
def ld (v : iC) {Z : Type} (κ : Nat × iC -> Option Z) : Option Z := cond (decide (v.2.2.2.2.1 < v.2.2.2.1)) (if 0 <= v.2.2.2.2.1 then (bq ((v.1)[(v.2.2.2.2.1).toNat]?) (fun x1 => cond (Ek x1 v.2.1) (κ (1, (v.1, v.2.1, v.2.2.2.2.1, v.2.2.2.1, v.2.2.2.2.1, ()))) (κ (0, (v.1, v.2.1, v.2.2.1, v.2.2.2.1, IntKind.wrap .i64 (v.2.2.2.2.1 + (1 : Int)), ()))))) else none) (κ (2, (v.1, v.2.1, v.2.2.1, v.2.2.2.1, v.2.2.2.2.1, ())))
def kn (v : iC) : Option (Nat × iC) := ld v some
def nL (v : iC) : Nat := v.1.length + v.2.1.toNat + v.2.2.1.toNat + v.2.2.2.1.toNat + v.2.2.2.2.1.toNat + 100
def fh (h0 : List (Ty.T y27)) (h1 : Int) (h2 : Int) (h3 : Int) (h4 : Int) (c : Nat) : Bool := iK kn nL (h0, h1, h2, h3, h4, ()) c
def zY (h0 : List (Ty.T y27)) (h1 : Int) (h2 : Int) (h3 : Int) (h4 : Int) : iC := iW kn nL (h0, h1, h2, h3, h4, ())
def Gu (v : iC) : aR (Ex × St) := bj kn (nL v) v (aB uY aG) [.ret, .exit 0] 0
theorem NI : bg Tryz.prog (aH (pb 3 5) (ae Tryz.f249)) uY aG Gu := au (lt := .none) R3.ok ai (ag.no _) fun n v K => Eq.trans (b := ld v (cM _ _ _ _ _ K)) (by kernel_rfl) (show ld v _ = (ld v some).bind _ from (bC (bI (bO fun x1 => (bC rfl rfl))) rfl))
def Ul := R3.l (g := 249) (t := (bW (pb 3 5) (ae Tryz.f249) .none (.sum uY aG Gu))) (aP Tryz.func249 (ag.put (aC (by kernel_rfl)) (ag.no _) NI))
def Rw (a0 : List (Ty.T y27)) (a1_0 : Int) : Option (AV × Sig) := cond (fh a0 a1_0 0 ((a0).length : Int) 0 0) (some (.one (.int .i64 (zY a0 a1_0 0 ((a0).length : Int) 0).2.2.1), [])) (cond (fh a0 a1_0 0 ((a0).length : Int) 0 1) (some (.one (.int .i64 (-1)), [])) (none))
def lS (a0 : List (Ty.T y27)) (a1_0 : Int) : Int := cond (fh a0 a1_0 0 ((a0).length : Int) 0 0) ((zY a0 a1_0 0 ((a0).length : Int) 0).2.2.1) (cond (fh a0 a1_0 0 ((a0).length : Int) 0 1) ((-1)) (0))
def ye (a0 : List (Ty.T y27)) (a1_0 : Int) : Bool := cond (fh a0 a1_0 0 ((a0).length : Int) 0 0) (true) (cond (fh a0 a1_0 0 ((a0).length : Int) 0 1) (true) (false))
theorem Wr (a0 : List (Ty.T y27)) (a1_0 : Int) : Rw a0 a1_0 = cond (ye a0 a1_0) (some (NP (lS a0 a1_0))) none := (pC (pS _) (pC (pS _) (pN _)))
def VK : Prim := ⟨[.one (.dat (.sl 41 y27) true), .one (.fnc 178 [(.int .i64)])], fun v => .br (ye v.1 v.2.1) (.done (NP (lS v.1 v.2.1))) .no⟩
theorem So : PO 249 VK := pK Ul fun v => Eq.trans (b := Rw v.1 v.2.1) (by kernel_rfl) (Wr v.1 v.2.1)
def Qp (r : Bool × Int) : AV × Sig := (.one (.bool r.1), [(4294967296, .box 3 ([.int .i64 r.2]))])
def X6 := E0
def NZ (a0 : Ty.T y27) (a1 : Int) : Option (AV × Sig) := some (.one (.bool (a0.1 != a1)), [(4294967296, .box 3 [.int .i64 a1])])
def pJ (a0 : Ty.T y27) (a1 : Int) : Bool × Int := ((a0.1 != a1), a1)
theorem W5 (a0 : Ty.T y27) (a1 : Int) : NZ a0 a1 = some (Qp (pJ a0 a1)) := rfl
def Wh : Gen := ⟨[false, false], [.agg [.dat y27 false], .one (.ptr 4294967296 0)], [(4294967296, .box 3 [.dat (.int .i64) false])], fun v => .done (Qp (pJ v.1 v.2.1))⟩
theorem TM : bw Tryz.prog 178 Wh := bF X6.ok ai (aC (by kernel_rfl)) ⟨Tryz.f178, ae Tryz.f178, by kernel_rfl, by kernel_rfl⟩ fun v => Eq.trans (b := NZ v.1 v.2.1) (by kernel_rfl) (W5 v.1 v.2.1)
def HU (r : Int × (List (Ty.T y27))) : AV × Sig := (.one (.sl 33554432), [(4294967296, .box 3 ([.int .i64 r.1])), (33554432, .arr 41 y27 r.2 false)])
def PC := ((E0.g TM).p So)
@[reducible] def tA : List SP := .one (.own 41943040) :: .one (.fnp 178 [4294967296]) :: U2 (.one (.dat (.sl 41 y27) false) :: oI :: oI :: U32 (U2 (.und :: [])))
@[reducible] def vh : List (Nat × GP) := [(4294967296, .box 3 [.dat (.int .i64) false]), (41943040, .arr 41 y27 false)]
@[reducible] def iv : Type := (List (Ty.T y27)) × Int × Int × Int × (List (Ty.T y27)) × Unit
def iA (v : iv) {Z : Type} (κ : Nat × iv -> Option Z) : Option Z := cond (decide (v.2.2.1 < ((v.2.2.2.2.1).length : Int))) (if 0 <= v.2.2.1 then (if v.2.2.1 < ((v.2.2.2.2.1).length : Int) then (bq ((v.2.2.2.2.1)[(v.2.2.1).toNat]?) (fun x1 => cond (!(pJ x1 v.2.2.2.1).1) (if 0 <= v.2.1 then (if v.2.1 < ((v.2.2.2.2.1).length : Int) then (bq ((v.2.2.2.2.1)[(v.2.1).toNat]?) (fun x2 => κ (0, (v.1, IntKind.wrap .i64 (v.2.1 + (1 : Int)), IntKind.wrap .i64 (v.2.2.1 + (1 : Int)), (pJ x1 v.2.2.2.1).2, v.2.2.2.2.1.set ((v.2.1).toNat) x1, ())))) else none) else none) (κ (0, (v.1, v.2.1, IntKind.wrap .i64 (v.2.2.1 + (1 : Int)), (pJ x1 v.2.2.2.1).2, v.2.2.2.2.1, ()))))) else none) else none) (κ (1, (v.1, v.2.1, v.2.2.1, v.2.2.2.1, v.2.2.2.2.1, ())))
def iE (v : iv) : Option (Nat × iv) := iA v some
def mR (v : iv) : Nat := v.1.length + v.2.1.toNat + v.2.2.1.toNat + v.2.2.2.1.toNat + v.2.2.2.2.1.length + 100
def Hf (h0 : List (Ty.T y27)) (h1 : Int) (h2 : Int) (h3 : Int) (h4 : List (Ty.T y27)) (c : Nat) : Bool := iK iE mR (h0, h1, h2, h3, h4, ()) c
def HR (h0 : List (Ty.T y27)) (h1 : Int) (h2 : Int) (h3 : Int) (h4 : List (Ty.T y27)) : iv := iW iE mR (h0, h1, h2, h3, h4, ())
def GK (v : iv) : aR (Ex × St) := bj iE (mR v) v (aB tA vh) [.exit 0] 0
theorem Q3 : bg Tryz.prog (aH (pb 5 23) (ae Tryz.f176)) tA vh GK := au (lt := .none) PC.ok ai (ag.no _) fun n v K => Eq.trans (b := iA v (cM _ _ _ _ _ K)) (by kernel_rfl) (show iA v _ = (iA v some).bind _ from (bC (bI (bI (bO fun x1 => (bC (bI (bI (bO fun x2 => rfl))) rfl)))) rfl))
def TF := PC.l (g := 176) (t := (bW (pb 5 23) (ae Tryz.f176) .none (.sum tA vh GK))) (aP Tryz.func176 (ag.put (aC (by kernel_rfl)) (ag.no _) Q3))
def b7 (a0 : Int) (a1 : List (Ty.T y27)) := (HR [] (lS a1 a0) (IntKind.wrap .i64 ((lS a1 a0) + (1 : Int))) a0 a1)
def qV (a0 : Int) (a1 : List (Ty.T y27)) {Z : Type} (κ : Int × (List (Ty.T y27)) -> Option Z) : Option Z := cond (ye a1 a0) (cond ((lS a1 a0) == (-1 : Int)) (κ (a0, a1)) (cond (Hf [] (lS a1 a0) (IntKind.wrap .i64 ((lS a1 a0) + (1 : Int))) a0 a1 0) (if 0 <= (b7 a0 a1).2.1 then (if (b7 a0 a1).2.1 <= (((b7 a0 a1).2.2.2.2.1).length : Int) then (if 0 <= (b7 a0 a1).2.1 then (if (b7 a0 a1).2.1 <= (((b7 a0 a1).2.2.2.2.1.take (((b7 a0 a1).2.1).toNat) ++ List.replicate (((b7 a0 a1).2.2.2.2.1).length - ((b7 a0 a1).2.1).toNat) ((0, 0, 0, 0, 0, 0, false) : Ty.T y27) ++ (b7 a0 a1).2.2.2.2.1.drop (((b7 a0 a1).2.1).toNat + (((b7 a0 a1).2.2.2.2.1).length - ((b7 a0 a1).2.1).toNat))).length : Int) then (κ ((b7 a0 a1).2.2.2.1, ((b7 a0 a1).2.2.2.2.1.take (((b7 a0 a1).2.1).toNat) ++ List.replicate (((b7 a0 a1).2.2.2.2.1).length - ((b7 a0 a1).2.1).toNat) ((0, 0, 0, 0, 0, 0, false) : Ty.T y27) ++ (b7 a0 a1).2.2.2.2.1.drop (((b7 a0 a1).2.1).toNat + (((b7 a0 a1).2.2.2.2.1).length - ((b7 a0 a1).2.1).toNat))).take (((b7 a0 a1).2.1).toNat))) else none) else none) else none) else none) (none))) (none)
def uj (a0 : Int) (a1 : List (Ty.T y27)) : Int × (List (Ty.T y27)) := (qV a0 a1 some).getD (0, [])
def qJ (a0 : Int) (a1 : List (Ty.T y27)) : Bool := (qV a0 a1 some).isSome
def WQ : Gen := ⟨[true, false], [.one (.own 41943040), .one (.fnp 178 [4294967296])], [(4294967296, .box 3 [.dat (.int .i64) false]), (41943040, .arr 41 y27 false)], fun v => .br (qJ v.1 v.2.1) (.done (HU (uj v.1 v.2.1))) .no⟩
theorem Tc : bw Tryz.prog 176 WQ := bF TF.ok ai (aC (by kernel_rfl)) ⟨Tryz.f176, ae Tryz.f176, by kernel_rfl, by kernel_rfl⟩ fun v => Eq.trans (b := (qV v.1 v.2.1 (sm HU))) (by kernel_rfl) (ar (show qV v.1 v.2.1 (sm HU) = (qV v.1 v.2.1 some).bind _ from (bC (bC rfl (bC (bI (bI (bI (bI rfl)))) rfl)) rfl)))
def f71 (r : (List (Ty.T y27))) : AV × Sig := (.one (.sl 4096), [(4096, .arr 41 y27 r false)])
def E71 := ((E0.g Tc).p OV)
def u71 (a0 : Ty.T y56) (a1 : Int) : Option (AV × Sig) := cond (d177 a0.1) (cond (qJ a1 (wD a0.1)) (some (.one (.sl 4096), [(4096, .arr 41 y27 (uj a1 (wD a0.1)).2 false)])) (none)) (none)
def v71 (a0 : Ty.T y56) (a1 : Int) : (List (Ty.T y27)) := cond (d177 a0.1) (cond (qJ a1 (wD a0.1)) ((uj a1 (wD a0.1)).2) ([])) ([])
def d71 (a0 : Ty.T y56) (a1 : Int) : Bool := cond (d177 a0.1) (cond (qJ a1 (wD a0.1)) (true) (false)) (false)
theorem o71 (a0 : Ty.T y56) (a1 : Int) : u71 a0 a1 = cond (d71 a0 a1) (some (f71 (v71 a0 a1))) none := (pC (pC (pS _) (pN _)) (pN _))
def p71 : Prim := ⟨[.agg [.dat y56 true], oI], fun v => .br (d71 v.1 v.2.1) (.done (f71 (v71 v.1 v.2.1))) .no⟩
theorem ain : PO 71 p71 := pK E71 fun v => Eq.trans (b := u71 v.1 v.2.1) (by kernel_rfl) (o71 v.1 v.2.1)
def f72 (r : (List (Ty.T y27))) : AV × Sig := (.one (.sl 4096), [(4096, .arr 41 y27 r false)])
def E72 := E0
@[reducible] def HX : List SP := .und :: oI :: .one (.ptr 2 0) :: .und :: .one (.dat (.sl 41 y27) false) :: .one (.own 7) :: oI :: U16 (U8 (.und :: []))
@[reducible] def Ke : List (Nat × GP) := [(2, .box 57 [.dat y56 true]), (7, .arr 41 y27 false)]
@[reducible] def wK : Type := Int × (List (Ty.T y27)) × Int × (Ty.T y56) × (List (Ty.T y27)) × Unit
def Bj (v : wK) {Z : Type} (κ : Nat × wK -> Option Z) : Option Z := cond (decide (v.2.2.1 < ((v.2.2.2.1.1).length : Int))) (if 0 <= v.2.2.1 then (bq ((v.2.2.2.1.1)[(v.2.2.1).toNat]?) (fun x1 => cond (x1.1 == v.1) (if 0 <= v.2.2.1 then (bq ((v.2.2.2.1.1)[(v.2.2.1).toNat]?) (fun x2 => if (v.2.2.2.2.1 ++ [x2] : List (Ty.T y27)).length * 56 <= 140737488351232 then (κ (0, (v.1, v.2.1, IntKind.wrap .i64 (v.2.2.1 + (1 : Int)), v.2.2.2.1, v.2.2.2.2.1 ++ [x2], ()))) else none)) else none) (κ (0, (v.1, v.2.1, IntKind.wrap .i64 (v.2.2.1 + (1 : Int)), v.2.2.2.1, v.2.2.2.2.1, ()))))) else none) (κ (1, (v.1, v.2.1, v.2.2.1, v.2.2.2.1, v.2.2.2.2.1, ())))
def Bk (v : wK) : Option (Nat × wK) := Bj v some
def ES (v : wK) : Nat := v.1.toNat + v.2.1.length + v.2.2.1.toNat + v.2.2.2.1.1.length + v.2.2.2.1.2.1.length + v.2.2.2.1.2.2.1.length + v.2.2.2.1.2.2.2.length + v.2.2.2.2.1.length + 100
def Lm (h0 : Int) (h1 : List (Ty.T y27)) (h2 : Int) (h3 : Ty.T y56) (h4 : List (Ty.T y27)) (c : Nat) : Bool := iK Bk ES (h0, h1, h2, h3, h4, ()) c
def Pj (h0 : Int) (h1 : List (Ty.T y27)) (h2 : Int) (h3 : Ty.T y56) (h4 : List (Ty.T y27)) : wK := iW Bk ES (h0, h1, h2, h3, h4, ())
def Vl (v : wK) : aR (Ex × St) := bj Bk (ES v) v (aB HX Ke) [.exit 0] 0
theorem YH : bg Tryz.prog (aH (pb 4 11) (ae Tryz.f72)) HX Ke Vl := au (lt := .none) E72.ok ai (ag.no _) fun n v K => Eq.trans (b := Bj v (cM _ _ _ _ _ K)) (by kernel_rfl) (show Bj v _ = (Bj v some).bind _ from (bC (bI (bO fun x1 => (bC (bI (bO fun x2 => (bI rfl))) rfl))) rfl))
def age := E72.l (g := 72) (t := (bW (pb 4 11) (ae Tryz.f72) .none (.sum HX Ke Vl))) (aP Tryz.func72 (ag.put (aC (by kernel_rfl)) (ag.no _) YH))
def u72 (a0 : Ty.T y56) (a1 : Int) : Option (AV × Sig) := cond (Lm a1 [] 0 a0 [] 0) (some (.one (.sl 4096), [(4096, .arr 41 y27 (Pj a1 [] 0 a0 []).2.2.2.2.1 false)])) (none)
def v72 (a0 : Ty.T y56) (a1 : Int) : (List (Ty.T y27)) := cond (Lm a1 [] 0 a0 [] 0) ((Pj a1 [] 0 a0 []).2.2.2.2.1) ([])
def d72 (a0 : Ty.T y56) (a1 : Int) : Bool := cond (Lm a1 [] 0 a0 [] 0) (true) (false)
theorem o72 (a0 : Ty.T y56) (a1 : Int) : u72 a0 a1 = cond (d72 a0 a1) (some (f72 (v72 a0 a1))) none := (pC (pS _) (pN _))
def p72 : Prim := ⟨[.agg [.dat y56 true], oI], fun v => .br (d72 v.1 v.2.1) (.done (f72 (v72 v.1 v.2.1))) .no⟩
theorem adv : PO 72 p72 := pK age fun v => Eq.trans (b := u72 v.1 v.2.1) (by kernel_rfl) (o72 v.1 v.2.1)
def f174 (r : Bool) : AV × Sig := (.one (.bool r), [])
def aaQ := E0
@[reducible] def Cz : List SP := .one (.dat (.sl 41 y27) true) :: .one (.dat (.sl 41 y27) true) :: U2 (.one (.dat .bool true) :: U4 (U2 (.und :: oI :: oI :: U8 (U4 ([])))))
@[reducible] def qW : Type := (List (Ty.T y27)) × (List (Ty.T y27)) × Bool × Int × Int × Unit
def te (v : qW) {Z : Type} (κ : Nat × qW -> Option Z) : Option Z := cond (decide (v.2.2.2.2.1 < v.2.2.2.1)) (if 0 <= v.2.2.2.2.1 then (bq ((v.1)[(v.2.2.2.2.1).toNat]?) (fun x1 => if 0 <= v.2.2.2.2.1 then (bq ((v.2.1)[(v.2.2.2.2.1).toNat]?) (fun x2 => cond (!((x1.1 == x2.1) && ((x1.2.1 == x2.2.1) && ((x1.2.2.1 == x2.2.2.1) && ((x1.2.2.2.1 == x2.2.2.2.1) && ((x1.2.2.2.2.1 == x2.2.2.2.2.1) && ((x1.2.2.2.2.2.1 == x2.2.2.2.2.2.1) && ((x1.2.2.2.2.2.2 == x2.2.2.2.2.2.2) && true)))))))) (κ (1, (v.1, v.2.1, false, v.2.2.2.1, v.2.2.2.2.1, ()))) (κ (0, (v.1, v.2.1, v.2.2.1, v.2.2.2.1, IntKind.wrap .i64 (v.2.2.2.2.1 + (1 : Int)), ()))))) else none)) else none) (κ (2, (v.1, v.2.1, v.2.2.1, v.2.2.2.1, v.2.2.2.2.1, ())))
def u7 (v : qW) : Option (Nat × qW) := te v some
def w4 (v : qW) : Nat := v.1.length + v.2.1.length + v.2.2.2.1.toNat + v.2.2.2.2.1.toNat + 100
def ng (h0 : List (Ty.T y27)) (h1 : List (Ty.T y27)) (h2 : Bool) (h3 : Int) (h4 : Int) (c : Nat) : Bool := iK u7 w4 (h0, h1, h2, h3, h4, ()) c
def OQ (h0 : List (Ty.T y27)) (h1 : List (Ty.T y27)) (h2 : Bool) (h3 : Int) (h4 : Int) : qW := iW u7 w4 (h0, h1, h2, h3, h4, ())
def Oo (v : qW) : aR (Ex × St) := bj u7 (w4 v) v (aB Cz aG) [.ret, .exit 0] 0
theorem XY : bg Tryz.prog (aH (pb 4 11) (ae Tryz.f174)) Cz aG Oo := au (lt := .none) aaQ.ok ai (ag.no _) fun n v K => Eq.trans (b := te v (cM _ _ _ _ _ K)) (by kernel_rfl) (show te v _ = (te v some).bind _ from (bC (bI (bO fun x1 => (bI (bO fun x2 => (bC rfl rfl))))) rfl))
def abR := aaQ.l (g := 174) (t := (bW (pb 4 11) (ae Tryz.f174) .none (.sum Cz aG Oo))) (aP Tryz.func174 (ag.put (aC (by kernel_rfl)) (ag.no _) XY))
def aaF (a0 : List (Ty.T y27)) (a1 : List (Ty.T y27)) : Option (AV × Sig) := cond (((a0).length : Int) != ((a1).length : Int)) (some (.one (.bool false), [])) (cond (ng a0 a1 false ((a0).length : Int) 0 0) (some (.one (.bool (OQ a0 a1 false ((a0).length : Int) 0).2.2.1), [])) (cond (ng a0 a1 false ((a0).length : Int) 0 1) (some (.one (.bool true), [])) (none)))
def MP (a0 : List (Ty.T y27)) (a1 : List (Ty.T y27)) : Bool := cond (((a0).length : Int) != ((a1).length : Int)) (false) (cond (ng a0 a1 false ((a0).length : Int) 0 0) ((OQ a0 a1 false ((a0).length : Int) 0).2.2.1) (cond (ng a0 a1 false ((a0).length : Int) 0 1) (true) (false)))
def d174 (a0 : List (Ty.T y27)) (a1 : List (Ty.T y27)) : Bool := cond (((a0).length : Int) != ((a1).length : Int)) (true) (cond (ng a0 a1 false ((a0).length : Int) 0 0) (true) (cond (ng a0 a1 false ((a0).length : Int) 0 1) (true) (false)))
theorem adE (a0 : List (Ty.T y27)) (a1 : List (Ty.T y27)) : aaF a0 a1 = cond (d174 a0 a1) (some (f174 (MP a0 a1))) none := (pC (pS _) (pC (pS _) (pC (pS _) (pN _))))
def ahq : Prim := ⟨[.one (.dat (.sl 41 y27) true), .one (.dat (.sl 41 y27) true)], fun v => .br (d174 v.1 v.2.1) (.done (f174 (MP v.1 v.2.1))) .no⟩
theorem acD : PO 174 ahq := pK abR fun v => Eq.trans (b := aaF v.1 v.2.1) (by kernel_rfl) (adE v.1 v.2.1)
def f179 (r : Bool) : AV × Sig := (.one (.bool r), [])
def ahN := (E0.p acD)
def ac3 (a0 : Ty.T bp) (a1 : Ty.T bp) : Option (AV × Sig) := cond (a0.1 == a1.1) (cond (a0.2.1 == a1.2.1) (cond (a0.2.2.1 == a1.2.2.1) (cond (a0.2.2.2.1 == a1.2.2.2.1) (cond (a0.2.2.2.2.1 == a1.2.2.2.2.1) (cond (a0.2.2.2.2.2.1 == a1.2.2.2.2.2.1) (cond (d174 a0.2.2.2.2.2.2 a1.2.2.2.2.2.2) (some (.one (.bool (MP a0.2.2.2.2.2.2 a1.2.2.2.2.2.2)), [])) (none)) (some (.one (.bool false), []))) (some (.one (.bool false), []))) (some (.one (.bool false), []))) (some (.one (.bool false), []))) (some (.one (.bool false), []))) (some (.one (.bool false), []))
def Pc (a0 : Ty.T bp) (a1 : Ty.T bp) : Bool := cond (a0.1 == a1.1) (cond (a0.2.1 == a1.2.1) (cond (a0.2.2.1 == a1.2.2.1) (cond (a0.2.2.2.1 == a1.2.2.2.1) (cond (a0.2.2.2.2.1 == a1.2.2.2.2.1) (cond (a0.2.2.2.2.2.1 == a1.2.2.2.2.2.1) (cond (d174 a0.2.2.2.2.2.2 a1.2.2.2.2.2.2) ((MP a0.2.2.2.2.2.2 a1.2.2.2.2.2.2)) (false)) (false)) (false)) (false)) (false)) (false)) (false)
def d179 (a0 : Ty.T bp) (a1 : Ty.T bp) : Bool := cond (a0.1 == a1.1) (cond (a0.2.1 == a1.2.1) (cond (a0.2.2.1 == a1.2.2.1) (cond (a0.2.2.2.1 == a1.2.2.2.1) (cond (a0.2.2.2.2.1 == a1.2.2.2.2.1) (cond (a0.2.2.2.2.2.1 == a1.2.2.2.2.2.1) (cond (d174 a0.2.2.2.2.2.2 a1.2.2.2.2.2.2) (true) (false)) (true)) (true)) (true)) (true)) (true)) (true)
theorem adw (a0 : Ty.T bp) (a1 : Ty.T bp) : ac3 a0 a1 = cond (d179 a0 a1) (some (f179 (Pc a0 a1))) none := (pC (pC (pC (pC (pC (pC (pC (pS _) (pN _)) (pS _)) (pS _)) (pS _)) (pS _)) (pS _)) (pS _))
def aeo : Prim := ⟨[.agg [.dat bp true], .agg [.dat bp true]], fun v => .br (d179 v.1 v.2.1) (.done (f179 (Pc v.1 v.2.1))) .no⟩
theorem ZZ : PO 179 aeo := pK ahN fun v => Eq.trans (b := ac3 v.1 v.2.1) (by kernel_rfl) (adw v.1 v.2.1)
def f73 (r : Bool) : AV × Sig := (.one (.bool r), [])
def E73 := (E0.p ZZ)
def t73 (a0 : Ty.T aa) (a1 : Ty.T aa) {Z : Type} (κ : Bool -> Option Z) : Option Z := cond (a0.1 == a1.1) (cond (a0.2.1 == a1.2.1) (cond (a0.2.2.1 == a1.2.2.1) (cond (a0.2.2.2.1 == a1.2.2.2.1) (cond ((a0.2.2.2.2.1.1 == a1.2.2.2.2.1.1) && ((a0.2.2.2.2.1.2.1 == a1.2.2.2.2.1.2.1) && ((a0.2.2.2.2.1.2.2.1 == a1.2.2.2.2.1.2.2.1) && ((a0.2.2.2.2.1.2.2.2.1 == a1.2.2.2.2.1.2.2.2.1) && ((a0.2.2.2.2.1.2.2.2.2.1 == a1.2.2.2.2.1.2.2.2.2.1) && ((a0.2.2.2.2.1.2.2.2.2.2.1 == a1.2.2.2.2.1.2.2.2.2.2.1) && ((a0.2.2.2.2.1.2.2.2.2.2.2 == a1.2.2.2.2.1.2.2.2.2.2.2) && true))))))) (cond ((a0.2.2.2.2.2.1.1 == a1.2.2.2.2.2.1.1) && ((a0.2.2.2.2.2.1.2 == a1.2.2.2.2.2.1.2) && true)) (cond (d179 a0.2.2.2.2.2.2.1 a1.2.2.2.2.2.2.1) (cond (Pc a0.2.2.2.2.2.2.1 a1.2.2.2.2.2.2.1) (cond (a0.2.2.2.2.2.2.2.1 == a1.2.2.2.2.2.2.2.1) (κ (a0.2.2.2.2.2.2.2.2 == a1.2.2.2.2.2.2.2.2)) (κ false)) (κ false)) (none)) (κ false)) (κ false)) (κ false)) (κ false)) (κ false)) (κ false)
def v73 (a0 : Ty.T aa) (a1 : Ty.T aa) : Bool := (t73 a0 a1 some).getD false
def d73 (a0 : Ty.T aa) (a1 : Ty.T aa) : Bool := (t73 a0 a1 some).isSome
def p73 : Prim := ⟨[.agg [.dat aa true], .agg [.dat aa true]], fun v => .br (d73 v.1 v.2.1) (.done (f73 (v73 v.1 v.2.1))) .no⟩
theorem abb : PO 73 p73 := pK E73 fun v => Eq.trans (b := (t73 v.1 v.2.1 (sm f73))) (by kernel_rfl) (ar (show t73 v.1 v.2.1 (sm f73) = (t73 v.1 v.2.1 some).bind _ from by unfold t73; simp only [bb]))
def RF (r : Bool) : AV × Sig := (.one (.bool r), [])
def OZ := (E0.p abb)
@[reducible] def tF : List SP := .und :: .one (.dat (.sl 109 aa) true) :: .one (.fnc 73 []) :: U2 (.und :: .one (.dat .bool true) :: U8 (.one (.dat (.sl 109 aa) true) :: oI :: oI :: U8 (U4 (U2 ([])))))
def kZ (v : e7) {Z : Type} (κ : Nat × e7 -> Option Z) : Option Z := cond (decide (v.2.2.2.2.1 < v.2.2.2.1)) (if 0 <= v.2.2.2.2.1 then (bq ((v.2.2.1)[(v.2.2.2.2.1).toNat]?) (fun x1 => if 0 <= v.2.2.2.2.1 then (bq ((v.1)[(v.2.2.2.2.1).toNat]?) (fun x2 => cond (d73 x1 x2) (cond (!(v73 x1 x2)) (κ (1, (v.1, false, v.2.2.1, v.2.2.2.1, v.2.2.2.2.1, ()))) (κ (0, (v.1, v.2.1, v.2.2.1, v.2.2.2.1, IntKind.wrap .i64 (v.2.2.2.2.1 + (1 : Int)), ())))) (none))) else none)) else none) (κ (2, (v.1, v.2.1, v.2.2.1, v.2.2.2.1, v.2.2.2.2.1, ())))
def kq (v : e7) : Option (Nat × e7) := kZ v some
def mB (v : e7) : Nat := v.1.length + v.2.2.1.length + v.2.2.2.1.toNat + v.2.2.2.2.1.toNat + 100
def fY (h0 : List (Ty.T aa)) (h1 : Bool) (h2 : List (Ty.T aa)) (h3 : Int) (h4 : Int) (c : Nat) : Bool := iK kq mB (h0, h1, h2, h3, h4, ()) c
def FO (h0 : List (Ty.T aa)) (h1 : Bool) (h2 : List (Ty.T aa)) (h3 : Int) (h4 : Int) : e7 := iW kq mB (h0, h1, h2, h3, h4, ())
def Gx (v : e7) : aR (Ex × St) := bj kq (mB v) v (aB tF aG) [.ret, .exit 0] 0
theorem Qh : bg Tryz.prog (aH (pb 4 11) (ae Tryz.f180)) tF aG Gx := au (lt := .none) OZ.ok ai (ag.no _) fun n v K => Eq.trans (b := kZ v (cM _ _ _ _ _ K)) (by kernel_rfl) (show kZ v _ = (kZ v some).bind _ from (bC (bI (bO fun x1 => (bI (bO fun x2 => (bC (bC rfl rfl) rfl))))) rfl))
def Ux := OZ.l (g := 180) (t := (bW (pb 4 11) (ae Tryz.f180) .none (.sum tF aG Gx))) (aP Tryz.func180 (ag.put (aC (by kernel_rfl)) (ag.no _) Qh))
def PU (a0 : List (Ty.T aa)) (a1 : List (Ty.T aa)) : Option (AV × Sig) := cond (((a0).length : Int) != ((a1).length : Int)) (some (.one (.bool false), [])) (cond (fY a1 false a0 ((a0).length : Int) 0 0) (some (.one (.bool (FO a1 false a0 ((a0).length : Int) 0).2.1), [])) (cond (fY a1 false a0 ((a0).length : Int) 0 1) (some (.one (.bool true), [])) (none)))
def uE (a0 : List (Ty.T aa)) (a1 : List (Ty.T aa)) : Bool := cond (((a0).length : Int) != ((a1).length : Int)) (false) (cond (fY a1 false a0 ((a0).length : Int) 0 0) ((FO a1 false a0 ((a0).length : Int) 0).2.1) (cond (fY a1 false a0 ((a0).length : Int) 0 1) (true) (false)))
def qt (a0 : List (Ty.T aa)) (a1 : List (Ty.T aa)) : Bool := cond (((a0).length : Int) != ((a1).length : Int)) (true) (cond (fY a1 false a0 ((a0).length : Int) 0 0) (true) (cond (fY a1 false a0 ((a0).length : Int) 0 1) (true) (false)))
theorem WH (a0 : List (Ty.T aa)) (a1 : List (Ty.T aa)) : PU a0 a1 = cond (qt a0 a1) (some (RF (uE a0 a1))) none := (pC (pS _) (pC (pS _) (pC (pS _) (pN _))))
def WV : Prim := ⟨[.one (.dat (.sl 109 aa) true), .one (.dat (.sl 109 aa) true), .one (.fnc 73 [])], fun v => .br (qt v.1 v.2.1) (.done (RF (uE v.1 v.2.1))) .no⟩
theorem SK : PO 180 WV := pK Ux fun v => Eq.trans (b := PU v.1 v.2.1) (by kernel_rfl) (WH v.1 v.2.1)
def f74 (r : Bool) : AV × Sig := (.one (.bool r), [])
def E74 := (E0.p SK)
def u74 (a0 : List (Ty.T aa)) (a1 : List (Ty.T aa)) : Option (AV × Sig) := cond (qt a0 a1) (some (.one (.bool (uE a0 a1)), [])) (none)
def v74 (a0 : List (Ty.T aa)) (a1 : List (Ty.T aa)) : Bool := cond (qt a0 a1) ((uE a0 a1)) (false)
def d74 (a0 : List (Ty.T aa)) (a1 : List (Ty.T aa)) : Bool := cond (qt a0 a1) (true) (false)
theorem o74 (a0 : List (Ty.T aa)) (a1 : List (Ty.T aa)) : u74 a0 a1 = cond (d74 a0 a1) (some (f74 (v74 a0 a1))) none := (pC (pS _) (pN _))
def p74 : Prim := ⟨[.one (.dat (.sl 109 aa) true), .one (.dat (.sl 109 aa) true)], fun v => .br (d74 v.1 v.2.1) (.done (f74 (v74 v.1 v.2.1))) .no⟩
theorem aeg : PO 74 p74 := pK E74 fun v => Eq.trans (b := u74 v.1 v.2.1) (by kernel_rfl) (o74 v.1 v.2.1)
end
end Go.Proofs.YtahlaccdpmddbaaGreat.Vm
