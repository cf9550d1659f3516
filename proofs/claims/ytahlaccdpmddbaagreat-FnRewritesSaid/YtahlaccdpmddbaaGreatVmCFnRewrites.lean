/- Contracts. No condition. -/
import Derived.Test.YtahlaccdpmddbaaGreatVmCFnRewritesP5
import Derived.Test.YtahlaccdpmddbaaGreatVmLibThree
namespace Go.Proofs.YtahlaccdpmddbaaGreat.Vm
open Go Go.Proofs.YtahlaccdpmddbaaGreat.Lib
noncomputable section
set_option maxRecDepth 100000
set_option linter.unusedVariables false
def f52 (r : (List (Ty.T y27)) × (List (Ty.T ab)) × (List (Ty.T (.int .i64))) × (List (Ty.T y66))) : AV × Sig := (.agg ([.sl 4096] ++ [.sl 8192] ++ [.sl 12288] ++ [.sl 16384]), [(4096, .arr 41 y27 r.1 false), (8192, .arr 109 ab r.2.1 false), (12288, .arr 3 (.int .i64) r.2.2.1 false), (16384, .arr 67 y66 r.2.2.2 false)])
def E52 := (((((E0.g Ts).p V9).p aaf).p aa6).p LO)
@[reducible] def EB : List SP := .und :: .one (.dat (.sl 109 ab) true) :: .und :: .one (.dat (.sl 3 (.int .i64)) true) :: .one (.ptr 4 0) :: .und :: .one (.ptr 6 0) :: .und :: .one (.ptr 8 0) :: U32 (U8 (U2 ([])))
@[reducible] def Dm : List (Nat × GP) := [(4, .box 37 [.dat y36 true]), (6, .box 41 [.dat y27 false]), (8, .box 57 [.dat y56 false])]
@[reducible] def bV : Type := (List (Ty.T ab)) × (List (Ty.T (.int .i64))) × (Ty.T y36) × (Ty.T y27) × (Ty.T y56) × Unit
@[reducible] def tY : List SP := .und :: .one (.dat (.sl 109 ab) true) :: U2 (.one (.ptr 4 0) :: .und :: .one (.ptr 6 0) :: .und :: .one (.ptr 8 0) :: .one (.ptr 19 0) :: U32 (U8 (.und :: [])))
@[reducible] def tI : List (Nat × GP) := [(4, .box 37 [.dat y36 true]), (6, .box 41 [.dat y27 false]), (8, .box 57 [.dat y56 false]), (19, .box 182 [.dat y36 true, .own 4108, .own 13, .own 16, .own 17]), (13, .arr 3 (.int .i64) false), (16, .arr 41 y27 false), (17, .arr 67 y66 false), (4108, .arr 109 ab false)]
def KX (v : bV) (r : Unit) : Ex × St := (.normal, ax tY tI (v.1, v.2.2.1, v.2.2.2.1, v.2.2.2.2.1, v.2.2.1, [] ++ v.2.1, [], [], (kL v.1), ()))
def pL (v : bV) {Z : Type} (κ : Unit -> Option Z) : Option Z := cond (d154 v.1) (if ([] ++ v.2.1 : List (Ty.T (.int .i64))).length * 8 <= 140737488351232 then (κ ()) else none) (none)
def aak (v : bV) : Unit := (pL v some).getD ()
def BV (v : bV) : Bool := (pL v some).isSome
def VV (v : bV) : aJ (Ex × St) := .br (BV v) (.done (KX v (aak v))) .no
def cm : List (List Nat) := [[1,4,0,2,3,6,5,7,8,9,10],[1,4,0,2,3,6,7,5,8,9,10],[1,4,0,2,3,5,6,7,8,9,10],[1,4,0,2,3,5,7,6,8,9,10],[1,4,0,2,3,7,6,5,8,9,10],[1,4,0,2,3,7,5,6,8,9,10],[1,4,0,2,6,7,3,5,8,9,10],[1,4,0,2,7,3,6,5,8,9,10],[1,4,0,2,7,3,5,6,8,9,10],[1,4,0,3,6,7,2,5,8,9,10],[1,4,0,3,7,2,6,5,8,9,10],[1,4,0,3,7,2,5,6,8,9,10],[1,4,0,6,7,2,3,5,8,9,10],[1,4,0,7,2,3,6,5,8,9,10],[1,4,0,7,2,3,5,6,8,9,10],[1,4,2,3,6,5,0,7,8,9,10],[1,4,2,3,6,5,7,0,8,9,10],[1,4,2,3,6,7,0,5,8,9,10],[1,4,2,3,6,7,5,0,8,9,10],[1,4,2,3,5,0,6,7,8,9,10],[1,4,2,3,5,0,7,6,8,9,10],[1,4,2,3,5,6,7,0,8,9,10],[1,4,2,3,5,7,0,6,8,9,10],[1,4,2,3,7,0,6,5,8,9,10],[1,4,2,3,7,0,5,6,8,9,10],[1,4,2,3,7,6,5,0,8,9,10],[1,4,2,3,7,5,0,6,8,9,10],[1,4,2,6,7,0,3,5,8,9,10],[1,4,2,6,7,3,5,0,8,9,10],[1,4,2,7,0,3,6,5,8,9,10],[1,4,2,7,0,3,5,6,8,9,10],[1,4,2,7,3,6,5,0,8,9,10],[1,4,2,7,3,5,0,6,8,9,10],[1,4,3,6,7,0,2,5,8,9,10],[1,4,3,6,7,2,5,0,8,9,10],[1,4,3,7,0,2,6,5,8,9,10],[1,4,3,7,0,2,5,6,8,9,10],[1,4,3,7,2,6,5,0,8,9,10],[1,4,3,7,2,5,0,6,8,9,10],[1,4,6,7,0,2,3,5,8,9,10],[1,4,6,7,2,3,5,0,8,9,10],[1,4,7,0,2,3,6,5,8,9,10],[1,4,7,0,2,3,5,6,8,9,10],[1,4,7,2,3,6,5,0,8,9,10],[1,4,7,2,3,5,0,6,8,9,10]]
def aU (v : bV) (π : List Nat) : Prop := l8 E52.E (av [true, false] (ae Tryz.f52)) tY tI (ax EB Dm v) π = pL v (sm (KX v))
theorem T8 (v : bV) : aU v (cm.getD 0 []) := by unfold aU; kernel_rfl
theorem UR (v : bV) : aU v (cm.getD 1 []) := by unfold aU; kernel_rfl
theorem Uq (v : bV) : aU v (cm.getD 2 []) := by unfold aU; kernel_rfl
theorem S2 (v : bV) : aU v (cm.getD 3 []) := by unfold aU; kernel_rfl
theorem U7 (v : bV) : aU v (cm.getD 4 []) := by unfold aU; kernel_rfl
theorem TM (v : bV) : aU v (cm.getD 5 []) := by unfold aU; kernel_rfl
theorem Tk (v : bV) : aU v (cm.getD 6 []) := by unfold aU; kernel_rfl
theorem S9 (v : bV) : aU v (cm.getD 7 []) := by unfold aU; kernel_rfl
theorem U0 (v : bV) : aU v (cm.getD 8 []) := by unfold aU; kernel_rfl
theorem SV (v : bV) : aU v (cm.getD 9 []) := by unfold aU; kernel_rfl
theorem Ri (v : bV) : aU v (cm.getD 10 []) := by unfold aU; kernel_rfl
theorem RP (v : bV) : aU v (cm.getD 11 []) := by unfold aU; kernel_rfl
theorem QL (v : bV) : aU v (cm.getD 12 []) := by unfold aU; kernel_rfl
theorem Q3 (v : bV) : aU v (cm.getD 13 []) := by unfold aU; kernel_rfl
theorem Q6 (v : bV) : aU v (cm.getD 14 []) := by unfold aU; kernel_rfl
theorem PG (v : bV) : aU v (cm.getD 15 []) := by unfold aU; kernel_rfl
theorem QP (v : bV) : aU v (cm.getD 16 []) := by unfold aU; kernel_rfl
theorem NF (v : bV) : aU v (cm.getD 17 []) := by unfold aU; kernel_rfl
theorem OG (v : bV) : aU v (cm.getD 18 []) := by unfold aU; kernel_rfl
theorem Rj (v : bV) : aU v (cm.getD 19 []) := by unfold aU; kernel_rfl
theorem NA (v : bV) : aU v (cm.getD 20 []) := by unfold aU; kernel_rfl
theorem QC (v : bV) : aU v (cm.getD 21 []) := by unfold aU; kernel_rfl
theorem Oa (v : bV) : aU v (cm.getD 22 []) := by unfold aU; kernel_rfl
theorem SB (v : bV) : aU v (cm.getD 23 []) := by unfold aU; kernel_rfl
theorem RJ (v : bV) : aU v (cm.getD 24 []) := by unfold aU; kernel_rfl
theorem Qk (v : bV) : aU v (cm.getD 25 []) := by unfold aU; kernel_rfl
theorem QX (v : bV) : aU v (cm.getD 26 []) := by unfold aU; kernel_rfl
theorem Sg (v : bV) : aU v (cm.getD 27 []) := by unfold aU; kernel_rfl
theorem PB (v : bV) : aU v (cm.getD 28 []) := by unfold aU; kernel_rfl
theorem SK (v : bV) : aU v (cm.getD 29 []) := by unfold aU; kernel_rfl
theorem PQ (v : bV) : aU v (cm.getD 30 []) := by unfold aU; kernel_rfl
theorem SJ (v : bV) : aU v (cm.getD 31 []) := by unfold aU; kernel_rfl
theorem Pk (v : bV) : aU v (cm.getD 32 []) := by unfold aU; kernel_rfl
theorem Qc (v : bV) : aU v (cm.getD 33 []) := by unfold aU; kernel_rfl
theorem RE (v : bV) : aU v (cm.getD 34 []) := by unfold aU; kernel_rfl
theorem RA (v : bV) : aU v (cm.getD 35 []) := by unfold aU; kernel_rfl
theorem Q0 (v : bV) : aU v (cm.getD 36 []) := by unfold aU; kernel_rfl
theorem OU (v : bV) : aU v (cm.getD 37 []) := by unfold aU; kernel_rfl
theorem Px (v : bV) : aU v (cm.getD 38 []) := by unfold aU; kernel_rfl
theorem SA (v : bV) : aU v (cm.getD 39 []) := by unfold aU; kernel_rfl
theorem Sm (v : bV) : aU v (cm.getD 40 []) := by unfold aU; kernel_rfl
theorem Pt (v : bV) : aU v (cm.getD 41 []) := by unfold aU; kernel_rfl
theorem Se (v : bV) : aU v (cm.getD 42 []) := by unfold aU; kernel_rfl
theorem Ol (v : bV) : aU v (cm.getD 43 []) := by unfold aU; kernel_rfl
theorem P0 (v : bV) : aU v (cm.getD 44 []) := by unfold aU; kernel_rfl
theorem adF (v : bV) : ∀ π ∈ cm, l8 E52.E (av [true, false] (ae Tryz.f52)) tY tI (ax EB Dm v) π = pL v (sm (KX v)) := ar (T8 v) <| ar (UR v) <| ar (Uq v) <| ar (S2 v) <| ar (U7 v) <| ar (TM v) <| ar (Tk v) <| ar (S9 v) <| ar (U0 v) <| ar (SV v) <| ar (Ri v) <| ar (RP v) <| ar (QL v) <| ar (Q3 v) <| ar (Q6 v) <| ar (PG v) <| ar (QP v) <| ar (NF v) <| ar (OG v) <| ar (Rj v) <| ar (NA v) <| ar (QC v) <| ar (Oa v) <| ar (SB v) <| ar (RJ v) <| ar (Qk v) <| ar (QX v) <| ar (Sg v) <| ar (PB v) <| ar (SK v) <| ar (PQ v) <| ar (SJ v) <| ar (Pk v) <| ar (Qc v) <| ar (RE v) <| ar (RA v) <| ar (Q0 v) <| ar (OU v) <| ar (Px v) <| ar (SA v) <| ar (Sm v) <| ar (Pt v) <| ar (Se v) <| ar (Ol v) <| ar (P0 v) <| Ei
theorem aan : aN Tryz.prog (av [true, false] (ae Tryz.f52)) EB Dm VV := nq (by kernel_rfl) (sx := tY) (gx := tI) E52.ok aj (by kernel_rfl) (by kernel_rfl) fun v π hπ => (adF v π hπ).trans (aq (show pL v (sm (KX v)) = (pL v some).bind _ from (bC (bI rfl) rfl)))
@[reducible] def Gb : Type := (List (Ty.T ab)) × (Ty.T y36) × (Ty.T y27) × (Ty.T y56) × (Ty.T y36) × (List (Ty.T (.int .i64))) × (List (Ty.T y27)) × (List (Ty.T y66)) × (List (Ty.T ab)) × Unit
@[reducible] def EG : List SP := U4 (U2 (.one (.ptr 6 0) :: .und :: .one (.ptr 8 0) :: .one (.ptr 19 0) :: U16 (U2 (.und :: .one (.dat .bool true) :: U16 (U4 (.und :: []))))))
@[reducible] def C7 : List (Nat × GP) := [(6, .box 41 [.dat y27 false]), (8, .box 57 [.dat y56 false]), (19, .box 182 [.dat y36 true, .own 4108, .own 13, .own 16, .own 17]), (13, .arr 3 (.int .i64) false), (16, .arr 41 y27 false), (17, .arr 67 y66 false), (4108, .arr 109 ab false)]
def Rz (v : Gb) (r : Bool) : Ex × St := (.normal, ax EG C7 (r, v.2.2.1, v.2.2.2.1, v.2.2.2.2.1, v.2.2.2.2.2.1, v.2.2.2.2.2.2.1, v.2.2.2.2.2.2.2.1, v.2.2.2.2.2.2.2.2.1, ()))
def rk (v : Gb) {Z : Type} (κ : Bool -> Option Z) : Option Z := cond (d155 v.2.1) (cond (kj v.2.1) (cond (d156 v.1) (cond (pD v.1) (κ (cu v.2.2.1)) (κ false)) (none)) (κ false)) (none)
def pM (v : Gb) : Bool := (rk v some).getD false
def Az (v : Gb) : Bool := (rk v some).isSome
def VX (v : Gb) : aJ (Ex × St) := .br (Az v) (.done (Rz v (pM v))) .no
theorem adf : aN Tryz.prog (av (pb 4 3) (ae Tryz.f52)) tY tI VX := aI (lt := .none) (sx := EG) (gx := C7) E52.ok aj (ah.no _) fun v => Eq.trans (b := rk v (sm (Rz v))) (by kernel_rfl) (aq (show rk v (sm (Rz v)) = (rk v some).bind _ from (bC (bC (bC (bC rfl rfl) rfl) rfl) rfl)))
@[reducible] def Gr : Type := Bool × (Ty.T y27) × (Ty.T y56) × (Ty.T y36) × (List (Ty.T (.int .i64))) × (List (Ty.T y27)) × (List (Ty.T y66)) × (List (Ty.T ab)) × Unit
@[reducible] def Sv : List SP := U8 (.one (.ptr 8 0) :: .one (.ptr 19 0) :: U32 (U8 (.und :: [])))
@[reducible] def Qi : List (Nat × GP) := [(8, .box 57 [.dat y56 false]), (19, .box 182 [.dat y36 true, .own 4108, .own 13, .own 16, .own 17]), (13, .arr 3 (.int .i64) false), (16, .arr 41 y27 false), (17, .arr 67 y66 false), (4108, .arr 109 ab false)]
def SH (v : Gr) (r : (Ty.T y36) × (List (Ty.T (.int .i64))) × (List (Ty.T y27)) × (List (Ty.T y66)) × (List (Ty.T ab))) : Ex × St := (.normal, ax Sv Qi (v.2.2.1, r.1, r.2.1, r.2.2.1, r.2.2.2.1, r.2.2.2.2, ()))
def sL (v : Gr) {Z : Type} (κ : (Ty.T y36) × (List (Ty.T (.int .i64))) × (List (Ty.T y27)) × (List (Ty.T y66)) × (List (Ty.T ab)) -> Option Z) : Option Z := cond v.1 (cond (JT v.2.1 [] v.2.2.2.1 v.2.2.2.2.2.2.2.1 v.2.2.2.2.1 v.2.2.2.2.2.1 v.2.2.2.2.2.2.1) (κ ((qK v.2.1 [] v.2.2.2.1 v.2.2.2.2.2.2.2.1 v.2.2.2.2.1 v.2.2.2.2.2.1 v.2.2.2.2.2.2.1).1, (qK v.2.1 [] v.2.2.2.1 v.2.2.2.2.2.2.2.1 v.2.2.2.2.1 v.2.2.2.2.2.1 v.2.2.2.2.2.2.1).2.2.1, (qK v.2.1 [] v.2.2.2.1 v.2.2.2.2.2.2.2.1 v.2.2.2.2.1 v.2.2.2.2.2.1 v.2.2.2.2.2.2.1).2.2.2.1, (qK v.2.1 [] v.2.2.2.1 v.2.2.2.2.2.2.2.1 v.2.2.2.2.1 v.2.2.2.2.2.1 v.2.2.2.2.2.2.1).2.2.2.2, (qK v.2.1 [] v.2.2.2.1 v.2.2.2.2.2.2.2.1 v.2.2.2.2.1 v.2.2.2.2.2.1 v.2.2.2.2.2.2.1).2.1)) (none)) (κ (v.2.2.2.1, v.2.2.2.2.1, v.2.2.2.2.2.1, v.2.2.2.2.2.2.1, v.2.2.2.2.2.2.2.1))
def rC (v : Gr) : (Ty.T y36) × (List (Ty.T (.int .i64))) × (List (Ty.T y27)) × (List (Ty.T y66)) × (List (Ty.T ab)) := (sL v some).getD ((Ty.zero y36), [], [], [], [])
def Bc (v : Gr) : Bool := (sL v some).isSome
def Vy (v : Gr) : aJ (Ex × St) := .br (Bc v) (.done (SH v (rC v))) .no
theorem ZH : aN Tryz.prog (av (pb 4 11) (ae Tryz.f52)) EG C7 Vy := aI (lt := .none) (sx := Sv) (gx := Qi) E52.ok aj (ah.no _) fun v => Eq.trans (b := sL v (sm (SH v))) (by kernel_rfl) (aq (show sL v (sm (SH v)) = (sL v some).bind _ from (bC (bC rfl rfl) rfl)))
def ahx := E52.l (g := 52) (t := (aD (pb 4 11) (ae Tryz.f52) (aD (pb 4 3) (ae Tryz.f52) (aD [true, false] (ae Tryz.f52) .none (.sum EB Dm VV)) (.sum tY tI VX)) (.sum EG C7 Vy))) (aQ Tryz.func52 (ah.b7 (az (by kernel_rfl)) (ah.b7 (az (by kernel_rfl)) (ah.b7 (az (by kernel_rfl)) (ah.no _) aan) adf) ZH))
def t52 (a0 : Ty.T y36) (a1 : List (Ty.T ab)) (a2 : Ty.T y27) (a3 : List (Ty.T (.int .i64))) {Z : Type} (κ : (List (Ty.T y27)) × (List (Ty.T ab)) × (List (Ty.T (.int .i64))) × (List (Ty.T y66)) -> Option Z) : Option Z := cond (BV (a1, a3, a0, a2, ([], [], [], []), ())) (cond (Az (a1, a0, a2, ([], [], [], []), a0, [] ++ a3, [], [], (kL a1), ())) (cond (Bc ((pM (a1, a0, a2, ([], [], [], []), a0, [] ++ a3, [], [], (kL a1), ())), a2, ([], [], [], []), a0, ([] ++ a3), [], [], (kL a1), ())) (κ ((rC ((pM (a1, a0, a2, ([], [], [], []), a0, [] ++ a3, [], [], (kL a1), ())), a2, ([], [], [], []), a0, ([] ++ a3), [], [], (kL a1), ())).2.2.1, (rC ((pM (a1, a0, a2, ([], [], [], []), a0, [] ++ a3, [], [], (kL a1), ())), a2, ([], [], [], []), a0, ([] ++ a3), [], [], (kL a1), ())).2.2.2.2, (rC ((pM (a1, a0, a2, ([], [], [], []), a0, [] ++ a3, [], [], (kL a1), ())), a2, ([], [], [], []), a0, ([] ++ a3), [], [], (kL a1), ())).2.1, (rC ((pM (a1, a0, a2, ([], [], [], []), a0, [] ++ a3, [], [], (kL a1), ())), a2, ([], [], [], []), a0, ([] ++ a3), [], [], (kL a1), ())).2.2.2.1)) (none)) (none)) (none)
def v52 (a0 : Ty.T y36) (a1 : List (Ty.T ab)) (a2 : Ty.T y27) (a3 : List (Ty.T (.int .i64))) : (List (Ty.T y27)) × (List (Ty.T ab)) × (List (Ty.T (.int .i64))) × (List (Ty.T y66)) := (t52 a0 a1 a2 a3 some).getD ([], [], [], [])
def d52 (a0 : Ty.T y36) (a1 : List (Ty.T ab)) (a2 : Ty.T y27) (a3 : List (Ty.T (.int .i64))) : Bool := (t52 a0 a1 a2 a3 some).isSome
def p52 : Prim := ⟨[.agg [.dat y36 true], .one (.dat (.sl 109 ab) true), .agg [.dat y27 true], .one (.dat (.sl 3 (.int .i64)) true)], fun v => .br (d52 v.1 v.2.1 v.2.2.1 v.2.2.2.1) (.done (f52 (v52 v.1 v.2.1 v.2.2.1 v.2.2.2.1))) .no⟩
theorem ah4 : PO 52 p52 := pK ahx fun v => Eq.trans (b := (t52 v.1 v.2.1 v.2.2.1 v.2.2.2.1 (sm f52))) (by kernel_rfl) (aq (show t52 v.1 v.2.1 v.2.2.1 v.2.2.2.1 (sm f52) = (t52 v.1 v.2.1 v.2.2.1 v.2.2.2.1 some).bind _ from (bC (bC (bC rfl rfl) rfl) rfl)))
def f167 (r : Bool) : AV × Sig := (.one (.bool r), [])
def agI := (E0.p Gz)
def aaX (a0 : Ty.T y27) : Option (AV × Sig) := some (.one (.bool (!(v53 a0))), [])
def TG (a0 : Ty.T y27) : Bool := !(v53 a0)
theorem ag1 (a0 : Ty.T y27) : aaX a0 = some (f167 (TG a0)) := rfl
def aja : Prim := ⟨[.agg [.dat y27 true]], fun v => .done (f167 (TG v.1))⟩
theorem aax : PO 167 aja := pK agI fun v => Eq.trans (b := aaX v.1) (by kernel_rfl) (ag1 v.1)
def QB (r : Int) : AV × Sig := (.one (.int .i64 r), [])
def QI := (E0.p aax)
@[reducible] def uX : List SP := .one (.dat (.sl 41 y27) true) :: .one (.fnc 167 []) :: U2 (oI :: U2 (oI :: oI :: U8 (U2 ([]))))
def kz (v : cD) {Z : Type} (κ : Nat × cD -> Option Z) : Option Z := cond (decide (v.2.2.2.1 < v.2.2.1)) (if 0 <= v.2.2.2.1 then (bt ((v.1)[(v.2.2.2.1).toNat]?) (fun x1 => cond (TG x1) (κ (1, (v.1, v.2.2.2.1, v.2.2.1, v.2.2.2.1, ()))) (κ (0, (v.1, v.2.1, v.2.2.1, IntKind.wrap .i64 (v.2.2.2.1 + (1 : Int)), ()))))) else none) (κ (2, (v.1, v.2.1, v.2.2.1, v.2.2.2.1, ())))
def ln (v : cD) : Option (Nat × cD) := kz v some
def nR (v : cD) : Nat := v.1.length + v.2.1.toNat + v.2.2.1.toNat + v.2.2.2.1.toNat + 100
def fq (h0 : List (Ty.T y27)) (h1 : Int) (h2 : Int) (h3 : Int) (c : Nat) : Bool := iK ln nR (h0, h1, h2, h3, ()) c
def rM (h0 : List (Ty.T y27)) (h1 : Int) (h2 : Int) (h3 : Int) : cD := iW ln nR (h0, h1, h2, h3, ())
def H3 (v : cD) : aJ (Ex × St) := bo ln (nR v) v (ax uX au) [.ret, .exit 0] 0
theorem QT : bl Tryz.prog (aB (pb 3 5) (ae Tryz.f249)) uX au H3 := aw (lt := .none) QI.ok aj (ah.no _) fun n v K => Eq.trans (b := kz v (cW _ _ _ _ _ K)) (by kernel_rfl) (show kz v _ = (kz v some).bind _ from (bC (bI (bO fun x1 => (bC rfl rfl))) rfl))
def TL := QI.l (g := 249) (t := (cv (pb 3 5) (ae Tryz.f249) .none (.sum uX au H3))) (aQ Tryz.func249 (ah.put (az (by kernel_rfl)) (ah.no _) QT))
def Pz (a0 : List (Ty.T y27)) : Option (AV × Sig) := cond (fq a0 0 ((a0).length : Int) 0 0) (some (.one (.int .i64 (rM a0 0 ((a0).length : Int) 0).2.1), [])) (cond (fq a0 0 ((a0).length : Int) 0 1) (some (.one (.int .i64 (-1)), [])) (none))
def yj (a0 : List (Ty.T y27)) : Int := cond (fq a0 0 ((a0).length : Int) 0 0) ((rM a0 0 ((a0).length : Int) 0).2.1) (cond (fq a0 0 ((a0).length : Int) 0 1) ((-1)) (0))
def uf (a0 : List (Ty.T y27)) : Bool := cond (fq a0 0 ((a0).length : Int) 0 0) (true) (cond (fq a0 0 ((a0).length : Int) 0 1) (true) (false))
theorem YS (a0 : List (Ty.T y27)) : Pz a0 = cond (uf a0) (some (QB (yj a0))) none := (pC (pS _) (pC (pS _) (pN _)))
def XJ : Prim := ⟨[.one (.dat (.sl 41 y27) true), .one (.fnc 167 [])], fun v => .br (uf v.1) (.done (QB (yj v.1))) .no⟩
theorem TB : PO 249 XJ := pK TL fun v => Eq.trans (b := Pz v.1) (by kernel_rfl) (YS v.1)
def OQ (r : Bool) : AV × Sig := (.one (.bool r), [])
def Wp := (E0.p TB)
def Re (a0 : List (Ty.T y27)) : Option (AV × Sig) := cond (uf a0) (some (.one (.bool (decide ((yj a0) ≥ (0 : Int)))), [])) (none)
def wL (a0 : List (Ty.T y27)) : Bool := cond (uf a0) (decide ((yj a0) ≥ (0 : Int))) (false)
def z7 (a0 : List (Ty.T y27)) : Bool := cond (uf a0) (true) (false)
theorem Y5 (a0 : List (Ty.T y27)) : Re a0 = cond (z7 a0) (some (OQ (wL a0))) none := (pC (pS _) (pN _))
def Yn : Prim := ⟨[.one (.dat (.sl 41 y27) true), .one (.fnc 167 [])], fun v => .br (z7 v.1) (.done (OQ (wL v.1))) .no⟩
theorem TU : PO 166 Yn := pK Wp fun v => Eq.trans (b := Re v.1) (by kernel_rfl) (Y5 v.1)
def f55 (r : Bool) : AV × Sig := (.one (.bool r), [])
def E55 := ((((((E0.p TU).p FU).p Br).p FO).p ju).p Gz)
def t55 (a0 : Ty.T y66) {Z : Type} (κ : Bool -> Option Z) : Option Z := cond (lb a0.1) (cond (mu a0.2.1) (cond (cw a0.2.2.2.1 1 5) (cond (cw a0.2.2.1 0 (IntKind.wrap .i64 (a0.2.2.2.1 - (1 : Int)))) (cond (pE a0.2.2.2.2.2.2.1) (cond (cw a0.2.2.2.2.2.2.2 0 4) (cond (v53 a0.2.2.2.2.1) (cond (decide (((a0.2.2.2.2.2.1).length : Int) <= (3 : Int))) (cond (z7 a0.2.2.2.2.2.1) (κ (!(wL a0.2.2.2.2.2.1))) (none)) (κ false)) (κ false)) (κ false)) (κ false)) (κ false)) (κ false)) (κ false)) (κ false)
def v55 (a0 : Ty.T y66) : Bool := (t55 a0 some).getD false
def d55 (a0 : Ty.T y66) : Bool := (t55 a0 some).isSome
def p55 : Prim := ⟨[.agg [.dat y66 true]], fun v => .br (d55 v.1) (.done (f55 (v55 v.1))) .no⟩
theorem aeA : PO 55 p55 := pK E55 fun v => Eq.trans (b := (t55 v.1 (sm f55))) (by kernel_rfl) (aq (show t55 v.1 (sm f55) = (t55 v.1 some).bind _ from by unfold t55; simp only [bb]))
def f57 (r : Bool) : AV × Sig := (.one (.bool r), [])
def E57 := (E0.p VM)
def u57 (a0 : List (Ty.T (.int .i64))) (a1 : List (Ty.T (.int .i64))) : Option (AV × Sig) := cond (decide (((a1).length : Int) <= ((a0).length : Int))) (if 0 <= (IntKind.wrap .i64 (((a0).length : Int) - ((a1).length : Int))) then (if (IntKind.wrap .i64 (((a0).length : Int) - ((a1).length : Int))) <= ((a0).length : Int) then (cond (d152 ((a0.take ((a0).length)).drop ((IntKind.wrap .i64 (((a0).length : Int) - ((a1).length : Int))).toNat)) a1) (some (.one (.bool (CL ((a0.take ((a0).length)).drop ((IntKind.wrap .i64 (((a0).length : Int) - ((a1).length : Int))).toNat)) a1)), [])) (none)) else none) else none) (some (.one (.bool false), []))
def v57 (a0 : List (Ty.T (.int .i64))) (a1 : List (Ty.T (.int .i64))) : Bool := cond (decide (((a1).length : Int) <= ((a0).length : Int))) (cond (d152 ((a0.take ((a0).length)).drop ((IntKind.wrap .i64 (((a0).length : Int) - ((a1).length : Int))).toNat)) a1) ((CL ((a0.take ((a0).length)).drop ((IntKind.wrap .i64 (((a0).length : Int) - ((a1).length : Int))).toNat)) a1)) (false)) (false)
def d57 (a0 : List (Ty.T (.int .i64))) (a1 : List (Ty.T (.int .i64))) : Bool := cond (decide (((a1).length : Int) <= ((a0).length : Int))) (decide (0 <= (IntKind.wrap .i64 (((a0).length : Int) - ((a1).length : Int)))) && (decide ((IntKind.wrap .i64 (((a0).length : Int) - ((a1).length : Int))) <= ((a0).length : Int)) && (cond (d152 ((a0.take ((a0).length)).drop ((IntKind.wrap .i64 (((a0).length : Int) - ((a1).length : Int))).toNat)) a1) (true) (false)))) (true)
theorem o57 (a0 : List (Ty.T (.int .i64))) (a1 : List (Ty.T (.int .i64))) : u57 a0 a1 = cond (d57 a0 a1) (some (f57 (v57 a0 a1))) none := (pC (pI (pI (pC (pS _) (pN _)))) (pS _))
def p57 : Prim := ⟨[.one (.dat (.sl 3 (.int .i64)) true), .one (.dat (.sl 3 (.int .i64)) true)], fun v => .br (d57 v.1 v.2.1) (.done (f57 (v57 v.1 v.2.1))) .no⟩
theorem ae1 : PO 57 p57 := pK E57 fun v => Eq.trans (b := u57 v.1 v.2.1) (by kernel_rfl) (o57 v.1 v.2.1)
def f7 (r : Bool) : AV × Sig := (.one (.bool r), [])
def E7 := (((((((((((E0.p agl).p ahj).p aiW).p ahZ).p ahO).p ah4).p Gz).p YX).p aeA).p abK).p ae1)
@[reducible] def VC : List SP := U2 (.one (.dat .bool true) :: .one (.ptr 3 0) :: .und :: .one (.ptr 5 0) :: .one (.own 53265) :: .one (.ptr 7 0) :: oI :: U16 (U8 (U2 (oI :: .one (.ptr 7 0) :: .one (.own 4122) :: oI :: .one (.dat .bool true) :: U64 (U32 (U16 ([])))))))
@[reducible] def pR : List (Nat × GP) := [(3, .box 37 [.dat y36 false]), (5, .box 41 [.dat y27 false]), (7, .box 57 [.own 4122, .own 8218, .own 12314, .own 16410]), (4122, .arr 41 y27 false), (8218, .arr 109 ab false), (12314, .arr 3 (.int .i64) false), (16410, .arr 67 y66 false), (53265, .arr 3 (.int .i64) false)]
@[reducible] def Rv : Type := Bool × Int × Int × Int × Bool × (Ty.T y36) × (Ty.T y27) × (List (Ty.T y27)) × (List (Ty.T ab)) × (List (Ty.T (.int .i64))) × (List (Ty.T y66)) × (List (Ty.T (.int .i64))) × Unit
@[reducible] def Vw : List SP := U2 (.one (.dat .bool true) :: .one (.ptr 3 0) :: .und :: .one (.ptr 5 0) :: .one (.own 53265) :: .one (.ptr 7 0) :: oI :: U16 (U8 (U2 (oI :: .one (.ptr 7 0) :: .one (.own 4122) :: oI :: .one (.dat .bool true) :: U2 (.one (.ptr 7 0) :: .one (.own 4122) :: oI :: .und :: .agg [.dat y27 false] :: .one (.dat .bool true) :: .one (.dat .bool true) :: .one (.dat .bool true) :: U4 (U2 (.one (.dat .bool true) :: U64 (U16 (U8 (U4 (U2 (.und :: []))))))))))))
def WL (v : Rv) (r : (Ty.T y27) × Bool × Bool × Bool × Bool) : Ex × St := (.normal, ax Vw pR (v.1, v.2.1, v.2.2.1, v.2.2.2.1, v.2.2.2.2.1, v.2.1, r.1, r.2.1, r.2.2.1, r.2.2.2.1, r.2.2.2.2, v.2.2.2.2.2.1, v.2.2.2.2.2.2.1, v.2.2.2.2.2.2.2.1, v.2.2.2.2.2.2.2.2.1, v.2.2.2.2.2.2.2.2.2.1, v.2.2.2.2.2.2.2.2.2.2.1, v.2.2.2.2.2.2.2.2.2.2.2.1, ()))
def Fx (v : Rv) {Z : Type} (κ : (Ty.T y27) × Bool × Bool × Bool × Bool -> Option Z) : Option Z := if 0 <= v.2.1 then (if v.2.1 < ((v.2.2.2.2.2.2.2.1).length : Int) then (bt ((v.2.2.2.2.2.2.2.1)[(v.2.1).toNat]?) (fun x1 => cond (!(v53 x1)) (κ (x1, (v53 x1), !(v53 x1), true, true)) (if 0 <= v.2.1 then (if v.2.1 < ((v.2.2.2.2.2.2.2.1).length : Int) then (bt ((v.2.2.2.2.2.2.2.1)[(v.2.1).toNat]?) (fun x2 => κ (x1, (v53 x1), !(v53 x1), false, (v54 x2)))) else none) else none))) else none) else none
def Y7 (v : Rv) : (Ty.T y27) × Bool × Bool × Bool × Bool := (Fx v some).getD ((Ty.zero y27), false, false, false, false)
def YG (v : Rv) : Bool := (Fx v some).isSome
def abw (v : Rv) : aJ (Ex × St) := .br (YG v) (.done (WL v (Y7 v))) .no
theorem aip : aN Tryz.prog (av [true, false, false] (aB (pb 7 95) (ae Tryz.f7))) VC pR abw := aI (lt := .none) (sx := Vw) (gx := pR) E7.ok aj (ah.no _) fun v => Eq.trans (b := Fx v (sm (WL v))) (by kernel_rfl) (aq (show Fx v (sm (WL v)) = (Fx v some).bind _ from by unfold Fx; simp only [bb]))
@[reducible] def Qx : List SP := U2 (.one (.dat .bool true) :: .one (.ptr 3 0) :: .und :: .one (.ptr 5 0) :: .one (.own 53265) :: .one (.ptr 7 0) :: oI :: U64 (U64 (U8 (U4 (U2 (.und :: []))))))
@[reducible] def rP : Type := Bool × Int × (Ty.T y36) × (Ty.T y27) × (List (Ty.T y27)) × (List (Ty.T ab)) × (List (Ty.T (.int .i64))) × (List (Ty.T y66)) × (List (Ty.T (.int .i64))) × Unit
def Mr (v : rP) {Z : Type} (κ : Nat × rP -> Option Z) : Option Z := cond (decide (v.2.1 < ((v.2.2.2.2.1).length : Int))) (cond (YG (v.1, v.2.1, v.2.1, ((v.2.2.2.2.1).length : Int), decide (v.2.1 < ((v.2.2.2.2.1).length : Int)), v.2.2.1, v.2.2.2.1, v.2.2.2.2.1, v.2.2.2.2.2.1, v.2.2.2.2.2.2.1, v.2.2.2.2.2.2.2.1, v.2.2.2.2.2.2.2.2.1, ())) (cond (Y7 (v.1, v.2.1, v.2.1, ((v.2.2.2.2.1).length : Int), decide (v.2.1 < ((v.2.2.2.2.1).length : Int)), v.2.2.1, v.2.2.2.1, v.2.2.2.2.1, v.2.2.2.2.2.1, v.2.2.2.2.2.2.1, v.2.2.2.2.2.2.2.1, v.2.2.2.2.2.2.2.2.1, ())).2.2.2.2 (κ (1, (false, v.2.1, v.2.2.1, v.2.2.2.1, v.2.2.2.2.1, v.2.2.2.2.2.1, v.2.2.2.2.2.2.1, v.2.2.2.2.2.2.2.1, v.2.2.2.2.2.2.2.2.1, ()))) (κ (0, (v.1, IntKind.wrap .i64 (v.2.1 + (1 : Int)), v.2.2.1, v.2.2.2.1, v.2.2.2.2.1, v.2.2.2.2.2.1, v.2.2.2.2.2.2.1, v.2.2.2.2.2.2.2.1, v.2.2.2.2.2.2.2.2.1, ())))) (none)) (κ (2, (v.1, v.2.1, v.2.2.1, v.2.2.2.1, v.2.2.2.2.1, v.2.2.2.2.2.1, v.2.2.2.2.2.2.1, v.2.2.2.2.2.2.2.1, v.2.2.2.2.2.2.2.2.1, ())))
def M1 (v : rP) : Option (Nat × rP) := Mr v some
def PF (v : rP) : Nat := v.2.1.toNat + v.2.2.1.1.length + v.2.2.1.2.1.length + v.2.2.2.2.1.length + v.2.2.2.2.2.1.length + v.2.2.2.2.2.2.1.length + v.2.2.2.2.2.2.2.1.length + v.2.2.2.2.2.2.2.2.1.length + 100
def Ub (h0 : Bool) (h1 : Int) (h2 : Ty.T y36) (h3 : Ty.T y27) (h4 : List (Ty.T y27)) (h5 : List (Ty.T ab)) (h6 : List (Ty.T (.int .i64))) (h7 : List (Ty.T y66)) (h8 : List (Ty.T (.int .i64))) (c : Nat) : Bool := iK M1 PF (h0, h1, h2, h3, h4, h5, h6, h7, h8, ()) c
def aa0 (h0 : Bool) (h1 : Int) (h2 : Ty.T y36) (h3 : Ty.T y27) (h4 : List (Ty.T y27)) (h5 : List (Ty.T ab)) (h6 : List (Ty.T (.int .i64))) (h7 : List (Ty.T y66)) (h8 : List (Ty.T (.int .i64))) : rP := iW M1 PF (h0, h1, h2, h3, h4, h5, h6, h7, h8, ())
def aba (v : rP) : aJ (Ex × St) := bo M1 (PF v) v (ax Qx pR) [.ret, .exit 0] 0
theorem adX : bl Tryz.prog (aB (pb 7 95) (ae Tryz.f7)) Qx pR aba := aw (lt := (aD [true, false, false] (aB (pb 7 95) (ae Tryz.f7)) .none (.sum VC pR abw))) E7.ok aj (ah.b7 (az (by kernel_rfl)) (ah.no _) aip) fun n v K => Eq.trans (b := Mr v (cW _ _ _ _ _ K)) (by kernel_rfl) (show Mr v _ = (Mr v some).bind _ from (bC (bC (bC rfl rfl) rfl) rfl))
@[reducible] def Qy : List SP := U2 (.one (.dat .bool true) :: .one (.ptr 3 0) :: .und :: .one (.ptr 5 0) :: .one (.own 53265) :: .one (.ptr 7 0) :: .und :: oI :: U64 (U64 (U8 (U4 (U2 ([]))))))
def MY (v : rP) {Z : Type} (κ : Nat × rP -> Option Z) : Option Z := cond (decide (v.2.1 < ((v.2.2.2.2.2.2.2.1).length : Int))) (if 0 <= v.2.1 then (if v.2.1 < ((v.2.2.2.2.2.2.2.1).length : Int) then (bt ((v.2.2.2.2.2.2.2.1)[(v.2.1).toNat]?) (fun x3 => cond (d55 x3) (cond (!(v55 x3)) (κ (1, (false, v.2.1, v.2.2.1, v.2.2.2.1, v.2.2.2.2.1, v.2.2.2.2.2.1, v.2.2.2.2.2.2.1, v.2.2.2.2.2.2.2.1, v.2.2.2.2.2.2.2.2.1, ()))) (κ (0, (v.1, IntKind.wrap .i64 (v.2.1 + (1 : Int)), v.2.2.1, v.2.2.2.1, v.2.2.2.2.1, v.2.2.2.2.2.1, v.2.2.2.2.2.2.1, v.2.2.2.2.2.2.2.1, v.2.2.2.2.2.2.2.2.1, ())))) (none))) else none) else none) (κ (2, (v.1, v.2.1, v.2.2.1, v.2.2.2.1, v.2.2.2.2.1, v.2.2.2.2.2.1, v.2.2.2.2.2.2.1, v.2.2.2.2.2.2.2.1, v.2.2.2.2.2.2.2.2.1, ())))
def MG (v : rP) : Option (Nat × rP) := MY v some
def OS (v : rP) : Nat := v.2.1.toNat + v.2.2.1.1.length + v.2.2.1.2.1.length + v.2.2.2.2.1.length + v.2.2.2.2.2.1.length + v.2.2.2.2.2.2.1.length + v.2.2.2.2.2.2.2.1.length + v.2.2.2.2.2.2.2.2.1.length + 100
def Td (h0 : Bool) (h1 : Int) (h2 : Ty.T y36) (h3 : Ty.T y27) (h4 : List (Ty.T y27)) (h5 : List (Ty.T ab)) (h6 : List (Ty.T (.int .i64))) (h7 : List (Ty.T y66)) (h8 : List (Ty.T (.int .i64))) (c : Nat) : Bool := iK MG OS (h0, h1, h2, h3, h4, h5, h6, h7, h8, ()) c
def abN (h0 : Bool) (h1 : Int) (h2 : Ty.T y36) (h3 : Ty.T y27) (h4 : List (Ty.T y27)) (h5 : List (Ty.T ab)) (h6 : List (Ty.T (.int .i64))) (h7 : List (Ty.T y66)) (h8 : List (Ty.T (.int .i64))) : rP := iW MG OS (h0, h1, h2, h3, h4, h5, h6, h7, h8, ())
def ach (v : rP) : aJ (Ex × St) := bo MG (OS v) v (ax Qy pR) [.ret, .exit 2] 0
theorem agw : bl Tryz.prog (aB (pb 8 191) (ae Tryz.f7)) Qy pR ach := aw (lt := .none) E7.ok aj (ah.no _) fun n v K => Eq.trans (b := MY v (cW _ _ _ _ _ K)) (by kernel_rfl) (show MY v _ = (MY v some).bind _ from (bC (bI (bI (bO fun x3 => (bC (bC rfl rfl) rfl)))) rfl))
@[reducible] def Wd : List SP := U2 (.one (.dat .bool true) :: .one (.ptr 3 0) :: .und :: .one (.ptr 5 0) :: .one (.own 53265) :: .one (.ptr 7 0) :: U2 (oI :: oI :: .one (.ptr 12 0) :: U64 (U64 (U8 (U2 (.und :: []))))))
@[reducible] def VP : List (Nat × GP) := [(3, .box 37 [.dat y36 false]), (5, .box 41 [.dat y27 false]), (7, .box 57 [.own 4122, .own 8218, .own 12314, .own 16410]), (12, .box 57 [.own 4179, .own 8275, .own 12371, .own 16467]), (4122, .arr 41 y27 false), (4179, .arr 41 y27 false), (8218, .arr 109 ab false), (8275, .arr 109 ab false), (12314, .arr 3 (.int .i64) false), (12371, .arr 3 (.int .i64) false), (16410, .arr 67 y66 false), (16467, .arr 67 y66 false), (53265, .arr 3 (.int .i64) false)]
@[reducible] def RQ : Type := Bool × Int × Int × (Ty.T y36) × (Ty.T y27) × (List (Ty.T y27)) × (List (Ty.T y27)) × (List (Ty.T ab)) × (List (Ty.T ab)) × (List (Ty.T (.int .i64))) × (List (Ty.T (.int .i64))) × (List (Ty.T y66)) × (List (Ty.T y66)) × (List (Ty.T (.int .i64))) × Unit
@[reducible] def VU : List SP := U2 (.one (.dat .bool true) :: U2 (.one (.ptr 5 0) :: .one (.own 53265) :: .one (.ptr 7 0) :: U2 (oI :: oI :: .one (.ptr 12 0) :: U64 (U8 (U4 (U2 (.one (.dat .bool true) :: U32 (U16 (U8 (U4 ([])))))))))))
@[reducible] def vO : List (Nat × GP) := [(5, .box 41 [.dat y27 false]), (7, .box 57 [.own 4122, .own 8218, .own 12314, .own 16410]), (12, .box 57 [.own 4179, .own 8275, .own 12371, .own 16467]), (4122, .arr 41 y27 false), (4179, .arr 41 y27 false), (8218, .arr 109 ab false), (8275, .arr 109 ab false), (12314, .arr 3 (.int .i64) false), (12371, .arr 3 (.int .i64) false), (16410, .arr 67 y66 false), (16467, .arr 67 y66 false), (53265, .arr 3 (.int .i64) false)]
def Wx (v : RQ) (r : Bool) : Ex × St := (.normal, ax VU vO (v.1, v.2.1, v.2.2.1, r, v.2.2.2.2.1, v.2.2.2.2.2.1, v.2.2.2.2.2.2.1, v.2.2.2.2.2.2.2.1, v.2.2.2.2.2.2.2.2.1, v.2.2.2.2.2.2.2.2.2.1, v.2.2.2.2.2.2.2.2.2.2.1, v.2.2.2.2.2.2.2.2.2.2.2.1, v.2.2.2.2.2.2.2.2.2.2.2.2.1, v.2.2.2.2.2.2.2.2.2.2.2.2.2.1, ()))
def L1 (v : RQ) {Z : Type} (κ : Bool -> Option Z) : Option Z := cond (d56 v.2.2.2.1) (cond (!(v56 v.2.2.2.1)) (κ true) (κ (!(v53 v.2.2.2.2.1)))) (none)
def YM (v : RQ) : Bool := (L1 v some).getD false
def Xr (v : RQ) : Bool := (L1 v some).isSome
def Zn (v : RQ) : aJ (Ex × St) := .br (Xr v) (.done (Wx v (YM v))) .no
theorem agL : aN Tryz.prog (av (pb 12 1023) (ae Tryz.f7)) Wd VP Zn := aI (lt := .none) (sx := VU) (gx := vO) E7.ok aj (ah.no _) fun v => Eq.trans (b := L1 v (sm (Wx v))) (by kernel_rfl) (aq (show L1 v (sm (Wx v)) = (L1 v some).bind _ from (bC (bC rfl rfl) rfl)))
@[reducible] def AW : List SP := U2 (.one (.dat .bool true) :: U2 (.one (.ptr 5 0) :: .one (.own 53265) :: .one (.ptr 7 0) :: U2 (oI :: oI :: .one (.ptr 12 0) :: U64 (U64 (U8 (U2 (.und :: [])))))))
@[reducible] def CM : Type := Bool × Int × Int × (Ty.T y27) × (List (Ty.T y27)) × (List (Ty.T y27)) × (List (Ty.T ab)) × (List (Ty.T ab)) × (List (Ty.T (.int .i64))) × (List (Ty.T (.int .i64))) × (List (Ty.T y66)) × (List (Ty.T y66)) × (List (Ty.T (.int .i64))) × Unit
def Um (v : CM) (r : Bool) : Ex × St := (.normal, ax AW vO (r, v.2.1, v.2.2.1, v.2.2.2.1, v.2.2.2.2.1, v.2.2.2.2.2.1, v.2.2.2.2.2.2.1, v.2.2.2.2.2.2.2.1, v.2.2.2.2.2.2.2.2.1, v.2.2.2.2.2.2.2.2.2.1, v.2.2.2.2.2.2.2.2.2.2.1, v.2.2.2.2.2.2.2.2.2.2.2.1, v.2.2.2.2.2.2.2.2.2.2.2.2.1, ()))
def S7 (v : CM) {Z : Type} (κ : Bool -> Z) : Z := cond (((v.2.2.2.2.1).length : Int) == (0 : Int)) (κ (((v.2.2.2.2.2.1).length : Int) == (0 : Int))) (κ false)
def Zr (v : CM) : Bool := S7 v id
def adK (v : CM) : aJ (Ex × St) := .done (Um v (Zr v))
theorem ad1 : aN Tryz.prog (av (pb 14 3071) (ae Tryz.f7)) AW vO adK := aI (lt := .none) (sx := AW) (gx := vO) E7.ok aj (ah.no _) fun v => Eq.trans (b := S7 v (sm (Um v))) (by kernel_rfl) (show S7 v (sm (Um v)) = some (Um v (S7 v id)) from (tC rfl rfl))
@[reducible] def VY : List SP := U2 (.one (.dat .bool true) :: U64 (U64 (U16 (U4 (.und :: [])))))
def Xx (v : CM) (r : Bool) : Ex × St := (.normal, ax VY au (r, ()))
def Hp (v : CM) {Z : Type} (κ : Bool -> Option Z) : Option Z := cond (d57 v.2.2.2.2.2.2.2.2.2.2.2.2.1 v.2.2.2.2.2.2.2.2.1) (cond (v57 v.2.2.2.2.2.2.2.2.2.2.2.2.1 v.2.2.2.2.2.2.2.2.1) (cond (v.2.2.1 == v.2.1) (cond (v54 v.2.2.2.1) (cond (((v.2.2.2.2.2.1).length : Int) == (0 : Int)) (κ (((v.2.2.2.2.2.2.2.2.2.2.2.1).length : Int) == (0 : Int))) (cond (((v.2.2.2.2.2.1).length : Int) == (1 : Int)) (if (0 : Int) < ((v.2.2.2.2.2.1).length : Int) then (bt ((v.2.2.2.2.2.1)[0]?) (fun x4 => cond ((x4.1 == v.2.2.2.1.1) && ((x4.2.1 == v.2.2.2.1.2.1) && ((x4.2.2.1 == v.2.2.2.1.2.2.1) && ((x4.2.2.2.1 == v.2.2.2.1.2.2.2.1) && ((x4.2.2.2.2.1 == v.2.2.2.1.2.2.2.2.1) && ((x4.2.2.2.2.2.1 == v.2.2.2.1.2.2.2.2.2.1) && ((x4.2.2.2.2.2.2 == v.2.2.2.1.2.2.2.2.2.2) && true))))))) (κ (((v.2.2.2.2.2.2.2.2.2.2.2.1).length : Int) == (0 : Int))) (κ false))) else none) (κ false))) (cond (((v.2.2.2.2.2.1).length : Int) == (1 : Int)) (if (0 : Int) < ((v.2.2.2.2.2.1).length : Int) then (bt ((v.2.2.2.2.2.1)[0]?) (fun x5 => cond ((x5.1 == v.2.2.2.1.1) && ((x5.2.1 == v.2.2.2.1.2.1) && ((x5.2.2.1 == v.2.2.2.1.2.2.1) && ((x5.2.2.2.1 == v.2.2.2.1.2.2.2.1) && ((x5.2.2.2.2.1 == v.2.2.2.1.2.2.2.2.1) && ((x5.2.2.2.2.2.1 == v.2.2.2.1.2.2.2.2.2.1) && ((x5.2.2.2.2.2.2 == v.2.2.2.1.2.2.2.2.2.2) && true))))))) (κ (((v.2.2.2.2.2.2.2.2.2.2.2.1).length : Int) == (0 : Int))) (κ false))) else none) (κ false))) (cond (decide (v.2.2.1 < v.2.1)) (cond (((v.2.2.2.2.2.2.2.2.1).length : Int) == (0 : Int)) (cond (v54 v.2.2.2.1) (cond (((v.2.2.2.2.2.1).length : Int) == (0 : Int)) (κ (((v.2.2.2.2.2.2.2.2.2.2.2.1).length : Int) == (0 : Int))) (cond (((v.2.2.2.2.2.1).length : Int) == (1 : Int)) (if (0 : Int) < ((v.2.2.2.2.2.1).length : Int) then (bt ((v.2.2.2.2.2.1)[0]?) (fun x6 => cond ((x6.1 == v.2.2.2.1.1) && ((x6.2.1 == v.2.2.2.1.2.1) && ((x6.2.2.1 == v.2.2.2.1.2.2.1) && ((x6.2.2.2.1 == v.2.2.2.1.2.2.2.1) && ((x6.2.2.2.2.1 == v.2.2.2.1.2.2.2.2.1) && ((x6.2.2.2.2.2.1 == v.2.2.2.1.2.2.2.2.2.1) && ((x6.2.2.2.2.2.2 == v.2.2.2.1.2.2.2.2.2.2) && true))))))) (κ (((v.2.2.2.2.2.2.2.2.2.2.2.1).length : Int) == (0 : Int))) (κ false))) else none) (κ false))) (cond (((v.2.2.2.2.2.1).length : Int) == (1 : Int)) (if (0 : Int) < ((v.2.2.2.2.2.1).length : Int) then (bt ((v.2.2.2.2.2.1)[0]?) (fun x7 => cond ((x7.1 == v.2.2.2.1.1) && ((x7.2.1 == v.2.2.2.1.2.1) && ((x7.2.2.1 == v.2.2.2.1.2.2.1) && ((x7.2.2.2.1 == v.2.2.2.1.2.2.2.1) && ((x7.2.2.2.2.1 == v.2.2.2.1.2.2.2.2.1) && ((x7.2.2.2.2.2.1 == v.2.2.2.1.2.2.2.2.2.1) && ((x7.2.2.2.2.2.2 == v.2.2.2.1.2.2.2.2.2.2) && true))))))) (κ (((v.2.2.2.2.2.2.2.2.2.2.2.1).length : Int) == (0 : Int))) (κ false))) else none) (κ false))) (κ false)) (κ false))) (κ false)) (none)
def U3 (v : CM) : Bool := (Hp v some).getD false
def T4 (v : CM) : Bool := (Hp v some).isSome
def aby (v : CM) : aJ (Ex × St) := .br (T4 v) (.done (Xx v (U3 v))) .no
theorem afW : aN Tryz.prog (av (pb 12 2047) (ae Tryz.f7)) AW vO aby := aI (lt := .none) (sx := VY) (gx := au) E7.ok aj (ah.no _) fun v => Eq.trans (b := Hp v (sm (Xx v))) (by kernel_rfl) (aq (show Hp v (sm (Xx v)) = (Hp v some).bind _ from by unfold Hp; simp only [bb]))
def E7l := E7.l (g := 7) (t := (aD (pb 12 2047) (ae Tryz.f7) (aD (pb 14 3071) (ae Tryz.f7) (aD (pb 12 1023) (ae Tryz.f7) (aD (pb 8 191) (ae Tryz.f7) (aD (pb 7 95) (ae Tryz.f7) .none (.sum Qx pR aba)) (.sum Qy pR ach)) (.sum Wd VP Zn)) (.sum AW vO adK)) (.sum AW vO aby))) (aQ Tryz.func7 (ah.b7 (az (by kernel_rfl)) (ah.b7 (az (by kernel_rfl)) (ah.b7 (az (by kernel_rfl)) (ah.sJ (by kernel_rfl) (az (by kernel_rfl)) (ah.sJ (by kernel_rfl) (az (by kernel_rfl)) (ah.no _) adX) agw) agL) ad1) afW))
def RU (a0 : List (Ty.T (.int .u8))) := (d51 (v42 (v50 a0).1 (v50 a0).2.1 (v50 a0).2.2.1 (v50 a0).2.2.2) (v52 (v50 a0).1 (v50 a0).2.1 (v50 a0).2.2.1 (v50 a0).2.2.2))
def Pf (a0 : List (Ty.T (.int .u8))) := (v51 (v42 (v50 a0).1 (v50 a0).2.1 (v50 a0).2.2.1 (v50 a0).2.2.2) (v52 (v50 a0).1 (v50 a0).2.1 (v50 a0).2.2.1 (v50 a0).2.2.2))
def fF (a0 : List (Ty.T (.int .u8))) := (aa0 false 0 (v50 a0).1 (v50 a0).2.2.1 (v42 (v50 a0).1 (v50 a0).2.1 (v50 a0).2.2.1 (v50 a0).2.2.2).1 (v42 (v50 a0).1 (v50 a0).2.1 (v50 a0).2.2.1 (v50 a0).2.2.2).2.1 (v42 (v50 a0).1 (v50 a0).2.1 (v50 a0).2.2.1 (v50 a0).2.2.2).2.2.1 (v42 (v50 a0).1 (v50 a0).2.1 (v50 a0).2.2.1 (v50 a0).2.2.2).2.2.2 (v50 a0).2.2.2)
def Qg (a0 : List (Ty.T (.int .u8))) := (Ub false 0 (v50 a0).1 (v50 a0).2.2.1 (v42 (v50 a0).1 (v50 a0).2.1 (v50 a0).2.2.1 (v50 a0).2.2.2).1 (v42 (v50 a0).1 (v50 a0).2.1 (v50 a0).2.2.1 (v50 a0).2.2.2).2.1 (v42 (v50 a0).1 (v50 a0).2.1 (v50 a0).2.2.1 (v50 a0).2.2.2).2.2.1 (v42 (v50 a0).1 (v50 a0).2.1 (v50 a0).2.2.1 (v50 a0).2.2.2).2.2.2 (v50 a0).2.2.2 0)
def NV (a0 : List (Ty.T (.int .u8))) := (Ub false 0 (v50 a0).1 (v50 a0).2.2.1 (v42 (v50 a0).1 (v50 a0).2.1 (v50 a0).2.2.1 (v50 a0).2.2.2).1 (v42 (v50 a0).1 (v50 a0).2.1 (v50 a0).2.2.1 (v50 a0).2.2.2).2.1 (v42 (v50 a0).1 (v50 a0).2.1 (v50 a0).2.2.1 (v50 a0).2.2.2).2.2.1 (v42 (v50 a0).1 (v50 a0).2.1 (v50 a0).2.2.1 (v50 a0).2.2.2).2.2.2 (v50 a0).2.2.2 1)
def cC (a0 : List (Ty.T (.int .u8))) := (abN (fF a0).1 0 (fF a0).2.2.1 (fF a0).2.2.2.1 (fF a0).2.2.2.2.1 (fF a0).2.2.2.2.2.1 (fF a0).2.2.2.2.2.2.1 (fF a0).2.2.2.2.2.2.2.1 (fF a0).2.2.2.2.2.2.2.2.1)
def R6 (a0 : List (Ty.T (.int .u8))) := (Td (fF a0).1 0 (fF a0).2.2.1 (fF a0).2.2.2.1 (fF a0).2.2.2.2.1 (fF a0).2.2.2.2.2.1 (fF a0).2.2.2.2.2.2.1 (fF a0).2.2.2.2.2.2.2.1 (fF a0).2.2.2.2.2.2.2.2.1 0)
def RB (a0 : List (Ty.T (.int .u8))) := (Td (fF a0).1 0 (fF a0).2.2.1 (fF a0).2.2.2.1 (fF a0).2.2.2.2.1 (fF a0).2.2.2.2.2.1 (fF a0).2.2.2.2.2.2.1 (fF a0).2.2.2.2.2.2.2.1 (fF a0).2.2.2.2.2.2.2.2.1 1)
def OH (a0 : List (Ty.T (.int .u8))) := (d42 (cC a0).2.2.1 [] (cC a0).2.2.2.1 (cC a0).2.2.2.2.2.2.2.2.1)
def jM (a0 : List (Ty.T (.int .u8))) := (v42 (cC a0).2.2.1 [] (cC a0).2.2.2.1 (cC a0).2.2.2.2.2.2.2.2.1)
def Fi (a0 : List (Ty.T (.int .u8))) := (d49 ((cC a0).2.2.2.2.1, (cC a0).2.2.2.2.2.1, (cC a0).2.2.2.2.2.2.1, (cC a0).2.2.2.2.2.2.2.1))
def yo (a0 : List (Ty.T (.int .u8))) := (v49 ((cC a0).2.2.2.2.1, (cC a0).2.2.2.2.2.1, (cC a0).2.2.2.2.2.2.1, (cC a0).2.2.2.2.2.2.2.1))
def Li (a0 : List (Ty.T (.int .u8))) := (Zr ((cC a0).1, (yo a0), (IntKind.wrap .i64 ((((cC a0).2.2.2.2.2.2.2.2.1).length : Int) - (((cC a0).2.2.2.2.2.2.1).length : Int))), (cC a0).2.2.2.1, (cC a0).2.2.2.2.1, (jM a0).1, (cC a0).2.2.2.2.2.1, (jM a0).2.1, (cC a0).2.2.2.2.2.2.1, (jM a0).2.2.1, (cC a0).2.2.2.2.2.2.2.1, (jM a0).2.2.2, (cC a0).2.2.2.2.2.2.2.2.1, ()))
def Hf (a0 : List (Ty.T (.int .u8))) := (T4 ((cC a0).1, (yo a0), (IntKind.wrap .i64 ((((cC a0).2.2.2.2.2.2.2.2.1).length : Int) - (((cC a0).2.2.2.2.2.2.1).length : Int))), (cC a0).2.2.2.1, (cC a0).2.2.2.2.1, (jM a0).1, (cC a0).2.2.2.2.2.1, (jM a0).2.1, (cC a0).2.2.2.2.2.2.1, (jM a0).2.2.1, (cC a0).2.2.2.2.2.2.2.1, (jM a0).2.2.2, (cC a0).2.2.2.2.2.2.2.2.1, ()))
def KP (a0 : List (Ty.T (.int .u8))) := (U3 ((cC a0).1, (yo a0), (IntKind.wrap .i64 ((((cC a0).2.2.2.2.2.2.2.2.1).length : Int) - (((cC a0).2.2.2.2.2.2.1).length : Int))), (cC a0).2.2.2.1, (cC a0).2.2.2.2.1, (jM a0).1, (cC a0).2.2.2.2.2.1, (jM a0).2.1, (cC a0).2.2.2.2.2.2.1, (jM a0).2.2.1, (cC a0).2.2.2.2.2.2.2.1, (jM a0).2.2.2, (cC a0).2.2.2.2.2.2.2.2.1, ()))
def EY (a0 : List (Ty.T (.int .u8))) := (Xr ((cC a0).1, (yo a0), IntKind.wrap .i64 ((((cC a0).2.2.2.2.2.2.2.2.1).length : Int) - (((cC a0).2.2.2.2.2.2.1).length : Int)), (cC a0).2.2.1, (cC a0).2.2.2.1, (cC a0).2.2.2.2.1, (jM a0).1, (cC a0).2.2.2.2.2.1, (jM a0).2.1, (cC a0).2.2.2.2.2.2.1, (jM a0).2.2.1, (cC a0).2.2.2.2.2.2.2.1, (jM a0).2.2.2, (cC a0).2.2.2.2.2.2.2.2.1, ()))
def H2 (a0 : List (Ty.T (.int .u8))) := (YM ((cC a0).1, (yo a0), IntKind.wrap .i64 ((((cC a0).2.2.2.2.2.2.2.2.1).length : Int) - (((cC a0).2.2.2.2.2.2.1).length : Int)), (cC a0).2.2.1, (cC a0).2.2.2.1, (cC a0).2.2.2.2.1, (jM a0).1, (cC a0).2.2.2.2.2.1, (jM a0).2.1, (cC a0).2.2.2.2.2.2.1, (jM a0).2.2.1, (cC a0).2.2.2.2.2.2.2.1, (jM a0).2.2.2, (cC a0).2.2.2.2.2.2.2.2.1, ()))
def u7 (a0 : List (Ty.T (.int .u8))) : Option (AV × Sig) := cond (v28 a0) (some (.one (.bool true), [])) (cond (d50 a0) (cond (d42 (v50 a0).1 (v50 a0).2.1 (v50 a0).2.2.1 (v50 a0).2.2.2) (cond (d52 (v50 a0).1 (v50 a0).2.1 (v50 a0).2.2.1 (v50 a0).2.2.2) (cond (RU a0) (cond (!(Pf a0)) (some (.one (.bool false), [])) (cond (Qg a0) (some (.one (.bool (fF a0).1), [])) (cond (NV a0) (cond (R6 a0) (some (.one (.bool (cC a0).1), [])) (cond (RB a0) (cond (Fi a0) (cond (OH a0) (cond (EY a0) (cond (H2 a0) (some (.one (.bool (Li a0)), [])) (cond (Hf a0) (some (.one (.bool (KP a0)), [])) (none))) (none)) (none)) (none)) (none))) (none)))) (none)) (none)) (none)) (none))
def v7 (a0 : List (Ty.T (.int .u8))) : Bool := cond (v28 a0) (true) (cond (d50 a0) (cond (d42 (v50 a0).1 (v50 a0).2.1 (v50 a0).2.2.1 (v50 a0).2.2.2) (cond (d52 (v50 a0).1 (v50 a0).2.1 (v50 a0).2.2.1 (v50 a0).2.2.2) (cond (RU a0) (cond (!(Pf a0)) (false) (cond (Qg a0) ((fF a0).1) (cond (NV a0) (cond (R6 a0) ((cC a0).1) (cond (RB a0) (cond (Fi a0) (cond (OH a0) (cond (EY a0) (cond (H2 a0) ((Li a0)) (cond (Hf a0) ((KP a0)) (false))) (false)) (false)) (false)) (false))) (false)))) (false)) (false)) (false)) (false))
def d7 (a0 : List (Ty.T (.int .u8))) : Bool := cond (v28 a0) (true) (cond (d50 a0) (cond (d42 (v50 a0).1 (v50 a0).2.1 (v50 a0).2.2.1 (v50 a0).2.2.2) (cond (d52 (v50 a0).1 (v50 a0).2.1 (v50 a0).2.2.1 (v50 a0).2.2.2) (cond (RU a0) (cond (!(Pf a0)) (true) (cond (Qg a0) (true) (cond (NV a0) (cond (R6 a0) (true) (cond (RB a0) (cond (Fi a0) (cond (OH a0) (cond (EY a0) (cond (H2 a0) (true) (cond (Hf a0) (true) (false))) (false)) (false)) (false)) (false))) (false)))) (false)) (false)) (false)) (false))
theorem o7 (a0 : List (Ty.T (.int .u8))) : u7 a0 = cond (d7 a0) (some (f7 (v7 a0))) none := (pC (pS _) (pC (pC (pC (pC (pC (pS _) (pC (pS _) (pC (pC (pS _) (pC (pC (pC (pC (pC (pS _) (pC (pS _) (pN _))) (pN _)) (pN _)) (pN _)) (pN _))) (pN _)))) (pN _)) (pN _)) (pN _)) (pN _)))
def p7 : Prim := ⟨[.one (.dat (.sl 5 (.int .u8)) true)], fun v => .br (d7 v.1) (.done (f7 (v7 v.1))) .no⟩
theorem ok7 : PO 7 p7 := pK E7l fun v => Eq.trans (b := u7 v.1) (by kernel_rfl) (o7 v.1)
end
end Go.Proofs.YtahlaccdpmddbaaGreat.Vm
