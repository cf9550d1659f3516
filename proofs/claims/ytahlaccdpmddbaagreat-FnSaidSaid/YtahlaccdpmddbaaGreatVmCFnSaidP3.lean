/- Contracts. No condition. -/
import Derived.Test.YtahlaccdpmddbaaGreatVmCFnSaidP2
import Derived.Test.YtahlaccdpmddbaaGreatVmLibThree
namespace Go.Proofs.YtahlaccdpmddbaaGreat.Vm
open Go Go.Proofs.YtahlaccdpmddbaaGreat.Lib
noncomputable section
set_option maxRecDepth 100000
set_option linter.unusedVariables false
def HV (r : (Ty.T q0) × (Ty.T aB) × (Ty.T af) × (List (Ty.T y27))) : AV × Sig := (.agg ((q0.cells false r.1) ++ [.sl 33632256] ++ (aB.cells false r.2.1)), [(4294967296, .box 222 ((af.cells true r.2.2.1))), (33632256, .arr 41 y27 r.2.2.2 false)])
def rk := (((((((E0.g dw).g fF).g dX).g uG).g PX).g Qh).g Q9)
@[reducible] def gG : List SP := .one (.ptr 4294967296 0) :: U2 (.und :: .one (.ptr 4 0) :: .und :: .one (.ptr 6 0) :: .one (.ptr 7 0) :: U32 (U16 (U8 ([]))))
@[reducible] def yP : List (Nat × GP) := [(4294967296, .box 222 [.dat af true]), (4, .box 37 [.dat y36 false]), (6, .box 109 [.dat aq false]), (7, .box 109 [.dat q2 false, .own 52244480, .dat aB false]), (52244480, .arr 41 y27 false)]
@[reducible] def fT : Type := (Ty.T af) × (Ty.T y36) × (Ty.T aq) × (Ty.T q2) × (Ty.T aB) × (List (Ty.T y27)) × Unit
@[reducible] def nO : List SP := .one (.ptr 4294967296 0) :: U2 (.und :: .one (.ptr 4 0) :: .und :: .one (.ptr 6 0) :: .one (.ptr 7 0) :: U8 (U4 (.und :: .one (.dat .bool true) :: U32 (U8 (U2 ([]))))))
@[reducible] def gz : List (Nat × GP) := [(4294967296, .box 222 [.dat af true]), (4, .box 37 [.dat y36 false]), (6, .box 109 [.dat aq false]), (7, .box 109 [.dat q0 false, .own 52244480, .dat aB false]), (52244480, .arr 41 y27 false)]
def vx (v : fT) (r : Bool × (Ty.T af)) : Ex × St := (.normal, ax nO gz (r.1, r.2, v.2.1, v.2.2.1, (v.2.2.2.1.1, v.2.2.2.1.2.1, v.2.2.2.1.2.2.1, v.2.2.2.1.2.2.2.1, (v.2.2.2.1.2.2.2.2.1, v.2.2.2.1.2.2.2.2.2.1, v.2.2.2.1.2.2.2.2.2.2.1, v.2.2.2.1.2.2.2.2.2.2.2.1, v.2.2.2.1.2.2.2.2.2.2.2.2.1, v.2.2.2.1.2.2.2.2.2.2.2.2.2.1, v.2.2.2.1.2.2.2.2.2.2.2.2.2.2.1), (v.2.2.2.1.2.2.2.2.2.2.2.2.2.2.2.1, v.2.2.2.1.2.2.2.2.2.2.2.2.2.2.2.2.1), v.2.2.2.1.2.2.2.2.2.2.2.2.2.2.2.2.2), v.2.2.2.2.1, v.2.2.2.2.2.1, ()))
def gU (v : fT) {Z : Type} (κ : Bool × (Ty.T af) -> Option Z) : Option Z := cond (v.2.2.2.1.2.2.2.1 == (0 : Int)) (κ (true, v.1)) (cond (cE 3 v.1) (κ ((an 3 v.1).1, (an 3 v.1).2)) (none))
def wc (v : fT) : Bool × (Ty.T af) := (gU v some).getD (false, (Ty.zero af))
def xo (v : fT) : Bool := (gU v some).isSome
def DY (v : fT) : aP (Ex × St) := .br (xo v) (.done (vx v (wc v))) .no
theorem Ob : aK Tryz.prog (aw (pb 4 3) (ae Tryz.f211)) gG yP DY := aA (lt := .none) (sx := nO) (gx := gz) rk.ok aj (ag.no _) fun v => Eq.trans (b := gU v (sm (vx v))) (by kernel_rfl) (al (show gU v (sm (vx v)) = (gU v some).bind _ from (bC rfl (bC rfl rfl))))
@[reducible] def cK : Type := Bool × (Ty.T af) × (Ty.T y36) × (Ty.T aq) × (Ty.T q0) × (Ty.T aB) × (List (Ty.T y27)) × Unit
def vp (v : cK) (r : (Ty.T af) × (Ty.T q0)) : Ex × St := (.normal, ax gG gz (r.1, v.2.2.1, v.2.2.2.1, r.2, v.2.2.2.2.2.1, v.2.2.2.2.2.2.1, ()))
def eQ (v : cK) {Z : Type} (κ : (Ty.T af) × (Ty.T q0) -> Option Z) : Option Z := cond v.1 (cond (iE v.2.2.1 v.2.1) (κ ((bN v.2.2.1 v.2.1).2, (v.2.2.2.2.1.1, v.2.2.2.2.1.2.1, (bN v.2.2.1 v.2.1).1, v.2.2.2.2.1.2.2.2))) (none)) (κ (v.2.1, v.2.2.2.2.1))
def xj (v : cK) : (Ty.T af) × (Ty.T q0) := (eQ v some).getD ((Ty.zero af), (Ty.zero q0))
def wH (v : cK) : Bool := (eQ v some).isSome
def EZ (v : cK) : aP (Ex × St) := .br (wH v) (.done (vp v (xj v))) .no
theorem Oc : aK Tryz.prog (aw (pb 4 11) (ae Tryz.f211)) nO gz EZ := aA (lt := .none) (sx := gG) (gx := gz) rk.ok aj (ag.no _) fun v => Eq.trans (b := eQ v (sm (vp v))) (by kernel_rfl) (al (show eQ v (sm (vp v)) = (eQ v some).bind _ from (bC (bC rfl rfl) rfl)))
@[reducible] def nE : List (Nat × GP) := [(4294967296, .box 222 [.dat af true]), (4, .box 37 [.dat y36 false]), (6, .box 109 [.dat aq false]), (7, .box 109 [.dat q0 false, .own 33579046, .dat aB false]), (33579046, .arr 41 y27 false)]
@[reducible] def iv : Type := (Ty.T af) × (Ty.T y36) × (Ty.T aq) × (Ty.T q0) × (Ty.T aB) × (List (Ty.T y27)) × Unit
@[reducible] def nY : List SP := .one (.ptr 4294967296 0) :: U4 (.und :: .one (.ptr 6 0) :: .one (.ptr 7 0) :: U32 (U16 (U8 ([]))))
@[reducible] def gJ : List (Nat × GP) := [(4294967296, .box 222 [.dat af true]), (6, .box 109 [.dat aq false]), (7, .box 109 [.dat q0 false, .own 33579046, .dat aB false]), (33579046, .arr 41 y27 false)]
def yi (v : iv) (r : Unit) : Ex × St := (.normal, ax nY gJ ((aa 3 v.1).2, v.2.2.1, v.2.2.2.1, (IntKind.wrap .i64 ((IntKind.wrap .i64 (v.2.1.2.2.2 + (aa 3 v.1).1)) - (1 : Int)), v.2.2.2.2.1.2), v.2.2.2.2.2.1, ()))
def iN (v : iv) {Z : Type} (κ : Unit -> Option Z) : Option Z := cond (bn 3 v.1) (κ ()) (none)
def Nx (v : iv) : Unit := (iN v some).getD ()
def vy (v : iv) : Bool := (iN v some).isSome
def E8 (v : iv) : aP (Ex × St) := .br (vy v) (.done (yi v (Nx v))) .no
theorem Ol : aK Tryz.prog (aw [false] (aw (pb 8 191) (ae Tryz.f211))) gG nE E8 := bA (by kernel_rfl) (sx := nY) (gx := gJ) rk.ok aj (by kernel_rfl) 2 fun v => Eq.trans (b := List.replicate 2 (iN v (sm (yi v)))) (by kernel_rfl) (congrArg (List.replicate 2) (al (show iN v (sm (yi v)) = (iN v some).bind _ from (bC rfl rfl))))
@[reducible] def za : List SP := .one (.ptr 4294967296 0) :: U2 (.und :: .one (.ptr 4 0) :: .und :: .one (.ptr 6 0) :: .one (.ptr 7 0) :: U32 (.und :: .one (.dat .bool true) :: U16 (U4 (U2 ([])))))
def xc (v : cK) (r : (Ty.T af) × (Ty.T aB)) : Ex × St := (.normal, ax nY gJ (r.1, v.2.2.2.1, v.2.2.2.2.1, r.2, v.2.2.2.2.2.2.1, ()))
def hR (v : cK) {Z : Type} (κ : (Ty.T af) × (Ty.T aB) -> Option Z) : Option Z := cond v.1 (cond (vy (v.2.1, v.2.2.1, v.2.2.2.1, v.2.2.2.2.1, v.2.2.2.2.2.1, v.2.2.2.2.2.2.1, ())) (κ ((aa 3 v.2.1).2, (IntKind.wrap .i64 ((IntKind.wrap .i64 (v.2.2.1.2.2.2 + (aa 3 v.2.1).1)) - (1 : Int)), v.2.2.2.2.2.1.2))) (none)) (κ (v.2.1, v.2.2.2.2.2.1))
def vV (v : cK) : (Ty.T af) × (Ty.T aB) := (hR v some).getD ((Ty.zero af), (Ty.zero aB))
def vL (v : cK) : Bool := (hR v some).isSome
def EC (v : cK) : aP (Ex × St) := .br (vL v) (.done (xc v (vV v))) .no
theorem Mf : aK Tryz.prog (aw (pb 8 191) (ae Tryz.f211)) za nE EC := aA (lt := (aD [false] (aw (pb 8 191) (ae Tryz.f211)) .none (.sum gG nE E8))) (sx := nY) (gx := gJ) rk.ok aj (ag.bP (az (by kernel_rfl)) (ag.no _) Ol) fun v => Eq.trans (b := hR v (sm (xc v))) (by kernel_rfl) (al (show hR v (sm (xc v)) = (hR v some).bind _ from (bC (bC rfl rfl) rfl)))
@[reducible] def As : List SP := .one (.ptr 4294967296 0) :: U4 (.und :: .one (.ptr 6 0) :: .one (.ptr 7 0) :: U32 (U8 (U4 (.one (.dat .bool true) :: U8 (U2 (.und :: []))))))
@[reducible] def fW : Type := Bool × (Ty.T af) × (Ty.T aq) × (Ty.T q0) × (Ty.T aB) × (List (Ty.T y27)) × Unit
@[reducible] def zR : List SP := U4 (U2 (.one (.ptr 6 0) :: .one (.ptr 7 0) :: U32 (U16 (U8 ([])))))
@[reducible] def zn : List (Nat × GP) := [(6, .box 109 [.dat aq false]), (7, .box 109 [.dat q0 false, .own 33579046, .dat aB false]), (4294967296, .box 222 [.dat af true]), (33579046, .arr 41 y27 false)]
def u9 (v : fW) (r : (Ty.T aB) × (Ty.T af)) : Ex × St := (.normal, ax zR zn (v.2.2.1, v.2.2.2.1, r.1, r.2, v.2.2.2.2.2.1, ()))
def gM (v : fW) {Z : Type} (κ : (Ty.T aB) × (Ty.T af) -> Option Z) : Option Z := cond v.1 (cond (bm [1, 2, 3, 5] v.2.1) (κ ((v.2.2.2.2.1.1, (ah [1, 2, 3, 5] v.2.1).1), (ah [1, 2, 3, 5] v.2.1).2)) (none)) (cond (cE 3 v.2.1) (cond (an 3 v.2.1).1 (cond (bn 3 (an 3 v.2.1).2) (κ ((v.2.2.2.2.1.1, IntKind.wrap .i64 ((1 : Int) + (aa 3 (an 3 v.2.1).2).1)), (aa 3 (an 3 v.2.1).2).2)) (none)) (κ (v.2.2.2.2.1, (an 3 v.2.1).2))) (none))
def w8 (v : fW) : (Ty.T aB) × (Ty.T af) := (gM v some).getD ((Ty.zero aB), (Ty.zero af))
def xW (v : fW) : Bool := (gM v some).isSome
def Ei (v : fW) : aP (Ex × St) := .br (xW v) (.done (u9 v (w8 v))) .no
theorem NS : aK Tryz.prog (aw (pb 9 383) (ae Tryz.f211)) As gJ Ei := aA (lt := .none) (sx := zR) (gx := zn) rk.ok aj (ag.no _) fun v => Eq.trans (b := gM v (sm (u9 v))) (by kernel_rfl) (al (show gM v (sm (u9 v)) = (gM v some).bind _ from (bC (bC rfl rfl) (bC (bC (bC rfl rfl) rfl) rfl))))
def Re := rk.l (g := 211) (t := (aD (pb 9 383) (ae Tryz.f211) (aD (pb 8 191) (ae Tryz.f211) (aD (pb 4 11) (ae Tryz.f211) (aD (pb 4 3) (ae Tryz.f211) .none (.sum gG yP DY)) (.sum nO gz EZ)) (.sum za nE EC)) (.sum As gJ Ei))) (aZ Tryz.func211 (ag.bP (az (by kernel_rfl)) (ag.bP (az (by kernel_rfl)) (ag.bP (az (by kernel_rfl)) (ag.bP (az (by kernel_rfl)) (ag.no _) Ob) Oc) Mf) NS))
def kl (a0 : Ty.T y36) (a1 : Int) (a2 : Ty.T af) := (wc ((ah [4, 4, 4, 1, 2, 3, 0] (aa 2 a2).2).2, a0, (0, 0, 0, 0, (0, 0, 0, 0, 0, 0, 0), (0, 0), (0, 0, 0, 0, 0, false, []), 0, 0), (a1, (aa 2 a2).1, 0, (ah [4, 4, 4, 1, 2, 3, 0] (aa 2 a2).2).1, 0, 0, 0, 0, 0, 0, 0, 0, 0, 0, 0, 0, 0, 0, false), ((-1), (-1)), [], ()))
def aN (a0 : Ty.T y36) (a1 : Int) (a2 : Ty.T af) := (xj ((kl a0 a1 a2).1, (kl a0 a1 a2).2, a0, (0, 0, 0, 0, (0, 0, 0, 0, 0, 0, 0), (0, 0), (0, 0, 0, 0, 0, false, []), 0, 0), (a1, (aa 2 a2).1, 0, (ah [4, 4, 4, 1, 2, 3, 0] (aa 2 a2).2).1, (0, 0, 0, 0, 0, 0, 0), (0, 0), (0, 0, 0, 0, 0, false)), ((-1), (-1)), [], ()))
def bZ (a0 : Ty.T y36) (a1 : Int) (a2 : Ty.T af) := (yj a0 (du a0 (aN a0 a1 a2).1).1.1 (iu (du a0 (aN a0 a1 a2).1).2).2)
def ka (a0 : Ty.T y36) (a1 : Int) (a2 : Ty.T af) := (vV ((an 4 (bZ a0 a1 a2).2.1).1, (an 4 (bZ a0 a1 a2).2.1).2, a0, (0, 0, 0, 0, (0, 0, 0, 0, 0, 0, 0), (0, 0), (0, 0, 0, 0, 0, false, []), 0, 0), ((aN a0 a1 a2).2.1, (aN a0 a1 a2).2.2.1, (aN a0 a1 a2).2.2.2.1, (aN a0 a1 a2).2.2.2.2.1, (du a0 (aN a0 a1 a2).1).1, (iu (du a0 (aN a0 a1 a2).1).2).1, (bZ a0 a1 a2).1), ((-1), (-1)), (bZ a0 a1 a2).2.2, ()))
def qf (a0 : Ty.T y36) (a1 : Int) (a2 : Ty.T af) := (w8 ((((aN a0 a1 a2).2.1, (aN a0 a1 a2).2.2.1, (aN a0 a1 a2).2.2.2.1, (aN a0 a1 a2).2.2.2.2.1, (du a0 (aN a0 a1 a2).1).1, (iu (du a0 (aN a0 a1 a2).1).2).1, (bZ a0 a1 a2).1).2.2.2.2.2.2.1 == (2 : Int)), (ka a0 a1 a2).1, (0, 0, 0, 0, (0, 0, 0, 0, 0, 0, 0), (0, 0), (0, 0, 0, 0, 0, false, []), 0, 0), ((aN a0 a1 a2).2.1, (aN a0 a1 a2).2.2.1, (aN a0 a1 a2).2.2.2.1, (aN a0 a1 a2).2.2.2.2.1, (du a0 (aN a0 a1 a2).1).1, (iu (du a0 (aN a0 a1 a2).1).2).1, (bZ a0 a1 a2).1), (ka a0 a1 a2).2, (bZ a0 a1 a2).2.2, ()))
def jt (a0 : Ty.T y36) (a1 : Int) (a2 : Ty.T af) {Z : Type} (κ : (Ty.T q0) × (Ty.T aB) × (Ty.T af) × (List (Ty.T y27)) -> Option Z) : Option Z := cond (bn 2 a2) (cond (bm [4, 4, 4, 1, 2, 3, 0] (aa 2 a2).2) (cond (xo ((ah [4, 4, 4, 1, 2, 3, 0] (aa 2 a2).2).2, a0, (0, 0, 0, 0, (0, 0, 0, 0, 0, 0, 0), (0, 0), (0, 0, 0, 0, 0, false, []), 0, 0), (a1, (aa 2 a2).1, 0, (ah [4, 4, 4, 1, 2, 3, 0] (aa 2 a2).2).1, 0, 0, 0, 0, 0, 0, 0, 0, 0, 0, 0, 0, 0, 0, false), ((-1), (-1)), [], ())) (cond (wH ((kl a0 a1 a2).1, (kl a0 a1 a2).2, a0, (0, 0, 0, 0, (0, 0, 0, 0, 0, 0, 0), (0, 0), (0, 0, 0, 0, 0, false, []), 0, 0), (a1, (aa 2 a2).1, 0, (ah [4, 4, 4, 1, 2, 3, 0] (aa 2 a2).2).1, (0, 0, 0, 0, 0, 0, 0), (0, 0), (0, 0, 0, 0, 0, false)), ((-1), (-1)), [], ())) (cond (GF a0 (aN a0 a1 a2).1) (cond (Hk (du a0 (aN a0 a1 a2).1).2) (cond (Hb a0 (du a0 (aN a0 a1 a2).1).1.1 (iu (du a0 (aN a0 a1 a2).1).2).2) (cond (cE 4 (bZ a0 a1 a2).2.1) (cond (vL ((an 4 (bZ a0 a1 a2).2.1).1, (an 4 (bZ a0 a1 a2).2.1).2, a0, (0, 0, 0, 0, (0, 0, 0, 0, 0, 0, 0), (0, 0), (0, 0, 0, 0, 0, false, []), 0, 0), ((aN a0 a1 a2).2.1, (aN a0 a1 a2).2.2.1, (aN a0 a1 a2).2.2.2.1, (aN a0 a1 a2).2.2.2.2.1, (du a0 (aN a0 a1 a2).1).1, (iu (du a0 (aN a0 a1 a2).1).2).1, (bZ a0 a1 a2).1), ((-1), (-1)), (bZ a0 a1 a2).2.2, ())) (cond (xW ((((aN a0 a1 a2).2.1, (aN a0 a1 a2).2.2.1, (aN a0 a1 a2).2.2.2.1, (aN a0 a1 a2).2.2.2.2.1, (du a0 (aN a0 a1 a2).1).1, (iu (du a0 (aN a0 a1 a2).1).2).1, (bZ a0 a1 a2).1).2.2.2.2.2.2.1 == (2 : Int)), (ka a0 a1 a2).1, (0, 0, 0, 0, (0, 0, 0, 0, 0, 0, 0), (0, 0), (0, 0, 0, 0, 0, false, []), 0, 0), ((aN a0 a1 a2).2.1, (aN a0 a1 a2).2.2.1, (aN a0 a1 a2).2.2.2.1, (aN a0 a1 a2).2.2.2.2.1, (du a0 (aN a0 a1 a2).1).1, (iu (du a0 (aN a0 a1 a2).1).2).1, (bZ a0 a1 a2).1), (ka a0 a1 a2).2, (bZ a0 a1 a2).2.2, ())) (κ (((aN a0 a1 a2).2.1, (aN a0 a1 a2).2.2.1, (aN a0 a1 a2).2.2.2.1, (aN a0 a1 a2).2.2.2.2.1, (du a0 (aN a0 a1 a2).1).1, (iu (du a0 (aN a0 a1 a2).1).2).1, (bZ a0 a1 a2).1), (qf a0 a1 a2).1, (qf a0 a1 a2).2, (bZ a0 a1 a2).2.2)) (none)) (none)) (none)) (none)) (none)) (none)) (none)) (none)) (none)) (none)
def kF (a0 : Ty.T y36) (a1 : Int) (a2 : Ty.T af) : (Ty.T q0) × (Ty.T aB) × (Ty.T af) × (List (Ty.T y27)) := (jt a0 a1 a2 some).getD ((Ty.zero q0), (Ty.zero aB), (Ty.zero af), [])
def F6 (a0 : Ty.T y36) (a1 : Int) (a2 : Ty.T af) : Bool := (jt a0 a1 a2 some).isSome
def Tw : Gen := ⟨[false, false, false], [.one (.ptr 4294967296 0), .agg [.dat y36 false], oI], [(4294967296, .box 222 [.dat af true])], fun v => .br (F6 v.1 v.2.1 v.2.2.1) (.done (HV (kF v.1 v.2.1 v.2.2.1))) .no⟩
theorem Rf : dp Tryz.prog 211 Tw := b9 Re.ok aj (az (by kernel_rfl)) ⟨Tryz.f211, ae Tryz.f211, by kernel_rfl, by kernel_rfl⟩ fun v => Eq.trans (b := (jt v.1 v.2.1 v.2.2.1 (sm HV))) (by kernel_rfl) (al (show jt v.1 v.2.1 v.2.2.1 (sm HV) = (jt v.1 v.2.1 v.2.2.1 some).bind _ from by unfold jt; simp only [bb]))
def Gp (r : (Ty.T y27) × (Ty.T af)) : AV × Sig := (.agg (y27.cells false r.1), [(4294967296, .box 222 ((af.cells true r.2)))])
def GY := ((E0.g ue).p RR)
@[reducible] def rI : List SP := .one (.ptr 4294967296 0) :: .und :: .one (.dat (.sl 109 aq) false) :: .und :: .one (.ptr 4 0) :: .und :: .one (.ptr 6 0) :: .one (.ptr 7 0) :: oI :: oI :: U2 (.und :: oI :: .one (.dat .bool true) :: U16 (U4 ([])))
@[reducible] def gD : List (Nat × GP) := [(4294967296, .box 222 [.dat af true]), (4, .box 37 [.dat y36 false]), (6, .box 41 [.dat y27 false]), (7, .box 41 [.dat y27 false])]
@[reducible] def iz : Type := (List (Ty.T aq)) × Int × Int × Int × Bool × (Ty.T af) × (Ty.T y36) × (Ty.T y27) × (Ty.T y27) × Unit
def mu (v : iz) {Z : Type} (κ : Nat × iz -> Option Z) : Option Z := cond (decide (v.2.2.1 < ((v.1).length : Int))) (if 0 <= v.2.2.1 then (bc ((v.1)[(v.2.2.1).toNat]?) (fun x1 => cond (d269 v.2.2.2.2.2.2.1 x1 v.2.2.2.2.2.2.2.2.1) (cond (pd v.2.2.2.2.2.2.1 x1 v.2.2.2.2.2.2.2.2.1) (κ (1, (v.1, v.2.1, v.2.2.1, v.2.2.2.1, v.2.2.2.2.1, v.2.2.2.2.2.1, v.2.2.2.2.2.2.1, v.2.2.2.2.2.2.2.2.1, v.2.2.2.2.2.2.2.2.1, ()))) (κ (0, (v.1, v.2.1, IntKind.wrap .i64 (v.2.2.1 + (1 : Int)), v.2.2.2.1, v.2.2.2.2.1, v.2.2.2.2.2.1, v.2.2.2.2.2.2.1, v.2.2.2.2.2.2.2.1, v.2.2.2.2.2.2.2.2.1, ())))) (none))) else none) (κ (2, (v.1, v.2.1, v.2.2.1, v.2.2.2.1, v.2.2.2.2.1, v.2.2.2.2.2.1, v.2.2.2.2.2.2.1, v.2.2.2.2.2.2.2.1, v.2.2.2.2.2.2.2.2.1, ())))
def jR (v : iz) : Option (Nat × iz) := mu v some
def jN (v : iz) : Nat := v.1.length + v.2.1.toNat + v.2.2.1.toNat + v.2.2.2.1.toNat + v.2.2.2.2.2.1.1.length + v.2.2.2.2.2.2.1.1.length + v.2.2.2.2.2.2.1.2.1.length + 100
def qD (h0 : List (Ty.T aq)) (h1 : Int) (h2 : Int) (h3 : Int) (h4 : Bool) (h5 : Ty.T af) (h6 : Ty.T y36) (h7 : Ty.T y27) (h8 : Ty.T y27) (c : Nat) : Bool := iK jR jN (h0, h1, h2, h3, h4, h5, h6, h7, h8, ()) c
def cI (h0 : List (Ty.T aq)) (h1 : Int) (h2 : Int) (h3 : Int) (h4 : Bool) (h5 : Ty.T af) (h6 : Ty.T y36) (h7 : Ty.T y27) (h8 : Ty.T y27) : iz := iW jR jN (h0, h1, h2, h3, h4, h5, h6, h7, h8, ())
def DS (v : iz) : aP (Ex × St) := bz jR (jN v) v (ax rI gD) [.ret, .exit 2] 0
theorem NP : bw Tryz.prog (aO [true, false, false, true] (aO (pb 4 11) (ae Tryz.f212))) rI gD DS := aE (lt := .none) GY.ok aj (ag.no _) fun n v K => Eq.trans (b := mu v (dt _ _ _ _ _ K)) (by kernel_rfl) (show mu v _ = (mu v some).bind _ from (bC (bI (bO fun x1 => (bC (bC rfl rfl) rfl))) rfl))
@[reducible] def se : List SP := .one (.ptr 4294967296 0) :: .und :: .one (.dat (.sl 109 aq) false) :: .und :: .one (.ptr 4 0) :: .und :: .one (.ptr 6 0) :: .one (.ptr 7 0) :: oI :: U16 (U8 (U2 ([])))
@[reducible] def fG : Type := (List (Ty.T aq)) × Int × (Ty.T af) × (Ty.T y36) × (Ty.T y27) × (Ty.T y27) × Unit
def mT (v : fG) {Z : Type} (κ : Nat × fG -> Option Z) : Option Z := cond (decide (v.2.1 < (5 : Int))) (cond (qD v.1 v.2.1 0 v.2.1 (decide (v.2.1 < (5 : Int))) v.2.2.1 v.2.2.2.1 v.2.2.2.2.1 v.2.2.2.2.2.1 0) (κ (1, ((cI v.1 v.2.1 0 v.2.1 (decide (v.2.1 < (5 : Int))) v.2.2.1 v.2.2.2.1 v.2.2.2.2.1 v.2.2.2.2.2.1).1, (cI v.1 v.2.1 0 v.2.1 (decide (v.2.1 < (5 : Int))) v.2.2.1 v.2.2.2.1 v.2.2.2.2.1 v.2.2.2.2.2.1).2.1, (cI v.1 v.2.1 0 v.2.1 (decide (v.2.1 < (5 : Int))) v.2.2.1 v.2.2.2.1 v.2.2.2.2.1 v.2.2.2.2.2.1).2.2.2.2.2.1, (cI v.1 v.2.1 0 v.2.1 (decide (v.2.1 < (5 : Int))) v.2.2.1 v.2.2.2.1 v.2.2.2.2.1 v.2.2.2.2.2.1).2.2.2.2.2.2.1, (cI v.1 v.2.1 0 v.2.1 (decide (v.2.1 < (5 : Int))) v.2.2.1 v.2.2.2.1 v.2.2.2.2.1 v.2.2.2.2.2.1).2.2.2.2.2.2.2.1, (cI v.1 v.2.1 0 v.2.1 (decide (v.2.1 < (5 : Int))) v.2.2.1 v.2.2.2.1 v.2.2.2.2.1 v.2.2.2.2.2.1).2.2.2.2.2.2.2.2.1, ()))) (cond (qD v.1 v.2.1 0 v.2.1 (decide (v.2.1 < (5 : Int))) v.2.2.1 v.2.2.2.1 v.2.2.2.2.1 v.2.2.2.2.2.1 1) (cond (o8 (cI v.1 v.2.1 0 v.2.1 (decide (v.2.1 < (5 : Int))) v.2.2.1 v.2.2.2.1 v.2.2.2.2.1 v.2.2.2.2.2.1).2.2.2.2.2.2.1 (cI v.1 v.2.1 0 v.2.1 (decide (v.2.1 < (5 : Int))) v.2.2.1 v.2.2.2.1 v.2.2.2.2.1 v.2.2.2.2.2.1).2.2.2.2.2.1) (κ (0, ((cI v.1 v.2.1 0 v.2.1 (decide (v.2.1 < (5 : Int))) v.2.2.1 v.2.2.2.1 v.2.2.2.2.1 v.2.2.2.2.2.1).1, IntKind.wrap .i64 ((cI v.1 v.2.1 0 v.2.1 (decide (v.2.1 < (5 : Int))) v.2.2.1 v.2.2.2.1 v.2.2.2.2.1 v.2.2.2.2.2.1).2.1 + (1 : Int)), (ar (cI v.1 v.2.1 0 v.2.1 (decide (v.2.1 < (5 : Int))) v.2.2.1 v.2.2.2.1 v.2.2.2.2.1 v.2.2.2.2.2.1).2.2.2.2.2.2.1 (cI v.1 v.2.1 0 v.2.1 (decide (v.2.1 < (5 : Int))) v.2.2.1 v.2.2.2.1 v.2.2.2.2.1 v.2.2.2.2.2.1).2.2.2.2.2.1).2, (cI v.1 v.2.1 0 v.2.1 (decide (v.2.1 < (5 : Int))) v.2.2.1 v.2.2.2.1 v.2.2.2.2.1 v.2.2.2.2.2.1).2.2.2.2.2.2.1, (cI v.1 v.2.1 0 v.2.1 (decide (v.2.1 < (5 : Int))) v.2.2.1 v.2.2.2.1 v.2.2.2.2.1 v.2.2.2.2.2.1).2.2.2.2.2.2.2.1, (ar (cI v.1 v.2.1 0 v.2.1 (decide (v.2.1 < (5 : Int))) v.2.2.1 v.2.2.2.1 v.2.2.2.2.1 v.2.2.2.2.2.1).2.2.2.2.2.2.1 (cI v.1 v.2.1 0 v.2.1 (decide (v.2.1 < (5 : Int))) v.2.2.1 v.2.2.2.1 v.2.2.2.2.1 v.2.2.2.2.2.1).2.2.2.2.2.1).1, ()))) (none)) (none))) (κ (2, (v.1, v.2.1, v.2.2.1, v.2.2.2.1, v.2.2.2.2.1, v.2.2.2.2.2.1, ())))
def jO (v : fG) : Option (Nat × fG) := mT v some
def jL (v : fG) : Nat := v.1.length + v.2.1.toNat + v.2.2.1.1.length + v.2.2.2.1.1.length + v.2.2.2.1.2.1.length + 100
def pX (h0 : List (Ty.T aq)) (h1 : Int) (h2 : Ty.T af) (h3 : Ty.T y36) (h4 : Ty.T y27) (h5 : Ty.T y27) (c : Nat) : Bool := iK jO jL (h0, h1, h2, h3, h4, h5, ()) c
def nr (h0 : List (Ty.T aq)) (h1 : Int) (h2 : Ty.T af) (h3 : Ty.T y36) (h4 : Ty.T y27) (h5 : Ty.T y27) : fG := iW jO jL (h0, h1, h2, h3, h4, h5, ())
def EM (v : fG) : aP (Ex × St) := bz jO (jL v) v (ax se gD) [.ret, .exit 0] 0
theorem Nv : bw Tryz.prog (aO (pb 4 11) (ae Tryz.f212)) se gD EM := aE (lt := (cD [true, false, false, true] (aO (pb 4 11) (ae Tryz.f212)) .none (.sum rI gD DS))) GY.ok aj (ag.put (az (by kernel_rfl)) (ag.no _) NP) fun n v K => Eq.trans (b := mT v (dt _ _ _ _ _ K)) (by kernel_rfl) (show mT v _ = (mT v some).bind _ from (bC (bC rfl (bC (bC rfl rfl) rfl)) rfl))
def QH := GY.l (g := 212) (t := (cD (pb 4 11) (ae Tryz.f212) .none (.sum se gD EM))) (aZ Tryz.func212 (ag.put (az (by kernel_rfl)) (ag.no _) Nv))
def py (a0 : Ty.T y36) (a1 : List (Ty.T aq)) (a2 : Ty.T af) {Z : Type} (κ : (Ty.T y27) × (Ty.T af) -> Option Z) : Option Z := cond (o8 a0 a2) (cond (pX a1 0 (ar a0 a2).2 a0 (0, 0, 0, 0, 0, 0, false) (ar a0 a2).1 0) (κ ((nr a1 0 (ar a0 a2).2 a0 (0, 0, 0, 0, 0, 0, false) (ar a0 a2).1).2.2.2.2.1, (nr a1 0 (ar a0 a2).2 a0 (0, 0, 0, 0, 0, 0, false) (ar a0 a2).1).2.2.1)) (cond (pX a1 0 (ar a0 a2).2 a0 (0, 0, 0, 0, 0, 0, false) (ar a0 a2).1 1) (κ ((nr a1 0 (ar a0 a2).2 a0 (0, 0, 0, 0, 0, 0, false) (ar a0 a2).1).2.2.2.2.2.1, (nr a1 0 (ar a0 a2).2 a0 (0, 0, 0, 0, 0, 0, false) (ar a0 a2).1).2.2.1)) (none))) (none)
def B4 (a0 : Ty.T y36) (a1 : List (Ty.T aq)) (a2 : Ty.T af) : (Ty.T y27) × (Ty.T af) := (py a0 a1 a2 some).getD ((Ty.zero y27), (Ty.zero af))
def H3 (a0 : Ty.T y36) (a1 : List (Ty.T aq)) (a2 : Ty.T af) : Bool := (py a0 a1 a2 some).isSome
def SA : Gen := ⟨[false, false, false], [.one (.ptr 4294967296 0), .agg [.dat y36 false], .one (.dat (.sl 109 aq) false)], [(4294967296, .box 222 [.dat af true])], fun v => .br (H3 v.1 v.2.1 v.2.2.1) (.done (Gp (B4 v.1 v.2.1 v.2.2.1))) .no⟩
theorem QG : dp Tryz.prog 212 SA := b9 QH.ok aj (az (by kernel_rfl)) ⟨Tryz.f212, ae Tryz.f212, by kernel_rfl, by kernel_rfl⟩ fun v => Eq.trans (b := (py v.1 v.2.1 v.2.2.1 (sm Gp))) (by kernel_rfl) (al (show py v.1 v.2.1 v.2.2.1 (sm Gp) = (py v.1 v.2.1 v.2.2.1 some).bind _ from (bC (bC rfl (bC rfl rfl)) rfl)))
def f213 (r : Int) : AV × Sig := (.one (.int .i64 r), [])
def ab4 := (E0.p RD)
def ZU (a0 : Ty.T y36) (a1 : Ty.T y27) : Option (AV × Sig) := cond (d270 a0 a1) (cond ((lI a0 a1) == (-1 : Int)) (some (.one (.int .i64 a0.2.2.1), [])) (some (.one (.int .i64 (lI a0 a1)), []))) (none)
def tY (a0 : Ty.T y36) (a1 : Ty.T y27) : Int := cond (d270 a0 a1) (cond ((lI a0 a1) == (-1 : Int)) (a0.2.2.1) ((lI a0 a1))) (0)
def d213 (a0 : Ty.T y36) (a1 : Ty.T y27) : Bool := cond (d270 a0 a1) (cond ((lI a0 a1) == (-1 : Int)) (true) (true)) (false)
theorem adW (a0 : Ty.T y36) (a1 : Ty.T y27) : ZU a0 a1 = cond (d213 a0 a1) (some (f213 (tY a0 a1))) none := (pC (pC (pS _) (pS _)) (pN _))
def ab9 : Prim := ⟨[.agg [.dat y36 true], .agg [.dat y27 true]], fun v => .br (d213 v.1 v.2.1) (.done (f213 (tY v.1 v.2.1))) .no⟩
theorem Xg : PO 213 ab9 := pK ab4 fun v => Eq.trans (b := ZU v.1 v.2.1) (by kernel_rfl) (adW v.1 v.2.1)
def f148 (r : Int) : AV × Sig := (.one (.int .i64 r), [])
def adE := E0
def W7 (a0 : Int) (a1 : Int) : Option (AV × Sig) := cond (decide (a1 < a0)) (cond (decide (a1 < (0 : Int))) (some (.one (.int .i64 0), [])) (some (.one (.int .i64 a1), []))) (cond (decide (a0 < (0 : Int))) (some (.one (.int .i64 0), [])) (some (.one (.int .i64 a0), [])))
def ey (a0 : Int) (a1 : Int) : Int := cond (decide (a1 < a0)) (cond (decide (a1 < (0 : Int))) (0) (a1)) (cond (decide (a0 < (0 : Int))) (0) (a0))
theorem aek (a0 : Int) (a1 : Int) : W7 a0 a1 = some (f148 (ey a0 a1)) := (tC (tC rfl rfl) (tC rfl rfl))
def aa7 : Prim := ⟨[oI, oI], fun v => .done (f148 (ey v.1 v.2.1))⟩
theorem zG : PO 148 aa7 := pK adE fun v => Eq.trans (b := W7 v.1 v.2.1) (by kernel_rfl) (aek v.1 v.2.1)
def f244 (r : Bool) : AV × Sig := (.one (.bool r), [])
def aaA := E0
def X4 (a0 : Ty.T y27) : Option (AV × Sig) := cond (a0.2.2.2.2.1 == (0 : Int)) (some (.one (.bool (a0.1 != (2 : Int))), [])) (some (.one (.bool false), []))
def Lx (a0 : Ty.T y27) : Bool := cond (a0.2.2.2.2.1 == (0 : Int)) ((a0.1 != (2 : Int))) (false)
theorem acw (a0 : Ty.T y27) : X4 a0 = some (f244 (Lx a0)) := (tC rfl rfl)
def acg : Prim := ⟨[.agg [.dat y27 true]], fun v => .done (f244 (Lx v.1))⟩
theorem Vx : PO 244 acg := pK aaA fun v => Eq.trans (b := X4 v.1) (by kernel_rfl) (acw v.1)
def f272 (r : (Ty.T y27)) : AV × Sig := (.agg (y27.cells false r), [])
def acp := (E0.p zG)
def Yq (a0 : Ty.T y27) (a1 : Int) : Option (AV × Sig) := some (.agg [.int .i64 a0.1, .int .i64 a0.2.1, .int .i64 a0.2.2.1, .int .i64 a0.2.2.2.1, .int .i64 (ey a1 2147483647), .int .i64 a0.2.2.2.2.2.1, .bool a0.2.2.2.2.2.2], [])
def B3 (a0 : Ty.T y27) (a1 : Int) : (Ty.T y27) := (a0.1, a0.2.1, a0.2.2.1, a0.2.2.2.1, (ey a1 2147483647), a0.2.2.2.2.2)
theorem Z7 (a0 : Ty.T y27) (a1 : Int) : Yq a0 a1 = some (f272 (B3 a0 a1)) := rfl
def ae3 : Prim := ⟨[.agg [.dat y27 true], oI], fun v => .done (f272 (B3 v.1 v.2.1))⟩
theorem RI : PO 272 ae3 := pK acp fun v => Eq.trans (b := Yq v.1 v.2.1) (by kernel_rfl) (Z7 v.1 v.2.1)
def f273 (r : (List (Ty.T y27))) : AV × Sig := (.one (.sl 4096), [(4096, .arr 41 y27 r false)])
def WA := (E0.p zG)
@[reducible] def BL : List SP := U2 (.one (.ptr 2 0) :: .one (.ptr 3 0) :: .one (.dat (.sl 41 y27) false) :: .one (.own 8) :: oI :: U16 (U8 (U4 (U2 (.und :: [])))))
@[reducible] def BD : List (Nat × GP) := [(2, .box 107 [.dat bo true]), (3, .box 41 [.dat y27 false]), (8, .arr 41 y27 false)]
@[reducible] def oA : Type := (List (Ty.T y27)) × Int × (Ty.T bo) × (Ty.T y27) × (List (Ty.T y27)) × Unit
def oV (v : oA) {Z : Type} (κ : Nat × oA -> Option Z) : Option Z := cond (decide (v.2.1 < ((v.2.2.1.2.2.2.2.2.2).length : Int))) (cond (v.2.2.1.1 == (9 : Int)) (if 0 <= v.2.1 then (bc ((v.2.2.1.2.2.2.2.2.2)[(v.2.1).toNat]?) (fun x1 => cond (x1.2.2.2.2.1 == (-1 : Int)) (if (v.2.2.2.2.1 ++ [(x1.1, x1.2.1, x1.2.2.1, x1.2.2.2.1, (ey v.2.2.2.1.2.2.2.2.1 2147483647), x1.2.2.2.2.2)] : List (Ty.T y27)).length * 56 <= 140737488351232 then (κ (0, (v.1, IntKind.wrap .i64 (v.2.1 + (1 : Int)), v.2.2.1, v.2.2.2.1, v.2.2.2.2.1 ++ [(x1.1, x1.2.1, x1.2.2.1, x1.2.2.2.1, (ey v.2.2.2.1.2.2.2.2.1 2147483647), x1.2.2.2.2.2)], ()))) else none) (if (v.2.2.2.2.1 ++ [x1] : List (Ty.T y27)).length * 56 <= 140737488351232 then (κ (0, (v.1, IntKind.wrap .i64 (v.2.1 + (1 : Int)), v.2.2.1, v.2.2.2.1, v.2.2.2.2.1 ++ [x1], ()))) else none))) else none) (κ (1, (v.1, v.2.1, v.2.2.1, v.2.2.2.1, v.2.2.2.2.1, ())))) (κ (1, (v.1, v.2.1, v.2.2.1, v.2.2.2.1, v.2.2.2.2.1, ())))
def kL (v : oA) : Option (Nat × oA) := oV v some
def kW (v : oA) : Nat := v.1.length + v.2.1.toNat + v.2.2.1.2.2.2.2.2.2.length + v.2.2.2.2.1.length + 100
def vz (h0 : List (Ty.T y27)) (h1 : Int) (h2 : Ty.T bo) (h3 : Ty.T y27) (h4 : List (Ty.T y27)) (c : Nat) : Bool := iK kL kW (h0, h1, h2, h3, h4, ()) c
def Dc (h0 : List (Ty.T y27)) (h1 : Int) (h2 : Ty.T bo) (h3 : Ty.T y27) (h4 : List (Ty.T y27)) : oA := iW kL kW (h0, h1, h2, h3, h4, ())
def PN (v : oA) : aP (Ex × St) := bz kL (kW v) v (ax BL BD) [.exit 0] 0
theorem TH : bw Tryz.prog (aO (pb 4 11) (ae Tryz.f273)) BL BD PN := aE (lt := .none) WA.ok aj (ag.no _) fun n v K => Eq.trans (b := oV v (dt _ _ _ _ _ K)) (by kernel_rfl) (show oV v _ = (oV v some).bind _ from (bC (bC (bI (bO fun x1 => (bC (bI rfl) (bI rfl)))) rfl) rfl))
def Zl := WA.l (g := 273) (t := (cD (pb 4 11) (ae Tryz.f273) .none (.sum BL BD PN))) (aZ Tryz.func273 (ag.put (az (by kernel_rfl)) (ag.no _) TH))
def W0 (a0 : Ty.T bo) (a1 : Ty.T y27) : Option (AV × Sig) := cond (vz [] 0 a0 a1 [] 0) (some (.one (.sl 4096), [(4096, .arr 41 y27 (Dc [] 0 a0 a1 []).2.2.2.2.1 false)])) (none)
def AZ (a0 : Ty.T bo) (a1 : Ty.T y27) : (List (Ty.T y27)) := cond (vz [] 0 a0 a1 [] 0) ((Dc [] 0 a0 a1 []).2.2.2.2.1) ([])
def d273 (a0 : Ty.T bo) (a1 : Ty.T y27) : Bool := cond (vz [] 0 a0 a1 [] 0) (true) (false)
theorem adz (a0 : Ty.T bo) (a1 : Ty.T y27) : W0 a0 a1 = cond (d273 a0 a1) (some (f273 (AZ a0 a1))) none := (pC (pS _) (pN _))
def abd : Prim := ⟨[.agg [.dat bo true], .agg [.dat y27 true]], fun v => .br (d273 v.1 v.2.1) (.done (f273 (AZ v.1 v.2.1))) .no⟩
theorem XN : PO 273 abd := pK Zl fun v => Eq.trans (b := W0 v.1 v.2.1) (by kernel_rfl) (adz v.1 v.2.1)
def f280 (r : Int) : AV × Sig := (.one (.int .i64 r), [])
def aem := E0
def WO (a0 : Int) : Option (AV × Sig) := cond (decide (a0 > (2147483647 : Int))) (some (.one (.int .i64 2147483647), [])) (cond (decide (a0 < (-2147483647 : Int))) (some (.one (.int .i64 (-2147483647)), [])) (some (.one (.int .i64 a0), [])))
def iR (a0 : Int) : Int := cond (decide (a0 > (2147483647 : Int))) (2147483647) (cond (decide (a0 < (-2147483647 : Int))) ((-2147483647)) (a0))
theorem aaB (a0 : Int) : WO a0 = some (f280 (iR a0)) := (tC rfl (tC rfl rfl))
def afs : Prim := ⟨[oI], fun v => .done (f280 (iR v.1))⟩
theorem JO : PO 280 afs := pK aem fun v => Eq.trans (b := WO v.1) (by kernel_rfl) (aaB v.1)
def f222 (r : Int) : AV × Sig := (.one (.int .i64 r), [])
def abz := (E0.p JO)
def Wr (a0 : Int) (a1 : Int) : Option (AV × Sig) := some (.one (.int .i64 (iR (IntKind.wrap .i64 ((iR a0) + (iR a1))))), [])
def lW (a0 : Int) (a1 : Int) : Int := (iR (IntKind.wrap .i64 ((iR a0) + (iR a1))))
theorem abJ (a0 : Int) (a1 : Int) : Wr a0 a1 = some (f222 (lW a0 a1)) := rfl
def aci : Prim := ⟨[oI, oI], fun v => .done (f222 (lW v.1 v.2.1))⟩
theorem Dw : PO 222 aci := pK abz fun v => Eq.trans (b := Wr v.1 v.2.1) (by kernel_rfl) (abJ v.1 v.2.1)
def f335 (r : Int) : AV × Sig := (.one (.int .i64 r), [])
def acP := (E0.p JO)
def W1 (a0 : Int) : Option (AV × Sig) := some (.one (.int .i64 (iR (IntKind.wrap .i64 ((2 : Int) * (iR a0))))), [])
def Kq (a0 : Int) : Int := (iR (IntKind.wrap .i64 ((2 : Int) * (iR a0))))
theorem aaU (a0 : Int) : W1 a0 = some (f335 (Kq a0)) := rfl
def ach : Prim := ⟨[oI], fun v => .done (f335 (Kq v.1))⟩
theorem WZ : PO 335 ach := pK acP fun v => Eq.trans (b := W1 v.1) (by kernel_rfl) (aaU v.1)
def f336 (r : Int) : AV × Sig := (.one (.int .i64 r), [])
def ae9 := (E0.p JO)
def Yj (a0 : Int) : Option (AV × Sig) := some (.one (.int .i64 (IntKind.wrap .i64 ((iR a0).tdiv (2 : Int)))), [])
def KH (a0 : Int) : Int := IntKind.wrap .i64 ((iR a0).tdiv (2 : Int))
theorem afE (a0 : Int) : Yj a0 = some (f336 (KH a0)) := rfl
def afB : Prim := ⟨[oI], fun v => .done (f336 (KH v.1))⟩
theorem Yc : PO 336 afB := pK ae9 fun v => Eq.trans (b := Yj v.1) (by kernel_rfl) (afE v.1)
def f313 (r : Int) : AV × Sig := (.one (.int .i64 r), [])
def aaG := ((((E0.p zG).p Dw).p WZ).p Yc)
def Ze (a0 : Ty.T bo) (a1 : Int) : Option (AV × Sig) := cond (a0.1 == (1 : Int)) (some (.one (.int .i64 0), [])) (cond (a0.1 == (3 : Int)) (some (.one (.int .i64 (lW (ey a1 2147483647) a0.2.1)), [])) (cond (a0.1 == (4 : Int)) (some (.one (.int .i64 (Kq (ey a1 2147483647))), [])) (cond (a0.1 == (5 : Int)) (some (.one (.int .i64 (KH (ey a1 2147483647))), [])) (some (.one (.int .i64 (ey a1 2147483647)), [])))))
def Gm (a0 : Ty.T bo) (a1 : Int) : Int := cond (a0.1 == (1 : Int)) (0) (cond (a0.1 == (3 : Int)) ((lW (ey a1 2147483647) a0.2.1)) (cond (a0.1 == (4 : Int)) ((Kq (ey a1 2147483647))) (cond (a0.1 == (5 : Int)) ((KH (ey a1 2147483647))) ((ey a1 2147483647)))))
theorem aeN (a0 : Ty.T bo) (a1 : Int) : Ze a0 a1 = some (f313 (Gm a0 a1)) := (tC rfl (tC rfl (tC rfl (tC rfl rfl))))
def acJ : Prim := ⟨[.agg [.dat bo true], oI], fun v => .done (f313 (Gm v.1 v.2.1))⟩
theorem YJ : PO 313 acJ := pK aaG fun v => Eq.trans (b := Ze v.1 v.2.1) (by kernel_rfl) (aeN v.1 v.2.1)
def f274 (r : (Ty.T y27)) : AV × Sig := (.agg (y27.cells false r), [])
def aa1 := (((E0.p zG).p RI).p YJ)
def t274 (a0 : Ty.T bo) (a1 : Ty.T y27) {Z : Type} (κ : (Ty.T y27) -> Z) : Z := cond (a0.1 == (3 : Int)) (cond (a0.1 == (3 : Int)) (κ (B3 a1 (Gm a0 a1.2.2.2.2.1))) (cond (a0.1 == (6 : Int)) (κ (a1.1, a1.2.1, a0.2.2.1, a0.2.2.2.1, a1.2.2.2.2)) (cond (a0.1 == (7 : Int)) (cond (a0.2.2.2.2.1 != (2 : Int)) (κ (a1.1, a1.2.1, a1.2.2.1, a1.2.2.2.1, 0, a0.2.2.2.2.1, false)) (κ (a1.1, a1.2.1, a1.2.2.1, a1.2.2.2.1, a1.2.2.2.2.1, a0.2.2.2.2.1, a1.2.2.2.2.2.2))) (cond (a0.1 == (8 : Int)) (cond (a1.2.2.2.2.2.1 == (2 : Int)) (cond a1.2.2.2.2.2.2 (κ (a1.1, a1.2.1, a1.2.2.1, a1.2.2.2.1, (ey (IntKind.wrap .i64 (a1.2.2.2.2.1 + a0.2.1)) 99), a1.2.2.2.2.2.1, true)) (κ (a1.1, a1.2.1, a1.2.2.1, a1.2.2.2.1, (ey (IntKind.wrap .i64 (a1.2.2.2.2.1 + a0.2.1)) 99), a1.2.2.2.2.2.1, a0.2.2.2.2.2.1))) (κ a1)) (κ a1))))) (cond (a0.1 == (4 : Int)) (cond (a0.1 == (4 : Int)) (κ (B3 a1 (Gm a0 a1.2.2.2.2.1))) (cond (a0.1 == (6 : Int)) (κ (a1.1, a1.2.1, a0.2.2.1, a0.2.2.2.1, a1.2.2.2.2)) (cond (a0.1 == (7 : Int)) (cond (a0.2.2.2.2.1 != (2 : Int)) (κ (a1.1, a1.2.1, a1.2.2.1, a1.2.2.2.1, 0, a0.2.2.2.2.1, false)) (κ (a1.1, a1.2.1, a1.2.2.1, a1.2.2.2.1, a1.2.2.2.2.1, a0.2.2.2.2.1, a1.2.2.2.2.2.2))) (cond (a0.1 == (8 : Int)) (cond (a1.2.2.2.2.2.1 == (2 : Int)) (cond a1.2.2.2.2.2.2 (κ (a1.1, a1.2.1, a1.2.2.1, a1.2.2.2.1, (ey (IntKind.wrap .i64 (a1.2.2.2.2.1 + a0.2.1)) 99), a1.2.2.2.2.2.1, true)) (κ (a1.1, a1.2.1, a1.2.2.1, a1.2.2.2.1, (ey (IntKind.wrap .i64 (a1.2.2.2.2.1 + a0.2.1)) 99), a1.2.2.2.2.2.1, a0.2.2.2.2.2.1))) (κ a1)) (κ a1))))) (cond (a0.1 == (5 : Int)) (κ (B3 a1 (Gm a0 a1.2.2.2.2.1))) (cond (a0.1 == (6 : Int)) (κ (a1.1, a1.2.1, a0.2.2.1, a0.2.2.2.1, a1.2.2.2.2)) (cond (a0.1 == (7 : Int)) (cond (a0.2.2.2.2.1 != (2 : Int)) (κ (a1.1, a1.2.1, a1.2.2.1, a1.2.2.2.1, 0, a0.2.2.2.2.1, false)) (κ (a1.1, a1.2.1, a1.2.2.1, a1.2.2.2.1, a1.2.2.2.2.1, a0.2.2.2.2.1, a1.2.2.2.2.2.2))) (cond (a0.1 == (8 : Int)) (cond (a1.2.2.2.2.2.1 == (2 : Int)) (cond a1.2.2.2.2.2.2 (κ (a1.1, a1.2.1, a1.2.2.1, a1.2.2.2.1, (ey (IntKind.wrap .i64 (a1.2.2.2.2.1 + a0.2.1)) 99), a1.2.2.2.2.2.1, true)) (κ (a1.1, a1.2.1, a1.2.2.1, a1.2.2.2.1, (ey (IntKind.wrap .i64 (a1.2.2.2.2.1 + a0.2.1)) 99), a1.2.2.2.2.2.1, a0.2.2.2.2.2.1))) (κ a1)) (κ a1))))))
def sI (a0 : Ty.T bo) (a1 : Ty.T y27) : (Ty.T y27) := t274 a0 a1 fun r => r
def abr : Prim := ⟨[.agg [.dat bo true], .agg [.dat y27 true]], fun v => .done (f274 (sI v.1 v.2.1))⟩
theorem Wz : PO 274 abr := pK aa1 fun v => Eq.trans (b := (t274 v.1 v.2.1 (sm f274))) (by kernel_rfl) (show t274 v.1 v.2.1 (sm f274) = some (f274 (t274 v.1 v.2.1 fun r => r)) from (tC (tC rfl (tC rfl (tC (tC rfl rfl) (tC (tC (tC rfl rfl) rfl) rfl)))) (tC (tC rfl (tC rfl (tC (tC rfl rfl) (tC (tC (tC rfl rfl) rfl) rfl)))) (tC rfl (tC rfl (tC (tC rfl rfl) (tC (tC (tC rfl rfl) rfl) rfl)))))))
def f221 (r : Int) : AV × Sig := (.one (.int .i64 r), [])
def adh := (E0.p JO)
def VH (a0 : Int) (a1 : Int) : Option (AV × Sig) := some (.one (.int .i64 (iR (IntKind.wrap .i64 ((iR a0) - (iR a1))))), [])
def vi (a0 : Int) (a1 : Int) : Int := (iR (IntKind.wrap .i64 ((iR a0) - (iR a1))))
theorem aeB (a0 : Int) (a1 : Int) : VH a0 a1 = some (f221 (vi a0 a1)) := rfl
def af6 : Prim := ⟨[oI, oI], fun v => .done (f221 (vi v.1 v.2.1))⟩
theorem EO : PO 221 af6 := pK adh fun v => Eq.trans (b := VH v.1 v.2.1) (by kernel_rfl) (aeB v.1 v.2.1)
def f275 (r : (Ty.T q0) × (Ty.T aB) × (List (Ty.T y27))) : AV × Sig := (.agg ((q0.cells false r.1) ++ [.sl 81920] ++ (aB.cells false r.2.1)), [(81920, .arr 41 y27 r.2.2 false)])
def aev := (((E0.p zG).p EO).p PH)
def t275 (a0 : Ty.T aq) (a1 : Int) {Z : Type} (κ : (Ty.T q0) × (Ty.T aB) × (List (Ty.T y27)) -> Option Z) : Option Z := cond (d238 a0) (cond (a0.2.2.2.2.2.2.1.1 == (2 : Int)) (κ ((dv a0).1, ((dv a0).2.1.1, (ey (vi a0.2.2.2.2.2.2.2.2 a1) 2147483647)), (dv a0).2.2)) (cond (decide (a0.2.2.2.2.2.2.2.2 > (0 : Int))) (κ ((dv a0).1, ((dv a0).2.1.1, IntKind.wrap .i64 (a0.2.2.2.2.2.2.2.2 - (1 : Int))), (dv a0).2.2)) (κ ((dv a0).1, (dv a0).2.1, (dv a0).2.2)))) (none)
def tZ (a0 : Ty.T aq) (a1 : Int) : (Ty.T q0) × (Ty.T aB) × (List (Ty.T y27)) := (t275 a0 a1 some).getD ((Ty.zero q0), (Ty.zero aB), [])
def d275 (a0 : Ty.T aq) (a1 : Int) : Bool := (t275 a0 a1 some).isSome
def abV : Prim := ⟨[.agg [.dat aq true], oI], fun v => .br (d275 v.1 v.2.1) (.done (f275 (tZ v.1 v.2.1))) .no⟩
theorem Wx : PO 275 abV := pK aev fun v => Eq.trans (b := (t275 v.1 v.2.1 (sm f275))) (by kernel_rfl) (al (show t275 v.1 v.2.1 (sm f275) = (t275 v.1 v.2.1 some).bind _ from (bC (bC rfl (bC rfl rfl)) rfl)))
def f214 (r : Int × (Ty.T q0) × (Ty.T aB) × (List (Ty.T y27)) × (List (Ty.T y27))) : AV × Sig := (.tup [(false, ([.sl 4096])), (false, ([.int .i64 r.1])), (true, ((q0.cells false r.2.1) ++ [.sl 90112] ++ (aB.cells false r.2.2.1)))], [(4096, .arr 41 y27 r.2.2.2.1 false), (90112, .arr 41 y27 r.2.2.2.2 false)])
def K9 := ((((((((((E0.p zG).p wU).p PH).p PF).p Vx).p PU).p RI).p XN).p Wz).p Wx)
@[reducible] def I2 : List SP := U2 (.one (.ptr 2 0) :: .one (.ptr 3 0) :: .one (.dat (.sl 41 y27) false) :: oI :: .one (.ptr 6 0) :: U64 (U32 ([])))
@[reducible] def uE : List (Nat × GP) := [(2, .box 109 [.dat aq true]), (3, .box 41 [.dat y27 false]), (6, .box 109 [.dat aq false])]
@[reducible] def vD : Type := (List (Ty.T y27)) × Int × (Ty.T aq) × (Ty.T y27) × (Ty.T aq) × Unit
@[reducible] def II : List SP := U2 (.one (.ptr 2 0) :: .one (.ptr 3 0) :: .one (.dat (.sl 41 y27) false) :: oI :: .one (.ptr 6 0) :: U16 (U2 (.und :: .one (.dat .bool true) :: U64 (U8 (U4 ([]))))))
def GB (v : vD) (r : Bool) : Ex × St := (.normal, ax II uE (v.1, v.2.1, r, v.2.2.1, v.2.2.2.1, v.2.2.2.2.1, ()))
def oS (v : vD) {Z : Type} (κ : Bool -> Option Z) : Option Z := cond (d242 v.2.2.1) (cond (!(ga v.2.2.1)) (κ true) (cond (!(c8 v.2.2.2.1)) (κ true) (κ (!(lF v.2.2.1.2.2.2.2.2.2.1 v.2.2.2.1.1))))) (none)
def rz (v : vD) : Bool := (oS v some).getD false
def qX (v : vD) : Bool := (oS v some).isSome
def Pr (v : vD) : aP (Ex × St) := .br (qX v) (.done (GB v (rz v))) .no
theorem Us : aK Tryz.prog (aw (pb 3 1) (ae Tryz.f214)) I2 uE Pr := aA (lt := .none) (sx := II) (gx := uE) K9.ok aj (ag.no _) fun v => Eq.trans (b := oS v (sm (GB v))) (by kernel_rfl) (al (show oS v (sm (GB v)) = (oS v some).bind _ from (bC (bC rfl (bC rfl rfl)) rfl)))
@[reducible] def JT : List SP := U2 (.one (.ptr 2 0) :: .one (.ptr 3 0) :: .one (.dat (.sl 41 y27) false) :: oI :: .one (.ptr 6 0) :: .one (.own 31) :: oI :: U16 (U8 (.und :: oI :: U4 (U2 (.und :: .one (.dat .bool true) :: U32 (U16 (U8 (U4 ([])))))))))
@[reducible] def Ji : List (Nat × GP) := [(2, .box 109 [.dat aq true]), (3, .box 41 [.dat y27 false]), (6, .box 109 [.dat aq false]), (31, .arr 41 y27 false)]
@[reducible] def oO : Type := (List (Ty.T y27)) × Int × Int × Int × Bool × (Ty.T aq) × (Ty.T y27) × (Ty.T aq) × (List (Ty.T y27)) × Unit
@[reducible] def IM : List SP := U2 (.one (.ptr 2 0) :: .und :: .one (.dat (.sl 41 y27) false) :: oI :: .one (.ptr 6 0) :: .one (.own 31) :: oI :: U64 (U16 (U8 (U4 (U2 ([]))))))
@[reducible] def JA : List (Nat × GP) := [(2, .box 109 [.dat aq true]), (6, .box 109 [.dat aq false]), (31, .arr 41 y27 false)]
def G5 (v : oO) (r : Int × (List (Ty.T y27))) : Ex × St := (.normal, ax IM JA (v.1, v.2.1, r.1, v.2.2.2.2.2.1, v.2.2.2.2.2.2.2.1, r.2, ()))
def dx (v : oO) {Z : Type} (κ : Int × (List (Ty.T y27)) -> Option Z) : Option Z := cond v.2.2.2.2.1 (cond (v.2.2.2.2.2.2.1.1 == (1 : Int)) (κ (v.2.2.2.2.2.2.1.2.2.2.2.1, v.2.2.2.2.2.2.2.2.1)) (κ (v.2.2.1, v.2.2.2.2.2.2.2.2.1))) (cond (v.2.2.2.1 == (2 : Int)) (if (v.2.2.2.2.2.2.2.2.1 ++ [(B3 v.2.2.2.2.2.2.1 (IntKind.wrap .i64 (v.2.2.2.2.2.2.1.2.2.2.2.1 - (ey v.2.2.2.2.2.2.1.2.2.2.2.1 v.2.2.2.2.2.1.2.2.2.2.2.2.2.2))))] : List (Ty.T y27)).length * 56 <= 140737488351232 then (κ ((ey v.2.2.2.2.2.2.1.2.2.2.2.1 v.2.2.2.2.2.1.2.2.2.2.2.2.2.2), v.2.2.2.2.2.2.2.2.1 ++ [(B3 v.2.2.2.2.2.2.1 (IntKind.wrap .i64 (v.2.2.2.2.2.2.1.2.2.2.2.1 - (ey v.2.2.2.2.2.2.1.2.2.2.2.1 v.2.2.2.2.2.1.2.2.2.2.2.2.2.2))))])) else none) (cond (v.2.2.2.1 == (9 : Int)) (cond (d273 v.2.2.2.2.2.1.2.2.2.2.2.2.1 v.2.2.2.2.2.2.1) (κ (v.2.2.1, (AZ v.2.2.2.2.2.1.2.2.2.2.2.2.1 v.2.2.2.2.2.2.1))) (none)) (if (v.2.2.2.2.2.2.2.2.1 ++ [(sI v.2.2.2.2.2.1.2.2.2.2.2.2.1 v.2.2.2.2.2.2.1)] : List (Ty.T y27)).length * 56 <= 140737488351232 then (κ (v.2.2.1, v.2.2.2.2.2.2.2.2.1 ++ [(sI v.2.2.2.2.2.1.2.2.2.2.2.2.1 v.2.2.2.2.2.2.1)])) else none)))
def bF (v : oO) : Int × (List (Ty.T y27)) := (dx v some).getD (0, [])
def eR (v : oO) : Bool := (dx v some).isSome
def OB (v : oO) : aP (Ex × St) := .br (eR v) (.done (G5 v (bF v))) .no
theorem Tj : aK Tryz.prog (aw (pb 7 111) (ae Tryz.f214)) JT Ji OB := aA (lt := .none) (sx := IM) (gx := JA) K9.ok aj (ag.no _) fun v => Eq.trans (b := dx v (sm (G5 v))) (by kernel_rfl) (al (show dx v (sm (G5 v)) = (dx v some).bind _ from by unfold dx; simp only [bb]))
@[reducible] def JW : List SP := U2 (.one (.ptr 2 0) :: .und :: .one (.dat (.sl 41 y27) false) :: oI :: .one (.ptr 6 0) :: .one (.own 31) :: oI :: .one (.own 71) :: oI :: U32 (U16 (U8 (U4 (.und :: oI :: .one (.own 31) :: oI :: .one (.dat .bool true) :: U16 (U8 (U2 (.und :: []))))))))
@[reducible] def fg : List (Nat × GP) := [(2, .box 109 [.dat aq true]), (6, .box 109 [.dat aq false]), (31, .arr 41 y27 false), (71, .arr 41 y27 false)]
@[reducible] def xJ : Type := (List (Ty.T y27)) × Int × Int × Int × Int × Int × Bool × (Ty.T aq) × (Ty.T aq) × (List (Ty.T y27)) × (List (Ty.T y27)) × Unit
@[reducible] def nN : List SP := U2 (.one (.ptr 2 0) :: .und :: .one (.dat (.sl 41 y27) false) :: oI :: .one (.ptr 6 0) :: .one (.own 31) :: oI :: .one (.own 71) :: oI :: U32 (U16 (U8 (U4 (.und :: oI :: .one (.own 31) :: oI :: .one (.dat .bool true) :: U2 (.one (.own 31) :: oI :: .und :: .agg [.dat y27 false] :: .one (.dat .bool true) :: .one (.dat .bool true) :: U4 (U2 (.one (.dat .bool true) :: U8 (U4 ([]))))))))))
def GV (v : xJ) (r : (Ty.T y27) × Bool × Bool × Bool) : Ex × St := (.normal, ax nN fg (v.1, v.2.1, v.2.2.1, v.2.2.2.1, v.2.2.2.2.1, v.2.2.2.2.2.1, v.2.2.2.2.2.2.1, v.2.2.2.1, r.1, r.2.1, r.2.2.1, r.2.2.2, v.2.2.2.2.2.2.2.1, v.2.2.2.2.2.2.2.2.1, v.2.2.2.2.2.2.2.2.2.1, v.2.2.2.2.2.2.2.2.2.2.1, ()))
def pM (v : xJ) {Z : Type} (κ : (Ty.T y27) × Bool × Bool × Bool -> Option Z) : Option Z := if 0 <= v.2.2.2.1 then (if v.2.2.2.1 < ((v.2.2.2.2.2.2.2.2.2.1).length : Int) then (bc ((v.2.2.2.2.2.2.2.2.2.1)[(v.2.2.2.1).toNat]?) (fun x1 => cond (c8 x1) (if 0 <= v.2.2.2.1 then (if v.2.2.2.1 < ((v.2.2.2.2.2.2.2.2.2.1).length : Int) then (bc ((v.2.2.2.2.2.2.2.2.2.1)[(v.2.2.2.1).toNat]?) (fun x2 => κ (x1, (c8 x1), true, !(Lx x2)))) else none) else none) (κ (x1, (c8 x1), false, false)))) else none) else none
def GC (v : xJ) : (Ty.T y27) × Bool × Bool × Bool := (pM v some).getD ((Ty.zero y27), false, false, false)
def HG (v : xJ) : Bool := (pM v some).isSome
def PE (v : xJ) : aP (Ex × St) := .br (HG v) (.done (GV v (GC v))) .no
theorem T8 : aK Tryz.prog (aw [true, false, false] (aO (pb 8 191) (ae Tryz.f214))) JW fg PE := aA (lt := .none) (sx := nN) (gx := fg) K9.ok aj (ag.no _) fun v => Eq.trans (b := pM v (sm (GV v))) (by kernel_rfl) (al (show pM v (sm (GV v)) = (pM v some).bind _ from by unfold pM; simp only [bb]))
@[reducible] def xF : Type := (List (Ty.T y27)) × Int × Int × Int × Int × Int × Bool × Int × (Ty.T y27) × Bool × Bool × Bool × (Ty.T aq) × (Ty.T aq) × (List (Ty.T y27)) × (List (Ty.T y27)) × Unit
def Il (v : xF) (r : (List (Ty.T y27))) : Ex × St := (.normal, ax nN fg (v.1, v.2.1, v.2.2.1, v.2.2.2.1, v.2.2.2.2.1, v.2.2.2.2.2.1, v.2.2.2.2.2.2.1, v.2.2.2.2.2.2.2.1, v.2.2.2.2.2.2.2.2.1, v.2.2.2.2.2.2.2.2.2.1, v.2.2.2.2.2.2.2.2.2.2.1, v.2.2.2.2.2.2.2.2.2.2.2.1, v.2.2.2.2.2.2.2.2.2.2.2.2.1, v.2.2.2.2.2.2.2.2.2.2.2.2.2.1, v.2.2.2.2.2.2.2.2.2.2.2.2.2.2.1, r, ()))
def sS (v : xF) {Z : Type} (κ : (List (Ty.T y27)) -> Option Z) : Option Z := cond v.2.2.2.2.2.2.2.2.2.2.2.1 (if 0 <= v.2.2.2.1 then (if v.2.2.2.1 < ((v.2.2.2.2.2.2.2.2.2.2.2.2.2.2.1).length : Int) then (bc ((v.2.2.2.2.2.2.2.2.2.2.2.2.2.2.1)[(v.2.2.2.1).toNat]?) (fun x3 => if (v.2.2.2.2.2.2.2.2.2.2.2.2.2.2.2.1 ++ [x3] : List (Ty.T y27)).length * 56 <= 140737488351232 then (κ (v.2.2.2.2.2.2.2.2.2.2.2.2.2.2.2.1 ++ [x3])) else none)) else none) else none) (κ v.2.2.2.2.2.2.2.2.2.2.2.2.2.2.2.1)
def Gv (v : xF) : (List (Ty.T y27)) := (sS v some).getD []
def Hx (v : xF) : Bool := (sS v some).isSome
def L7 (v : xF) : aP (Ex × St) := .br (Hx v) (.done (Il v (Gv v))) .no
theorem Va : aK Tryz.prog (aw [true, false, true] (aO (pb 8 191) (ae Tryz.f214))) nN fg L7 := aA (lt := .none) (sx := nN) (gx := fg) K9.ok aj (ag.no _) fun v => Eq.trans (b := sS v (sm (Il v))) (by kernel_rfl) (al (show sS v (sm (Il v)) = (sS v some).bind _ from (bC (bI (bI (bO fun x3 => (bI rfl)))) rfl)))
@[reducible] def Cz : List SP := U2 (.one (.ptr 2 0) :: .und :: .one (.dat (.sl 41 y27) false) :: oI :: .one (.ptr 6 0) :: .one (.own 31) :: oI :: .one (.own 71) :: oI :: U64 (U16 (U8 (U4 ([])))))
@[reducible] def mI : Type := (List (Ty.T y27)) × Int × Int × Int × (Ty.T aq) × (Ty.T aq) × (List (Ty.T y27)) × (List (Ty.T y27)) × Unit
def kr (v : mI) := (GC (v.1, v.2.1, v.2.2.1, v.2.2.2.1, v.2.2.2.1, ((v.2.2.2.2.2.2.1).length : Int), decide (v.2.2.2.1 < ((v.2.2.2.2.2.2.1).length : Int)), v.2.2.2.2.1, v.2.2.2.2.2.1, v.2.2.2.2.2.2.1, v.2.2.2.2.2.2.2.1, ()))
def qU (v : mI) {Z : Type} (κ : Nat × mI -> Option Z) : Option Z := cond (decide (v.2.2.2.1 < ((v.2.2.2.2.2.2.1).length : Int))) (cond (HG (v.1, v.2.1, v.2.2.1, v.2.2.2.1, v.2.2.2.1, ((v.2.2.2.2.2.2.1).length : Int), decide (v.2.2.2.1 < ((v.2.2.2.2.2.2.1).length : Int)), v.2.2.2.2.1, v.2.2.2.2.2.1, v.2.2.2.2.2.2.1, v.2.2.2.2.2.2.2.1, ())) (cond (Hx (v.1, v.2.1, v.2.2.1, v.2.2.2.1, v.2.2.2.1, ((v.2.2.2.2.2.2.1).length : Int), (decide (v.2.2.2.1 < ((v.2.2.2.2.2.2.1).length : Int))), v.2.2.2.1, (kr v).1, (kr v).2.1, (kr v).2.2.1, (kr v).2.2.2, v.2.2.2.2.1, v.2.2.2.2.2.1, v.2.2.2.2.2.2.1, v.2.2.2.2.2.2.2.1, ())) (κ (0, (v.1, v.2.1, v.2.2.1, IntKind.wrap .i64 (v.2.2.2.1 + (1 : Int)), v.2.2.2.2.1, v.2.2.2.2.2.1, v.2.2.2.2.2.2.1, (Gv (v.1, v.2.1, v.2.2.1, v.2.2.2.1, v.2.2.2.1, ((v.2.2.2.2.2.2.1).length : Int), (decide (v.2.2.2.1 < ((v.2.2.2.2.2.2.1).length : Int))), v.2.2.2.1, (kr v).1, (kr v).2.1, (kr v).2.2.1, (kr v).2.2.2, v.2.2.2.2.1, v.2.2.2.2.2.1, v.2.2.2.2.2.2.1, v.2.2.2.2.2.2.2.1, ())), ()))) (none)) (none)) (κ (1, (v.1, v.2.1, v.2.2.1, v.2.2.2.1, v.2.2.2.2.1, v.2.2.2.2.2.1, v.2.2.2.2.2.2.1, v.2.2.2.2.2.2.2.1, ())))
def oK (v : mI) : Option (Nat × mI) := qU v some
def wZ (v : mI) : Nat := v.1.length + v.2.1.toNat + v.2.2.1.toNat + v.2.2.2.1.toNat + v.2.2.2.2.1.2.2.2.2.2.2.1.2.2.2.2.2.2.length + v.2.2.2.2.2.1.2.2.2.2.2.2.1.2.2.2.2.2.2.length + v.2.2.2.2.2.2.1.length + v.2.2.2.2.2.2.2.1.length + 100
def Ig (h0 : List (Ty.T y27)) (h1 : Int) (h2 : Int) (h3 : Int) (h4 : Ty.T aq) (h5 : Ty.T aq) (h6 : List (Ty.T y27)) (h7 : List (Ty.T y27)) (c : Nat) : Bool := iK oK wZ (h0, h1, h2, h3, h4, h5, h6, h7, ()) c
def GX (h0 : List (Ty.T y27)) (h1 : Int) (h2 : Int) (h3 : Int) (h4 : Ty.T aq) (h5 : Ty.T aq) (h6 : List (Ty.T y27)) (h7 : List (Ty.T y27)) : mI := iW oK wZ (h0, h1, h2, h3, h4, h5, h6, h7, ())
def Nj (v : mI) : aP (Ex × St) := bz oK (wZ v) v (ax Cz fg) [.exit 1] 0
theorem Su : bw Tryz.prog (aO (pb 8 191) (ae Tryz.f214)) Cz fg Nj := aE (lt := (aD [true, false, true] (aO (pb 8 191) (ae Tryz.f214)) (aD [true, false, false] (aO (pb 8 191) (ae Tryz.f214)) .none (.sum JW fg PE)) (.sum nN fg L7))) K9.ok aj (ag.bP (az (by kernel_rfl)) (ag.bP (az (by kernel_rfl)) (ag.no _) T8) Va) fun n v K => Eq.trans (b := qU v (dt _ _ _ _ _ K)) (by kernel_rfl) (show qU v _ = (qU v some).bind _ from (bC (bC (bC rfl rfl) rfl) rfl))
def Zi := K9.l (g := 214) (t := (aD (pb 8 191) (ae Tryz.f214) (aD (pb 7 111) (ae Tryz.f214) (aD (pb 3 1) (ae Tryz.f214) .none (.sum I2 uE Pr)) (.sum JT Ji OB)) (.sum Cz fg Nj))) (aZ Tryz.func214 (ag.wL (by kernel_rfl) (az (by kernel_rfl)) (ag.bP (az (by kernel_rfl)) (ag.bP (az (by kernel_rfl)) (ag.no _) Us) Tj) Su))
def rK (a0 : Ty.T aq) (a1 : Ty.T y27) := (bF ([], 0, 0, a0.2.2.2.2.2.2.1.1, (a0.2.2.2.2.2.2.1.1 == (1 : Int)), a0, a1, (0, 0, 0, 0, (0, 0, 0, 0, 0, 0, 0), (0, 0), (0, 0, 0, 0, 0, false, []), 0, 0), [], ()))
def gf (a0 : Ty.T aq) (a1 : Ty.T y27) := (GX [] 0 (rK a0 a1).1 0 a0 (0, 0, 0, 0, (0, 0, 0, 0, 0, 0, 0), (0, 0), (0, 0, 0, 0, 0, false, []), 0, 0) (rK a0 a1).2 [])
def t214 (a0 : Ty.T aq) (a1 : Ty.T y27) {Z : Type} (κ : Int × (Ty.T q0) × (Ty.T aB) × (List (Ty.T y27)) × (List (Ty.T y27)) -> Option Z) : Option Z := cond (qX ([], 0, a0, a1, (0, 0, 0, 0, (0, 0, 0, 0, 0, 0, 0), (0, 0), (0, 0, 0, 0, 0, false, []), 0, 0), ())) (cond (rz ([], 0, a0, a1, (0, 0, 0, 0, (0, 0, 0, 0, 0, 0, 0), (0, 0), (0, 0, 0, 0, 0, false, []), 0, 0), ())) (cond (d238 a0) (κ (0, (dv a0).1, (dv a0).2.1, [a1], (dv a0).2.2)) (none)) (cond (eR ([], 0, 0, a0.2.2.2.2.2.2.1.1, (a0.2.2.2.2.2.2.1.1 == (1 : Int)), a0, a1, (0, 0, 0, 0, (0, 0, 0, 0, 0, 0, 0), (0, 0), (0, 0, 0, 0, 0, false, []), 0, 0), [], ())) (cond (Ig [] 0 (rK a0 a1).1 0 a0 (0, 0, 0, 0, (0, 0, 0, 0, 0, 0, 0), (0, 0), (0, 0, 0, 0, 0, false, []), 0, 0) (rK a0 a1).2 [] 0) (cond (d275 (gf a0 a1).2.2.2.2.1 (gf a0 a1).2.2.1) (κ ((gf a0 a1).2.2.1, (tZ (gf a0 a1).2.2.2.2.1 (gf a0 a1).2.2.1).1, (tZ (gf a0 a1).2.2.2.2.1 (gf a0 a1).2.2.1).2.1, (gf a0 a1).2.2.2.2.2.2.2.1, (tZ (gf a0 a1).2.2.2.2.1 (gf a0 a1).2.2.1).2.2)) (none)) (none)) (none))) (none)
def vk (a0 : Ty.T aq) (a1 : Ty.T y27) : Int × (Ty.T q0) × (Ty.T aB) × (List (Ty.T y27)) × (List (Ty.T y27)) := (t214 a0 a1 some).getD (0, (Ty.zero q0), (Ty.zero aB), [], [])
def d214 (a0 : Ty.T aq) (a1 : Ty.T y27) : Bool := (t214 a0 a1 some).isSome
def ae1 : Prim := ⟨[.agg [.dat aq true], .agg [.dat y27 true]], fun v => .br (d214 v.1 v.2.1) (.done (f214 (vk v.1 v.2.1))) .no⟩
theorem Xo : PO 214 ae1 := pK Zi fun v => Eq.trans (b := (t214 v.1 v.2.1 (sm f214))) (by kernel_rfl) (al (show t214 v.1 v.2.1 (sm f214) = (t214 v.1 v.2.1 some).bind _ from by unfold t214; simp only [bb]))
def HB (r : (Ty.T y27) × (Ty.T af)) : AV × Sig := (.agg (y27.cells false r.1), [(4294967296, .box 222 ((af.cells true r.2)))])
def TM := ((((E0.g dw).g dX).g uM).g ue)
def nq (a0 : Ty.T y36) (a1 : Ty.T af) {Z : Type} (κ : (Ty.T y27) × (Ty.T af) -> Option Z) : Option Z := cond (o8 a0 a1) (cond (bn 16 (ar a0 a1).2) (cond ((aa 16 (ar a0 a1).2).1 == (0 : Int)) (cond (bm [0, 1, 2, 3, 5, 7] (aa 16 (ar a0 a1).2).2) (κ (((ah [0, 1, 2, 3, 5, 7] (aa 16 (ar a0 a1).2).2).1, (ar a0 a1).1.2), (ah [0, 1, 2, 3, 5, 7] (aa 16 (ar a0 a1).2).2).2)) (none)) (cond ((aa 16 (ar a0 a1).2).1 == (1 : Int)) (cond (bm [0, 1, 99, 100] (aa 16 (ar a0 a1).2).2) (κ (((ar a0 a1).1.1, (ah [0, 1, 99, 100] (aa 16 (ar a0 a1).2).2).1, (ar a0 a1).1.2.2), (ah [0, 1, 99, 100] (aa 16 (ar a0 a1).2).2).2)) (none)) (cond ((aa 16 (ar a0 a1).2).1 == (2 : Int)) (cond (bm [0, 99, 100, (-1)] (aa 16 (ar a0 a1).2).2) (κ (((ar a0 a1).1.1, (ar a0 a1).1.2.1, (ah [0, 99, 100, (-1)] (aa 16 (ar a0 a1).2).2).1, (ar a0 a1).1.2.2.2), (ah [0, 99, 100, (-1)] (aa 16 (ar a0 a1).2).2).2)) (none)) (cond ((aa 16 (ar a0 a1).2).1 == (3 : Int)) (cond (bm [(-2), (-1), 0, 2, 3] (aa 16 (ar a0 a1).2).2) (κ (((ar a0 a1).1.1, (ar a0 a1).1.2.1, (ar a0 a1).1.2.2.1, (ah [(-2), (-1), 0, 2, 3] (aa 16 (ar a0 a1).2).2).1, (ar a0 a1).1.2.2.2.2), (ah [(-2), (-1), 0, 2, 3] (aa 16 (ar a0 a1).2).2).2)) (none)) (cond ((aa 16 (ar a0 a1).2).1 == (4 : Int)) (cond (mN (aa 16 (ar a0 a1).2).2) (κ (((ar a0 a1).1.1, (ar a0 a1).1.2.1, (ar a0 a1).1.2.2.1, (ar a0 a1).1.2.2.2.1, (e4 (aa 16 (ar a0 a1).2).2).1, (ar a0 a1).1.2.2.2.2.2), (e4 (aa 16 (ar a0 a1).2).2).2)) (none)) (cond ((aa 16 (ar a0 a1).2).1 == (5 : Int)) (cond (bm [0, 2, 4, 5] (aa 16 (ar a0 a1).2).2) (κ (((ar a0 a1).1.1, (ar a0 a1).1.2.1, (ar a0 a1).1.2.2.1, (ar a0 a1).1.2.2.2.1, (ar a0 a1).1.2.2.2.2.1, (ah [0, 2, 4, 5] (aa 16 (ar a0 a1).2).2).1, (ar a0 a1).1.2.2.2.2.2.2), (ah [0, 2, 4, 5] (aa 16 (ar a0 a1).2).2).2)) (none)) (cond ((aa 16 (ar a0 a1).2).1 == (6 : Int)) (κ (((ar a0 a1).1.1, (ar a0 a1).1.2.1, (ar a0 a1).1.2.2.1, (ar a0 a1).1.2.2.2.1, (ar a0 a1).1.2.2.2.2.1, (ar a0 a1).1.2.2.2.2.2.1, !(ar a0 a1).1.2.2.2.2.2.2), (aa 16 (ar a0 a1).2).2)) (κ ((ar a0 a1).1, (aa 16 (ar a0 a1).2).2))))))))) (none)) (none)
def fY (a0 : Ty.T y36) (a1 : Ty.T af) : (Ty.T y27) × (Ty.T af) := (nq a0 a1 some).getD ((Ty.zero y27), (Ty.zero af))
def yp (a0 : Ty.T y36) (a1 : Ty.T af) : Bool := (nq a0 a1 some).isSome
def U7 : Gen := ⟨[false, false], [.one (.ptr 4294967296 0), .agg [.dat y36 false]], [(4294967296, .box 222 [.dat af true])], fun v => .br (yp v.1 v.2.1) (.done (HB (fY v.1 v.2.1))) .no⟩
theorem Di : dp Tryz.prog 151 U7 := b9 TM.ok aj (az (by kernel_rfl)) ⟨Tryz.f151, ae Tryz.f151, by kernel_rfl, by kernel_rfl⟩ fun v => Eq.trans (b := (nq v.1 v.2.1 (sm HB))) (by kernel_rfl) (al (show nq v.1 v.2.1 (sm HB) = (nq v.1 v.2.1 some).bind _ from by unfold nq; simp only [bb]))
def Ih (r : (Ty.T q3) × (Ty.T aB) × (Ty.T af) × (List (Ty.T y27))) : AV × Sig := (.agg ((q3.cells false r.1) ++ [.sl 33599488] ++ (aB.cells false r.2.1)), [(4294967296, .box 222 ((af.cells true r.2.2.1))), (33599488, .arr 41 y27 r.2.2.2 false)])
def vu := ((((((((E0.g dw).g Di).g dX).g uM).g Rf).g QG).p Xg).p Xo)
@[reducible] def zp : List SP := .one (.ptr 4294967296 0) :: U2 (.one (.ptr 3 0) :: .one (.ptr 4 0) :: U64 (U16 (U4 (.und :: []))))
@[reducible] def zO : List (Nat × GP) := [(4294967296, .box 222 [.dat af true]), (3, .box 37 [.dat y36 false]), (4, .box 67 [.dat y66 false])]
@[reducible] def na : Type := (Ty.T af) × (Ty.T y36) × (Ty.T y66) × Unit
@[reducible] def zu : List SP := .one (.ptr 4294967296 0) :: U2 (.one (.ptr 3 0) :: .one (.ptr 4 0) :: .one (.ptr 5 0) :: U64 (U16 (U4 ([]))))
@[reducible] def yY : List (Nat × GP) := [(4294967296, .box 222 [.dat af true]), (3, .box 37 [.dat y36 false]), (4, .box 67 [.dat y66 false]), (5, .box 109 [.dat q0 false, .own 33632269, .dat aB false]), (33632269, .arr 41 y27 false)]
def xi (v : na) (r : Unit) : Ex × St := (.normal, ax zu yY ((kF v.2.1 (IntKind.wrap .i64 ((1 : Int) + (aa 5 v.1).1)) (aa 5 v.1).2).2.2.1, v.2.1, v.2.2.1, (kF v.2.1 (IntKind.wrap .i64 ((1 : Int) + (aa 5 v.1).1)) (aa 5 v.1).2).1, (kF v.2.1 (IntKind.wrap .i64 ((1 : Int) + (aa 5 v.1).1)) (aa 5 v.1).2).2.1, (kF v.2.1 (IntKind.wrap .i64 ((1 : Int) + (aa 5 v.1).1)) (aa 5 v.1).2).2.2.2, ()))
def ki (v : na) {Z : Type} (κ : Unit -> Option Z) : Option Z := cond (bn 5 v.1) (cond (F6 v.2.1 (IntKind.wrap .i64 ((1 : Int) + (aa 5 v.1).1)) (aa 5 v.1).2) (κ ()) (none)) (none)
def N8 (v : na) : Unit := (ki v some).getD ()
def p6 (v : na) : Bool := (ki v some).isSome
def EH (v : na) : aP (Ex × St) := .br (p6 v) (.done (xi v (N8 v))) .no
theorem LF : aK Tryz.prog (aw [true, false] (ae Tryz.f118)) zp zO EH := bA (by kernel_rfl) (sx := zu) (gx := yY) vu.ok aj (by kernel_rfl) 6 fun v => Eq.trans (b := List.replicate 6 (ki v (sm (xi v)))) (by kernel_rfl) (congrArg (List.replicate 6) (al (show ki v (sm (xi v)) = (ki v some).bind _ from (bC (bC rfl rfl) rfl))))
@[reducible] def Ae : List SP := .one (.ptr 4294967296 0) :: U2 (.one (.ptr 3 0) :: .one (.ptr 4 0) :: .one (.ptr 5 0) :: .one (.ptr 6 0) :: U64 (U16 (U2 (.und :: []))))
@[reducible] def zm : List (Nat × GP) := [(4294967296, .box 222 [.dat af true]), (3, .box 37 [.dat y36 false]), (4, .box 67 [.dat y66 false]), (5, .box 109 [.dat aq false]), (6, .box 41 [.dat y27 false])]
@[reducible] def lN : Type := (Ty.T af) × (Ty.T y36) × (Ty.T y66) × (Ty.T aq) × (Ty.T y27) × Unit
@[reducible] def yK : List SP := .one (.ptr 4294967296 0) :: U2 (.one (.ptr 3 0) :: .one (.ptr 4 0) :: .one (.ptr 5 0) :: .one (.ptr 6 0) :: .one (.ptr 7 0) :: U64 (U16 (U2 ([]))))
@[reducible] def zA : List (Nat × GP) := [(4294967296, .box 222 [.dat af true]), (3, .box 37 [.dat y36 false]), (4, .box 67 [.dat y66 false]), (5, .box 109 [.dat aq false]), (6, .box 41 [.dat y27 false]), (7, .box 67 [.dat q3 false, .own 52211712, .dat aB false]), (52211712, .arr 41 y27 false)]
def xV (v : lN) (r : Unit) : Ex × St := (.normal, ax yK zA ((aa 3 v.1).2, v.2.1, v.2.2.1, v.2.2.2.1, v.2.2.2.2.1, (v.2.2.2.1.1, (tY v.2.1 v.2.2.2.2.1), 0, IntKind.wrap .i64 ((1 : Int) + (aa 3 v.1).1), v.2.2.2.2.1), (0, 0), [], ()))
def jZ (v : lN) {Z : Type} (κ : Unit -> Option Z) : Option Z := cond (d213 v.2.1 v.2.2.2.2.1) (cond (bn 3 v.1) (κ ()) (none)) (none)
def O1 (v : lN) : Unit := (jZ v some).getD ()
def qG (v : lN) : Bool := (jZ v some).isSome
def ER (v : lN) : aP (Ex × St) := .br (qG v) (.done (xV v (O1 v))) .no
theorem MX : aK Tryz.prog (aw (pb 4 7) (ae Tryz.f118)) Ae zm ER := bA (by kernel_rfl) (sx := yK) (gx := zA) vu.ok aj (by kernel_rfl) 8 fun v => Eq.trans (b := List.replicate 8 (jZ v (sm (xV v)))) (by kernel_rfl) (congrArg (List.replicate 8) (al (show jZ v (sm (xV v)) = (jZ v some).bind _ from (bC (bC rfl rfl) rfl))))
@[reducible] def Av : List SP := .one (.ptr 4294967296 0) :: U2 (.one (.ptr 3 0) :: .one (.ptr 4 0) :: U2 (.one (.ptr 7 0) :: U64 (U16 (U2 ([])))))
@[reducible] def nD : List (Nat × GP) := [(4294967296, .box 222 [.dat af true]), (3, .box 37 [.dat y36 false]), (4, .box 67 [.dat y66 false]), (7, .box 67 [.dat q3 false, .own 4128, .dat aB false]), (4128, .arr 41 y27 false)]
@[reducible] def lV : Type := (Ty.T af) × (Ty.T y36) × (Ty.T y66) × (Ty.T q3) × (Ty.T aB) × (List (Ty.T y27)) × Unit
@[reducible] def nA : List SP := U4 (.one (.ptr 4 0) :: U2 (.one (.ptr 7 0) :: U64 (U16 (U2 ([])))))
@[reducible] def nT : List (Nat × GP) := [(4, .box 67 [.dat y66 false]), (7, .box 67 [.dat q3 false, .own 4128, .dat aB false]), (4294967296, .box 222 [.dat af true]), (4128, .arr 41 y27 false)]
def vd (v : lV) (r : Unit) : Ex × St := (.normal, ax nA nT (v.2.2.1, v.2.2.2.1, v.2.2.2.2.1, (fY v.2.1 v.1).2, v.2.2.2.2.2.1 ++ [(fY v.2.1 v.1).1], ()))
def jF (v : lV) {Z : Type} (κ : Unit -> Option Z) : Option Z := cond (yp v.2.1 v.1) (if (v.2.2.2.2.2.1 ++ [(fY v.2.1 v.1).1] : List (Ty.T y27)).length * 56 <= 140737488351232 then (κ ()) else none) (none)
def M4 (v : lV) : Unit := (jF v some).getD ()
def qw (v : lV) : Bool := (jF v some).isSome
def Es (v : lV) : aP (Ex × St) := .br (qw v) (.done (vd v (M4 v))) .no
theorem N6 : aK Tryz.prog (aw [true, true, true, true, true, true, true, true, false] (aw (pb 9 447) (ae Tryz.f118))) Av nD Es := bA (by kernel_rfl) (sx := nA) (gx := nT) vu.ok aj (by kernel_rfl) 2 fun v => Eq.trans (b := List.replicate 2 (jF v (sm (vd v)))) (by kernel_rfl) (congrArg (List.replicate 2) (al (show jF v (sm (vd v)) = (jF v some).bind _ from (bC (bI rfl) rfl))))
@[reducible] def y3 : List SP := .one (.ptr 4294967296 0) :: U2 (.one (.ptr 3 0) :: .one (.ptr 4 0) :: U2 (.one (.ptr 7 0) :: U32 (U4 (oI :: .one (.dat .bool true) :: U32 (U8 (U4 ([])))))))
@[reducible] def jC : Type := Int × Bool × (Ty.T af) × (Ty.T y36) × (Ty.T y66) × (Ty.T q3) × (Ty.T aB) × (List (Ty.T y27)) × Unit
def xy (v : jC) (r : (Ty.T q3) × (Ty.T aB) × (Ty.T af) × (List (Ty.T y27))) : Ex × St := (.normal, ax nA nT (v.2.2.2.2.1, r.1, r.2.1, r.2.2.1, r.2.2.2, ()))
def fU (v : jC) {Z : Type} (κ : (Ty.T q3) × (Ty.T aB) × (Ty.T af) × (List (Ty.T y27)) -> Option Z) : Option Z := cond v.2.1 (cond (bm [0, 99, 100] v.2.2.1) (κ (((ah [0, 99, 100] v.2.2.1).1, v.2.2.2.2.2.1.2), v.2.2.2.2.2.2.1, (ah [0, 99, 100] v.2.2.1).2, v.2.2.2.2.2.2.2.1)) (none)) (cond (v.1 == (1 : Int)) (cond (bm [(-1), 3] v.2.2.1) (κ ((v.2.2.2.2.2.1.1, (ah [(-1), 3] v.2.2.1).1, v.2.2.2.2.2.1.2.2), v.2.2.2.2.2.2.1, (ah [(-1), 3] v.2.2.1).2, v.2.2.2.2.2.2.2.1)) (none)) (cond (v.1 == (2 : Int)) (κ ((v.2.2.2.2.2.1.1, v.2.2.2.2.2.1.2.1, v.2.2.2.2.2.1.2.2.2.1, v.2.2.2.2.2.1.2.2.2), v.2.2.2.2.2.2.1, v.2.2.1, v.2.2.2.2.2.2.2.1)) (cond (v.1 == (3 : Int)) (cond (bm [0, 5, 6] v.2.2.1) (κ ((v.2.2.2.2.2.1.1, v.2.2.2.2.2.1.2.1, v.2.2.2.2.2.1.2.2.1, (ah [0, 5, 6] v.2.2.1).1, v.2.2.2.2.2.1.2.2.2.2), v.2.2.2.2.2.2.1, (ah [0, 5, 6] v.2.2.1).2, v.2.2.2.2.2.2.2.1)) (none)) (cond (v.1 == (4 : Int)) (cond (qw (v.2.2.1, v.2.2.2.1, v.2.2.2.2.1, v.2.2.2.2.2.1, v.2.2.2.2.2.2.1, v.2.2.2.2.2.2.2.1, ())) (κ (v.2.2.2.2.2.1, v.2.2.2.2.2.2.1, (fY v.2.2.2.1 v.2.2.1).2, v.2.2.2.2.2.2.2.1 ++ [(fY v.2.2.2.1 v.2.2.1).1])) (none)) (cond (v.1 == (5 : Int)) (cond (mN v.2.2.1) (κ (v.2.2.2.2.2.1, ((e4 v.2.2.1).1, v.2.2.2.2.2.2.1.2), (e4 v.2.2.1).2, v.2.2.2.2.2.2.2.1)) (none)) (cond (v.1 == (6 : Int)) (cond (bm [(-1), 4, 5] v.2.2.1) (κ (v.2.2.2.2.2.1, (v.2.2.2.2.2.2.1.1, (ah [(-1), 4, 5] v.2.2.1).1), (ah [(-1), 4, 5] v.2.2.1).2, v.2.2.2.2.2.2.2.1)) (none)) (κ (v.2.2.2.2.2.1, v.2.2.2.2.2.2.1, v.2.2.1, v.2.2.2.2.2.2.2.1))))))))
def Fa (v : jC) : (Ty.T q3) × (Ty.T aB) × (Ty.T af) × (List (Ty.T y27)) := (fU v some).getD ((Ty.zero q3), (Ty.zero aB), (Ty.zero af), [])
def wk (v : jC) : Bool := (fU v some).isSome
def FY (v : jC) : aP (Ex × St) := .br (wk v) (.done (xy v (Fa v))) .no
theorem OL : aK Tryz.prog (aw (pb 9 447) (ae Tryz.f118)) y3 nD FY := aA (lt := (aD [true, true, true, true, true, true, true, true, false] (aw (pb 9 447) (ae Tryz.f118)) .none (.sum Av nD Es))) (sx := nA) (gx := nT) vu.ok aj (ag.bP (az (by kernel_rfl)) (ag.no _) N6) fun v => Eq.trans (b := fU v (sm (xy v))) (by kernel_rfl) (al (show fU v (sm (xy v)) = (fU v some).bind _ from by unfold fU; simp only [bb]))
def Ql := vu.l (g := 118) (t := (aD (pb 9 447) (ae Tryz.f118) (aD (pb 4 7) (ae Tryz.f118) (aD [true, false] (ae Tryz.f118) .none (.sum zp zO EH)) (.sum Ae zm ER)) (.sum y3 nD FY))) (aZ Tryz.func118 (ag.bP (az (by kernel_rfl)) (ag.bP (az (by kernel_rfl)) (ag.bP (az (by kernel_rfl)) (ag.no _) LF) MX) OL))
def ai (a0 : Ty.T y36) (a1 : Ty.T af) := (kF a0 (IntKind.wrap .i64 ((1 : Int) + (aa 5 a1).1)) (aa 5 a1).2)
def bu (a0 : Ty.T y36) (a1 : Ty.T af) := (B4 a0 [((ai a0 a1).1.1, (ai a0 a1).1.2.1, (ai a0 a1).1.2.2.1, (ai a0 a1).1.2.2.2.1, (ai a0 a1).1.2.2.2.2.1, (ai a0 a1).1.2.2.2.2.2.1, ((ai a0 a1).1.2.2.2.2.2.2.1, (ai a0 a1).1.2.2.2.2.2.2.2.1, (ai a0 a1).1.2.2.2.2.2.2.2.2.1, (ai a0 a1).1.2.2.2.2.2.2.2.2.2.1, (ai a0 a1).1.2.2.2.2.2.2.2.2.2.2.1, (ai a0 a1).1.2.2.2.2.2.2.2.2.2.2.2, (ai a0 a1).2.2.2), (ai a0 a1).2.1)] (ai a0 a1).2.2.1)
def cO (a0 : Ty.T y36) (a1 : Ty.T af) := (aa (IntKind.wrap .i64 ((1 : Int) + (aa 3 (bu a0 a1).2).1)) (aa 3 (bu a0 a1).2).2)
def dF (a0 : Ty.T y36) (a1 : Ty.T af) := (vk ((ai a0 a1).1.1, (ai a0 a1).1.2.1, (ai a0 a1).1.2.2.1, (ai a0 a1).1.2.2.2.1, (ai a0 a1).1.2.2.2.2.1, (ai a0 a1).1.2.2.2.2.2.1, ((ai a0 a1).1.2.2.2.2.2.2.1, (ai a0 a1).1.2.2.2.2.2.2.2.1, (ai a0 a1).1.2.2.2.2.2.2.2.2.1, (ai a0 a1).1.2.2.2.2.2.2.2.2.2.1, (ai a0 a1).1.2.2.2.2.2.2.2.2.2.2.1, (ai a0 a1).1.2.2.2.2.2.2.2.2.2.2.2, (ai a0 a1).2.2.2), (ai a0 a1).2.1) (bu a0 a1).1)
def dR (a0 : Ty.T y36) (a1 : Ty.T af) := (Fa ((aa 14 (cO a0 a1).2).1, ((aa 14 (cO a0 a1).2).1 == (0 : Int)), (aa 14 (cO a0 a1).2).2, a0, (0, 0, 0, 0, (0, 0, 0, 0, 0, 0, false), [], 0, 0), ((ai a0 a1).1.1, (tY a0 (bu a0 a1).1), (cO a0 a1).1, IntKind.wrap .i64 ((1 : Int) + (aa 3 (bu a0 a1).2).1), (bu a0 a1).1), ((dF a0 a1).1, 0), (dF a0 a1).2.2.2.1, ()))
def mB (a0 : Ty.T y36) (a1 : Ty.T af) {Z : Type} (κ : (Ty.T q3) × (Ty.T aB) × (Ty.T af) × (List (Ty.T y27)) -> Option Z) : Option Z := cond (p6 (a1, a0, (0, 0, 0, 0, (0, 0, 0, 0, 0, 0, false), [], 0, 0), ())) (cond (H3 a0 [((ai a0 a1).1.1, (ai a0 a1).1.2.1, (ai a0 a1).1.2.2.1, (ai a0 a1).1.2.2.2.1, (ai a0 a1).1.2.2.2.2.1, (ai a0 a1).1.2.2.2.2.2.1, ((ai a0 a1).1.2.2.2.2.2.2.1, (ai a0 a1).1.2.2.2.2.2.2.2.1, (ai a0 a1).1.2.2.2.2.2.2.2.2.1, (ai a0 a1).1.2.2.2.2.2.2.2.2.2.1, (ai a0 a1).1.2.2.2.2.2.2.2.2.2.2.1, (ai a0 a1).1.2.2.2.2.2.2.2.2.2.2.2, (ai a0 a1).2.2.2), (ai a0 a1).2.1)] (ai a0 a1).2.2.1) (cond (qG ((bu a0 a1).2, a0, (0, 0, 0, 0, (0, 0, 0, 0, 0, 0, false), [], 0, 0), ((ai a0 a1).1.1, (ai a0 a1).1.2.1, (ai a0 a1).1.2.2.1, (ai a0 a1).1.2.2.2.1, (ai a0 a1).1.2.2.2.2.1, (ai a0 a1).1.2.2.2.2.2.1, ((ai a0 a1).1.2.2.2.2.2.2.1, (ai a0 a1).1.2.2.2.2.2.2.2.1, (ai a0 a1).1.2.2.2.2.2.2.2.2.1, (ai a0 a1).1.2.2.2.2.2.2.2.2.2.1, (ai a0 a1).1.2.2.2.2.2.2.2.2.2.2.1, (ai a0 a1).1.2.2.2.2.2.2.2.2.2.2.2, (ai a0 a1).2.2.2), (ai a0 a1).2.1), (bu a0 a1).1, ())) (cond (d214 ((ai a0 a1).1.1, (ai a0 a1).1.2.1, (ai a0 a1).1.2.2.1, (ai a0 a1).1.2.2.2.1, (ai a0 a1).1.2.2.2.2.1, (ai a0 a1).1.2.2.2.2.2.1, ((ai a0 a1).1.2.2.2.2.2.2.1, (ai a0 a1).1.2.2.2.2.2.2.2.1, (ai a0 a1).1.2.2.2.2.2.2.2.2.1, (ai a0 a1).1.2.2.2.2.2.2.2.2.2.1, (ai a0 a1).1.2.2.2.2.2.2.2.2.2.2.1, (ai a0 a1).1.2.2.2.2.2.2.2.2.2.2.2, (ai a0 a1).2.2.2), (ai a0 a1).2.1) (bu a0 a1).1) (cond (bn (IntKind.wrap .i64 ((1 : Int) + (aa 3 (bu a0 a1).2).1)) (aa 3 (bu a0 a1).2).2) (cond (bn 14 (cO a0 a1).2) (cond (wk ((aa 14 (cO a0 a1).2).1, ((aa 14 (cO a0 a1).2).1 == (0 : Int)), (aa 14 (cO a0 a1).2).2, a0, (0, 0, 0, 0, (0, 0, 0, 0, 0, 0, false), [], 0, 0), ((ai a0 a1).1.1, (tY a0 (bu a0 a1).1), (cO a0 a1).1, IntKind.wrap .i64 ((1 : Int) + (aa 3 (bu a0 a1).2).1), (bu a0 a1).1), ((dF a0 a1).1, 0), (dF a0 a1).2.2.2.1, ())) (κ ((dR a0 a1).1, (dR a0 a1).2.1, (dR a0 a1).2.2.1, (dR a0 a1).2.2.2)) (none)) (none)) (none)) (none)) (none)) (none)) (none)
def eX (a0 : Ty.T y36) (a1 : Ty.T af) : (Ty.T q3) × (Ty.T aB) × (Ty.T af) × (List (Ty.T y27)) := (mB a0 a1 some).getD ((Ty.zero q3), (Ty.zero aB), (Ty.zero af), [])
def GG (a0 : Ty.T y36) (a1 : Ty.T af) : Bool := (mB a0 a1 some).isSome
def UN : Gen := ⟨[false, false], [.one (.ptr 4294967296 0), .agg [.dat y36 false]], [(4294967296, .box 222 [.dat af true])], fun v => .br (GG v.1 v.2.1) (.done (Ih (eX v.1 v.2.1))) .no⟩
theorem Ru : dp Tryz.prog 118 UN := b9 Ql.ok aj (az (by kernel_rfl)) ⟨Tryz.f118, ae Tryz.f118, by kernel_rfl, by kernel_rfl⟩ fun v => Eq.trans (b := (mB v.1 v.2.1 (sm Ih))) (by kernel_rfl) (al (show mB v.1 v.2.1 (sm Ih) = (mB v.1 v.2.1 some).bind _ from by unfold mB; simp only [bb]))
def f30 (r : (Ty.T q3) × (Ty.T aB) × (List (Ty.T y27))) : AV × Sig := (.agg ((q3.cells false r.1) ++ [.sl 49152] ++ (aB.cells false r.2.1)), [(49152, .arr 41 y27 r.2.2 false)])
def E30 := (((E0.g Ru).g JB).p Ju)
def t30 (a0 : List (Ty.T (.int .u8))) {Z : Type} (κ : (Ty.T q3) × (Ty.T aB) × (List (Ty.T y27)) -> Option Z) : Option Z := cond (d116 a0) (cond (Cv (b8 a0)) (cond (GG ((bf (b8 a0)).2.2.1, (bf (b8 a0)).2.2.2, (bf (b8 a0)).1) (bf (b8 a0)).2.1) (κ ((eX ((bf (b8 a0)).2.2.1, (bf (b8 a0)).2.2.2, (bf (b8 a0)).1) (bf (b8 a0)).2.1).1, (eX ((bf (b8 a0)).2.2.1, (bf (b8 a0)).2.2.2, (bf (b8 a0)).1) (bf (b8 a0)).2.1).2.1, (eX ((bf (b8 a0)).2.2.1, (bf (b8 a0)).2.2.2, (bf (b8 a0)).1) (bf (b8 a0)).2.1).2.2.2)) (none)) (none)) (none)
def v30 (a0 : List (Ty.T (.int .u8))) : (Ty.T q3) × (Ty.T aB) × (List (Ty.T y27)) := (t30 a0 some).getD ((Ty.zero q3), (Ty.zero aB), [])
def d30 (a0 : List (Ty.T (.int .u8))) : Bool := (t30 a0 some).isSome
def p30 : Prim := ⟨[.one (.dat (.sl 5 (.int .u8)) true)], fun v => .br (d30 v.1) (.done (f30 (v30 v.1))) .no⟩
theorem ab5 : PO 30 p30 := pK E30 fun v => Eq.trans (b := (t30 v.1 (sm f30))) (by kernel_rfl) (al (show t30 v.1 (sm f30) = (t30 v.1 some).bind _ from (bC (bC (bC rfl rfl) rfl) rfl)))
def Ip (r : (Ty.T af) × (List (Ty.T y27))) : AV × Sig := (.one (.sl 33554432), [(4294967296, .box 222 ((af.cells true r.1))), (33554432, .arr 41 y27 r.2 false)])
def OJ := ((((E0.g dw).g fF).g Di).g ue)
@[reducible] def rX : List SP := .one (.ptr 4294967296 0) :: U2 (.one (.ptr 3 0) :: .one (.dat (.sl 41 y27) false) :: .one (.own 7) :: oI :: U16 (U4 (U2 ([]))))
@[reducible] def qN : List (Nat × GP) := [(4294967296, .box 222 [.dat af true]), (3, .box 37 [.dat y36 false]), (7, .arr 41 y27 false)]
@[reducible] def iP : Type := (List (Ty.T y27)) × Int × (Ty.T af) × (Ty.T y36) × (List (Ty.T y27)) × Unit
def l9 (v : iP) {Z : Type} (κ : Nat × iP -> Option Z) : Option Z := cond (decide (v.2.1 > (0 : Int))) (cond (o8 v.2.2.2.1 v.2.2.1) (if (v.2.2.2.2.1 ++ [(ar v.2.2.2.1 v.2.2.1).1] : List (Ty.T y27)).length * 56 <= 140737488351232 then (κ (0, (v.1, IntKind.wrap .i64 (v.2.1 - (1 : Int)), (ar v.2.2.2.1 v.2.2.1).2, v.2.2.2.1, v.2.2.2.2.1 ++ [(ar v.2.2.2.1 v.2.2.1).1], ()))) else none) (none)) (κ (1, (v.1, v.2.1, v.2.2.1, v.2.2.2.1, v.2.2.2.2.1, ())))
def mG (v : iP) : Option (Nat × iP) := l9 v some
def m3 (v : iP) : Nat := v.1.length + v.2.1.toNat + v.2.2.1.1.length + v.2.2.2.1.1.length + v.2.2.2.1.2.1.length + v.2.2.2.2.1.length + 100
def Dy (h0 : List (Ty.T y27)) (h1 : Int) (h2 : Ty.T af) (h3 : Ty.T y36) (h4 : List (Ty.T y27)) (c : Nat) : Bool := iK mG m3 (h0, h1, h2, h3, h4, ()) c
def cn (h0 : List (Ty.T y27)) (h1 : Int) (h2 : Ty.T af) (h3 : Ty.T y36) (h4 : List (Ty.T y27)) : iP := iW mG m3 (h0, h1, h2, h3, h4, ())
def DX (v : iP) : aP (Ex × St) := bz mG (m3 v) v (ax rX qN) [.exit 0] 0
theorem M5 : bw Tryz.prog (aO (pb 4 11) (ae Tryz.f217)) rX qN DX := aE (lt := .none) OJ.ok aj (ag.no _) fun n v K => Eq.trans (b := l9 v (dt _ _ _ _ _ K)) (by kernel_rfl) (show l9 v _ = (l9 v some).bind _ from (bC (bC (bI rfl) rfl) rfl))
def Qt := OJ.l (g := 217) (t := (cD (pb 4 11) (ae Tryz.f217) .none (.sum rX qN DX))) (aZ Tryz.func217 (ag.put (az (by kernel_rfl)) (ag.no _) M5))
def lT (a0 : Ty.T y36) (a1 : Ty.T af) {Z : Type} (κ : (Ty.T af) × (List (Ty.T y27)) -> Option Z) : Option Z := cond (bn 6 a1) (cond (Dy [] (aa 6 a1).1 (aa 6 a1).2 a0 [] 0) (cond (cE 10 (cn [] (aa 6 a1).1 (aa 6 a1).2 a0 []).2.2.1) (cond (an 10 (cn [] (aa 6 a1).1 (aa 6 a1).2 a0 []).2.2.1).1 (cond (yp (cn [] (aa 6 a1).1 (aa 6 a1).2 a0 []).2.2.2.1 (an 10 (cn [] (aa 6 a1).1 (aa 6 a1).2 a0 []).2.2.1).2) (if ((cn [] (aa 6 a1).1 (aa 6 a1).2 a0 []).2.2.2.2.1 ++ [(fY (cn [] (aa 6 a1).1 (aa 6 a1).2 a0 []).2.2.2.1 (an 10 (cn [] (aa 6 a1).1 (aa 6 a1).2 a0 []).2.2.1).2).1] : List (Ty.T y27)).length * 56 <= 140737488351232 then (κ ((fY (cn [] (aa 6 a1).1 (aa 6 a1).2 a0 []).2.2.2.1 (an 10 (cn [] (aa 6 a1).1 (aa 6 a1).2 a0 []).2.2.1).2).2, (cn [] (aa 6 a1).1 (aa 6 a1).2 a0 []).2.2.2.2.1 ++ [(fY (cn [] (aa 6 a1).1 (aa 6 a1).2 a0 []).2.2.2.1 (an 10 (cn [] (aa 6 a1).1 (aa 6 a1).2 a0 []).2.2.1).2).1])) else none) (none)) (κ ((an 10 (cn [] (aa 6 a1).1 (aa 6 a1).2 a0 []).2.2.1).2, (cn [] (aa 6 a1).1 (aa 6 a1).2 a0 []).2.2.2.2.1))) (none)) (none)) (none)
def nk (a0 : Ty.T y36) (a1 : Ty.T af) : (Ty.T af) × (List (Ty.T y27)) := (lT a0 a1 some).getD ((Ty.zero af), [])
def Gu (a0 : Ty.T y36) (a1 : Ty.T af) : Bool := (lT a0 a1 some).isSome
def UI : Gen := ⟨[false, false], [.one (.ptr 4294967296 0), .agg [.dat y36 false]], [(4294967296, .box 222 [.dat af true])], fun v => .br (Gu v.1 v.2.1) (.done (Ip (nk v.1 v.2.1))) .no⟩
theorem Qb : dp Tryz.prog 217 UI := b9 Qt.ok aj (az (by kernel_rfl)) ⟨Tryz.f217, ae Tryz.f217, by kernel_rfl, by kernel_rfl⟩ fun v => Eq.trans (b := (lT v.1 v.2.1 (sm Ip))) (by kernel_rfl) (al (show lT v.1 v.2.1 (sm Ip) = (lT v.1 v.2.1 some).bind _ from by unfold lT; simp only [bb]))
def f240 (r : Bool) : AV × Sig := (.one (.bool r), [])
def acY := (E0.p lr)
def t240 (a0 : Ty.T y63) {Z : Type} (κ : Bool -> Z) : Z := cond (!(bt a0.1 1 99)) (κ false) (cond (!(bt a0.2.1 0 2)) (κ false) (cond (!(bt a0.2.2.1 0 2)) (κ false) (cond (!(bt a0.2.2.2.1 1 4)) (κ false) (cond (!(bt a0.2.2.2.2.1 0 9999)) (κ false) (cond (!(bt a0.2.2.2.2.2.1 0 999)) (κ false) (cond (!(bt a0.2.2.2.2.2.2.1 0 999)) (κ false) (cond (!(bt a0.2.2.2.2.2.2.2.1 0 63)) (κ false) (cond (!(bt a0.2.2.2.2.2.2.2.2.1 0 2147483647)) (κ false) (cond (!(bt a0.2.2.2.2.2.2.2.2.2.1 0 2147483647)) (κ false) (cond (!(bt a0.2.2.2.2.2.2.2.2.2.2.1 0 2147483647)) (κ false) (cond (a0.2.2.2.1 == (2 : Int)) (κ true) (cond (a0.2.2.1 == a0.2.1) (cond (a0.2.2.2.2.2.2.2.2.1 == (0 : Int)) (cond (a0.2.2.2.2.2.2.2.2.2.1 == (0 : Int)) (cond (a0.2.2.2.2.2.2.2.2.2.2.1 == (0 : Int)) (cond (!a0.2.2.2.2.2.2.2.2.2.2.2.1) (κ (!a0.2.2.2.2.2.2.2.2.2.2.2.2)) (κ false)) (κ false)) (κ false)) (κ false)) (κ false)))))))))))))
def DU (a0 : Ty.T y63) : Bool := t240 a0 fun r => r
def adK : Prim := ⟨[.agg [.dat y63 true]], fun v => .done (f240 (DU v.1))⟩
theorem Z2 : PO 240 adK := pK acY fun v => Eq.trans (b := (t240 v.1 (sm f240))) (by kernel_rfl) (show t240 v.1 (sm f240) = some (f240 (t240 v.1 fun r => r)) from (tC rfl (tC rfl (tC rfl (tC rfl (tC rfl (tC rfl (tC rfl (tC rfl (tC rfl (tC rfl (tC rfl (tC rfl (tC (tC (tC (tC (tC rfl rfl) rfl) rfl) rfl) rfl))))))))))))))
def f241 (r : Bool) : AV × Sig := (.one (.bool r), [])
def acx := (E0.p lr)
def Yr (a0 : Ty.T aM) : Option (AV × Sig) := cond (bt a0.1 (-2147483647) 2147483647) (some (.one (.bool (bt a0.2.1 0 2147483647)), [])) (some (.one (.bool false), []))
def kA (a0 : Ty.T aM) : Bool := cond (bt a0.1 (-2147483647) 2147483647) ((bt a0.2.1 0 2147483647)) (false)
theorem ade (a0 : Ty.T aM) : Yr a0 = some (f241 (kA a0)) := (tC rfl rfl)
def ac8 : Prim := ⟨[.agg [.dat aM true]], fun v => .done (f241 (kA v.1))⟩
theorem Wc : PO 241 ac8 := pK acx fun v => Eq.trans (b := Yr v.1) (by kernel_rfl) (ade v.1)
def f155 (r : Bool) : AV × Sig := (.one (.bool r), [])
def UQ := (((E0.p lr).p Z2).p Wc)
@[reducible] def Cw : List SP := .und :: .one (.ptr 1 0) :: .one (.dat .bool true) :: oI :: U64 (U32 (.und :: []))
@[reducible] def eN : Type := Bool × Int × (Ty.T y36) × Unit
def mX (v : eN) {Z : Type} (κ : Nat × eN -> Option Z) : Option Z := cond (decide (v.2.1 < ((v.2.2.1.1).length : Int))) (if 0 <= v.2.1 then (bc ((v.2.2.1.1)[(v.2.1).toNat]?) (fun x1 => cond (!(DU x1)) (κ (1, (false, v.2.1, v.2.2.1, ()))) (cond (decide (v.2.1 > (0 : Int))) (if 0 <= (IntKind.wrap .i64 (v.2.1 - (1 : Int))) then (bc ((v.2.2.1.1)[(IntKind.wrap .i64 (v.2.1 - (1 : Int))).toNat]?) (fun x2 => cond (decide (x2.1 ≥ x1.1)) (κ (1, (false, v.2.1, v.2.2.1, ()))) (cond (decide (x1.2.1 ≥ ((v.2.2.1.2.1).length : Int))) (κ (1, (false, v.2.1, v.2.2.1, ()))) (cond (decide (x1.2.2.1 ≥ ((v.2.2.1.2.1).length : Int))) (κ (1, (false, v.2.1, v.2.2.1, ()))) (cond (decide (x1.2.2.2.2.1 > v.2.2.1.2.2.2)) (κ (1, (false, v.2.1, v.2.2.1, ()))) (κ (0, (v.1, IntKind.wrap .i64 (v.2.1 + (1 : Int)), v.2.2.1, ())))))))) else none) (cond (decide (x1.2.1 ≥ ((v.2.2.1.2.1).length : Int))) (κ (1, (false, v.2.1, v.2.2.1, ()))) (cond (decide (x1.2.2.1 ≥ ((v.2.2.1.2.1).length : Int))) (κ (1, (false, v.2.1, v.2.2.1, ()))) (cond (decide (x1.2.2.2.2.1 > v.2.2.1.2.2.2)) (κ (1, (false, v.2.1, v.2.2.1, ()))) (κ (0, (v.1, IntKind.wrap .i64 (v.2.1 + (1 : Int)), v.2.2.1, ()))))))))) else none) (κ (2, (v.1, v.2.1, v.2.2.1, ())))
def jr (v : eN) : Option (Nat × eN) := mX v some
def rV (v : eN) : Nat := v.2.1.toNat + v.2.2.1.1.length + v.2.2.1.2.1.length + 100
def xO (h0 : Bool) (h1 : Int) (h2 : Ty.T y36) (c : Nat) : Bool := iK jr rV (h0, h1, h2, ()) c
def kx (h0 : Bool) (h1 : Int) (h2 : Ty.T y36) : eN := iW jr rV (h0, h1, h2, ())
def Pq (v : eN) : aP (Ex × St) := bz jr (rV v) v (ax Cw ln) [.ret, .exit 0] 0
theorem UZ : bw Tryz.prog (aO (pb 4 11) (ae Tryz.f155)) Cw ln Pq := aE (lt := .none) UQ.ok aj (ag.no _) fun n v K => Eq.trans (b := mX v (dt _ _ _ _ _ K)) (by kernel_rfl) (show mX v _ = (mX v some).bind _ from (bC (bI (bO fun x1 => (bC rfl (bC (bI (bO fun x2 => (bC rfl (bC rfl (bC rfl (bC rfl rfl)))))) (bC rfl (bC rfl (bC rfl rfl))))))) rfl))
@[reducible] def Cx : List SP := .und :: .one (.ptr 1 0) :: .one (.dat .bool true) :: U2 (oI :: U64 (U16 (U8 (U4 (U2 (.und :: []))))))
def ta (v : eN) {Z : Type} (κ : Nat × eN -> Option Z) : Option Z := cond (decide (v.2.1 < ((v.2.2.1.2.1).length : Int))) (if 0 <= v.2.1 then (bc ((v.2.2.1.2.1)[(v.2.1).toNat]?) (fun x3 => cond (!(kA x3)) (κ (1, (false, v.2.1, v.2.2.1, ()))) (κ (0, (v.1, IntKind.wrap .i64 (v.2.1 + (1 : Int)), v.2.2.1, ()))))) else none) (κ (2, (v.1, v.2.1, v.2.2.1, ())))
def sW (v : eN) : Option (Nat × eN) := ta v some
def yo (v : eN) : Nat := v.2.1.toNat + v.2.2.1.1.length + v.2.2.1.2.1.length + 100
def wG (h0 : Bool) (h1 : Int) (h2 : Ty.T y36) (c : Nat) : Bool := iK sW yo (h0, h1, h2, ()) c
def Hf (h0 : Bool) (h1 : Int) (h2 : Ty.T y36) : eN := iW sW yo (h0, h1, h2, ())
def Mc (v : eN) : aP (Ex × St) := bz sW (yo v) v (ax Cx ln) [.ret, .exit 2] 0
theorem TY : bw Tryz.prog (aO (pb 5 23) (ae Tryz.f155)) Cx ln Mc := aE (lt := .none) UQ.ok aj (ag.no _) fun n v K => Eq.trans (b := ta v (dt _ _ _ _ _ K)) (by kernel_rfl) (show ta v _ = (ta v some).bind _ from (bC (bI (bO fun x3 => (bC rfl rfl))) rfl))
def XX := UQ.l (g := 155) (t := (cD (pb 5 23) (ae Tryz.f155) (cD (pb 4 11) (ae Tryz.f155) .none (.sum Cw ln Pq)) (.sum Cx ln Mc))) (aZ Tryz.func155 (ag.put (az (by kernel_rfl)) (ag.put (az (by kernel_rfl)) (ag.no _) UZ) TY))
def t155 (a0 : Ty.T y36) {Z : Type} (κ : Bool -> Option Z) : Option Z := cond (decide (((a0.1).length : Int) > (8 : Int))) (κ false) (cond (!(bt ((a0.2.1).length : Int) 2 3)) (κ false) (cond (!(bt a0.2.2.1 0 (IntKind.wrap .i64 (((a0.2.1).length : Int) - (1 : Int))))) (κ false) (cond (!(bt a0.2.2.2 0 9999)) (κ false) (cond (xO false 0 a0 0) (κ (kx false 0 a0).1) (cond (xO false 0 a0 1) (cond (wG (kx false 0 a0).1 0 (kx false 0 a0).2.2.1 0) (κ (Hf (kx false 0 a0).1 0 (kx false 0 a0).2.2.1).1) (cond (wG (kx false 0 a0).1 0 (kx false 0 a0).2.2.1 1) (κ true) (none))) (none))))))
def vF (a0 : Ty.T y36) : Bool := (t155 a0 some).getD false
def d155 (a0 : Ty.T y36) : Bool := (t155 a0 some).isSome
def aa0 : Prim := ⟨[.agg [.dat y36 true]], fun v => .br (d155 v.1) (.done (f155 (vF v.1))) .no⟩
theorem JU : PO 155 aa0 := pK XX fun v => Eq.trans (b := (t155 v.1 (sm f155))) (by kernel_rfl) (al (show t155 v.1 (sm f155) = (t155 v.1 some).bind _ from by unfold t155; simp only [bb]))
def f276 (r : (Ty.T aB) × (List (Ty.T y63)) × (List (Ty.T aM))) : AV × Sig := (.agg ([.sl 4096] ++ [.sl 8192] ++ (aB.cells false r.1)), [(4096, .arr 64 y63 r.2.1 false), (8192, .arr 191 aM r.2.2 false)])
def abB := E0
def WK (a0 : Ty.T y36) : Option (AV × Sig) := if ([] ++ a0.1 : List (Ty.T y63)).length * 96 <= 140737488351232 then (if ([] ++ a0.2.1 : List (Ty.T aM)).length * 24 <= 140737488351232 then (some (.agg [.sl 4096, .sl 8192, .int .i64 a0.2.2.1, .int .i64 a0.2.2.2], [(4096, .arr 64 y63 ([] ++ a0.1) false), (8192, .arr 191 aM ([] ++ a0.2.1) false)])) else none) else none
def aS (a0 : Ty.T y36) : (Ty.T aB) × (List (Ty.T y63)) × (List (Ty.T aM)) := (a0.2.2, [] ++ a0.1, [] ++ a0.2.1)
def d276 (a0 : Ty.T y36) : Bool := decide (([] ++ a0.1 : List (Ty.T y63)).length * 96 <= 140737488351232) && (decide (([] ++ a0.2.1 : List (Ty.T aM)).length * 24 <= 140737488351232) && (true))
theorem afm (a0 : Ty.T y36) : WK a0 = cond (d276 a0) (some (f276 (aS a0))) none := (pI (pI (pS _)))
def acN : Prim := ⟨[.agg [.dat y36 true]], fun v => .br (d276 v.1) (.done (f276 (aS v.1))) .no⟩
theorem Jc : PO 276 acN := pK abB fun v => Eq.trans (b := WK v.1) (by kernel_rfl) (afm v.1)
def f337 (r : Bool) : AV × Sig := (.one (.bool r), [])
def aal := E0
def QR (a0 : Ty.T y63) (a1 : Int) {Z : Type} (κ : Bool -> Z) : Z := cond (a1 == (1 : Int)) (κ ((IntKind.wrap .i64 ((BitVec.ofInt (IntKind.bits .i64) a0.2.2.2.2.2.2.2.1 &&& BitVec.ofInt (IntKind.bits .i64) a1).toNat : Int)) != (0 : Int))) (cond (a1 == (2 : Int)) (κ ((IntKind.wrap .i64 ((BitVec.ofInt (IntKind.bits .i64) a0.2.2.2.2.2.2.2.1 &&& BitVec.ofInt (IntKind.bits .i64) a1).toNat : Int)) != (0 : Int))) (cond (a1 == (4 : Int)) (κ ((IntKind.wrap .i64 ((BitVec.ofInt (IntKind.bits .i64) a0.2.2.2.2.2.2.2.1 &&& BitVec.ofInt (IntKind.bits .i64) a1).toNat : Int)) != (0 : Int))) (cond (a1 == (8 : Int)) (κ ((IntKind.wrap .i64 ((BitVec.ofInt (IntKind.bits .i64) a0.2.2.2.2.2.2.2.1 &&& BitVec.ofInt (IntKind.bits .i64) a1).toNat : Int)) != (0 : Int))) (cond (a1 == (16 : Int)) (κ ((IntKind.wrap .i64 ((BitVec.ofInt (IntKind.bits .i64) a0.2.2.2.2.2.2.2.1 &&& BitVec.ofInt (IntKind.bits .i64) a1).toNat : Int)) != (0 : Int))) (cond (a1 == (32 : Int)) (κ ((IntKind.wrap .i64 ((BitVec.ofInt (IntKind.bits .i64) a0.2.2.2.2.2.2.2.1 &&& BitVec.ofInt (IntKind.bits .i64) a1).toNat : Int)) != (0 : Int))) (κ false))))))
def lB (a0 : Ty.T y63) (a1 : Int) : Bool := QR a0 a1 fun r => r
def af4 : Prim := ⟨[.agg [.dat y63 true], oI], fun v => .done (f337 (lB v.1 v.2.1))⟩
theorem XJ : PO 337 af4 := pK aal fun v => Eq.trans (b := (QR v.1 v.2.1 (sm f337))) (by kernel_rfl) (show QR v.1 v.2.1 (sm f337) = some (f337 (QR v.1 v.2.1 fun r => r)) from (tC rfl (tC rfl (tC rfl (tC rfl (tC rfl (tC rfl rfl)))))))
end
end Go.Proofs.YtahlaccdpmddbaaGreat.Vm
