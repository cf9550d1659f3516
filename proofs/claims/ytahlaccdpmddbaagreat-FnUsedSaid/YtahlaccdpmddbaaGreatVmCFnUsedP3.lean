/- Contracts. No condition. -/
import Derived.Test.YtahlaccdpmddbaaGreatVmCFnUsedP2
import Derived.Test.YtahlaccdpmddbaaGreatVmLibThree
namespace Go.Proofs.YtahlaccdpmddbaaGreat.Vm
open Go Go.Proofs.YtahlaccdpmddbaaGreat.Lib
noncomputable section
set_option maxRecDepth 100000
set_option linter.unusedVariables false
def f287 (r : Int × (List (Ty.T y27))) : AV × Sig := (.tup [(false, ([.sl 4096])), (false, ([.int .i64 r.1]))], [(4096, .arr 41 y27 r.2 false)])
def ZH := ((((E0.p Hq).p aaq).p ab0).p Zx)
@[reducible] def Ly : List SP := U2 (.und :: .one (.ptr 3 0) :: .one (.dat (.sl 41 y27) false) :: oI :: .one (.ptr 6 0) :: U64 (U16 (U2 ([]))))
@[reducible] def Lr : List (Nat × GP) := [(3, .box 41 [.dat y27 false]), (6, .box 107 [.dat bp true])]
@[reducible] def C3 : Type := (List (Ty.T y27)) × Int × (Ty.T y27) × (Ty.T bp) × Unit
@[reducible] def KX : List SP := U2 (.und :: .one (.ptr 3 0) :: .one (.dat (.sl 41 y27) false) :: oI :: U64 (U16 (U2 (.und :: []))))
@[reducible] def LC : List (Nat × GP) := [(3, .box 41 [.dat y27 false])]
def Ej (v : C3) (r : Unit) : Ex × St := (.normal, aB KX LC (v.1, v.2.1, (v.2.2.1.1, v.2.2.1.2.1, v.2.2.2.1.2.2.1, v.2.2.2.1.2.2.2.1, v.2.2.1.2.2.2.2), ()))
def CE (v : C3) {Z : Type} (κ : Unit -> Z) : Z := κ ()
def Yh (v : C3) : Unit := CE v id
def NU (v : C3) : aR (Ex × St) := .done (Ej v (Yh v))
theorem VP : a7 Tryz.prog (aA (pb 12 2043) (ae Tryz.f287)) Ly Lr NU := bP (by kernel_rfl) (sx := KX) (gx := LC) ZH.ok ai (by kernel_rfl) 2 fun v => Eq.trans (b := List.replicate 2 (CE v (sm (Ej v)))) (by kernel_rfl) (congrArg (List.replicate 2) (show CE v (sm (Ej v)) = some (Ej v (CE v id)) from rfl))
def YU := ZH.l (g := 287) (t := (aM (pb 12 2043) (ae Tryz.f287) .none (.sum Ly Lr NU))) (aP Tryz.func287 (ag.ct (aC (by kernel_rfl)) (ag.no _) VP))
def ej (a0 : Ty.T aa) (a1 : Ty.T y27) := (kP (IntKind.wrap .i64 (a1.2.2.2.2.1 + a0.2.2.2.2.2.2.1.2.1)) 99)
def t287 (a0 : Ty.T aa) (a1 : Ty.T y27) {Z : Type} (κ : Int × (List (Ty.T y27)) -> Option Z) : Option Z := cond (a0.2.2.2.2.2.2.1.1 == (1 : Int)) (cond (a1.1 == (1 : Int)) (κ (a1.2.2.2.2.1, [])) (κ (0, []))) (cond (a0.2.2.2.2.2.2.1.1 == (2 : Int)) (κ ((kP a1.2.2.2.2.1 a0.2.2.2.2.2.2.2.2), [(HQ a1 (IntKind.wrap .i64 (a1.2.2.2.2.1 - (kP a1.2.2.2.2.1 a0.2.2.2.2.2.2.2.2))))])) (cond (a0.2.2.2.2.2.2.1.1 == (3 : Int)) (cond (a0.2.2.2.2.2.2.1.1 == (3 : Int)) (κ (0, [(HQ a1 (Jq a0.2.2.2.2.2.2.1 a1.2.2.2.2.1))])) (cond (a0.2.2.2.2.2.2.1.1 == (6 : Int)) (κ (0, [(a1.1, a1.2.1, a0.2.2.2.2.2.2.1.2.2.1, a0.2.2.2.2.2.2.1.2.2.2.1, a1.2.2.2.2)])) (cond (a0.2.2.2.2.2.2.1.1 == (7 : Int)) (cond (a0.2.2.2.2.2.2.1.2.2.2.2.1 != (2 : Int)) (κ (0, [(a1.1, a1.2.1, a1.2.2.1, a1.2.2.2.1, 0, a0.2.2.2.2.2.2.1.2.2.2.2.1, false)])) (κ (0, [(a1.1, a1.2.1, a1.2.2.1, a1.2.2.2.1, a1.2.2.2.2.1, a0.2.2.2.2.2.2.1.2.2.2.2.1, a1.2.2.2.2.2.2)]))) (cond (a0.2.2.2.2.2.2.1.1 == (8 : Int)) (cond (a1.2.2.2.2.2.1 == (2 : Int)) (cond a1.2.2.2.2.2.2 (κ (0, [(a1.1, a1.2.1, a1.2.2.1, a1.2.2.2.1, (ej a0 a1), a1.2.2.2.2.2.1, true)])) (κ (0, [(a1.1, a1.2.1, a1.2.2.1, a1.2.2.2.1, (ej a0 a1), a1.2.2.2.2.2.1, a0.2.2.2.2.2.2.1.2.2.2.2.2.1)]))) (κ (0, [a1]))) (cond (a0.2.2.2.2.2.2.1.1 == (9 : Int)) (cond (d325 a0.2.2.2.2.2.2.1 a1) (κ (0, (Al a0.2.2.2.2.2.2.1 a1))) (none)) (κ (0, [a1]))))))) (cond (a0.2.2.2.2.2.2.1.1 == (4 : Int)) (cond (a0.2.2.2.2.2.2.1.1 == (4 : Int)) (κ (0, [(HQ a1 (Jq a0.2.2.2.2.2.2.1 a1.2.2.2.2.1))])) (cond (a0.2.2.2.2.2.2.1.1 == (6 : Int)) (κ (0, [(a1.1, a1.2.1, a0.2.2.2.2.2.2.1.2.2.1, a0.2.2.2.2.2.2.1.2.2.2.1, a1.2.2.2.2)])) (cond (a0.2.2.2.2.2.2.1.1 == (7 : Int)) (cond (a0.2.2.2.2.2.2.1.2.2.2.2.1 != (2 : Int)) (κ (0, [(a1.1, a1.2.1, a1.2.2.1, a1.2.2.2.1, 0, a0.2.2.2.2.2.2.1.2.2.2.2.1, false)])) (κ (0, [(a1.1, a1.2.1, a1.2.2.1, a1.2.2.2.1, a1.2.2.2.2.1, a0.2.2.2.2.2.2.1.2.2.2.2.1, a1.2.2.2.2.2.2)]))) (cond (a0.2.2.2.2.2.2.1.1 == (8 : Int)) (cond (a1.2.2.2.2.2.1 == (2 : Int)) (cond a1.2.2.2.2.2.2 (κ (0, [(a1.1, a1.2.1, a1.2.2.1, a1.2.2.2.1, (ej a0 a1), a1.2.2.2.2.2.1, true)])) (κ (0, [(a1.1, a1.2.1, a1.2.2.1, a1.2.2.2.1, (ej a0 a1), a1.2.2.2.2.2.1, a0.2.2.2.2.2.2.1.2.2.2.2.2.1)]))) (κ (0, [a1]))) (cond (a0.2.2.2.2.2.2.1.1 == (9 : Int)) (cond (d325 a0.2.2.2.2.2.2.1 a1) (κ (0, (Al a0.2.2.2.2.2.2.1 a1))) (none)) (κ (0, [a1]))))))) (cond (a0.2.2.2.2.2.2.1.1 == (5 : Int)) (κ (0, [(HQ a1 (Jq a0.2.2.2.2.2.2.1 a1.2.2.2.2.1))])) (cond (a0.2.2.2.2.2.2.1.1 == (6 : Int)) (κ (0, [(a1.1, a1.2.1, a0.2.2.2.2.2.2.1.2.2.1, a0.2.2.2.2.2.2.1.2.2.2.1, a1.2.2.2.2)])) (cond (a0.2.2.2.2.2.2.1.1 == (7 : Int)) (cond (a0.2.2.2.2.2.2.1.2.2.2.2.1 != (2 : Int)) (κ (0, [(a1.1, a1.2.1, a1.2.2.1, a1.2.2.2.1, 0, a0.2.2.2.2.2.2.1.2.2.2.2.1, false)])) (κ (0, [(a1.1, a1.2.1, a1.2.2.1, a1.2.2.2.1, a1.2.2.2.2.1, a0.2.2.2.2.2.2.1.2.2.2.2.1, a1.2.2.2.2.2.2)]))) (cond (a0.2.2.2.2.2.2.1.1 == (8 : Int)) (cond (a1.2.2.2.2.2.1 == (2 : Int)) (cond a1.2.2.2.2.2.2 (κ (0, [(a1.1, a1.2.1, a1.2.2.1, a1.2.2.2.1, (ej a0 a1), a1.2.2.2.2.2.1, true)])) (κ (0, [(a1.1, a1.2.1, a1.2.2.1, a1.2.2.2.1, (ej a0 a1), a1.2.2.2.2.2.1, a0.2.2.2.2.2.2.1.2.2.2.2.2.1)]))) (κ (0, [a1]))) (cond (a0.2.2.2.2.2.2.1.1 == (9 : Int)) (cond (d325 a0.2.2.2.2.2.2.1 a1) (κ (0, (Al a0.2.2.2.2.2.2.1 a1))) (none)) (κ (0, [a1]))))))))))
def eY (a0 : Ty.T aa) (a1 : Ty.T y27) : Int × (List (Ty.T y27)) := (t287 a0 a1 some).getD (0, [])
def d287 (a0 : Ty.T aa) (a1 : Ty.T y27) : Bool := (t287 a0 a1 some).isSome
def aiN : Prim := ⟨[.agg [.dat aa true], .agg [.dat y27 true]], fun v => .br (d287 v.1 v.2.1) (.done (f287 (eY v.1 v.2.1))) .no⟩
theorem acE : PO 287 aiN := pK YU fun v => Eq.trans (b := (t287 v.1 v.2.1 (sm f287))) (by kernel_rfl) (ar (show t287 v.1 v.2.1 (sm f287) = (t287 v.1 v.2.1 some).bind _ from by unfold t287; simp only [bb]))
def f219 (r : Int) : AV × Sig := (.one (.int .i64 r), [])
def agX := (E0.p Bw)
def aao (a0 : Int) (a1 : Int) : Option (AV × Sig) := some (.one (.int .i64 (fD (IntKind.wrap .i64 ((fD a0) - (fD a1))))), [])
def QD (a0 : Int) (a1 : Int) : Int := (fD (IntKind.wrap .i64 ((fD a0) - (fD a1))))
theorem adN (a0 : Int) (a1 : Int) : aao a0 a1 = some (f219 (QD a0 a1)) := rfl
def aea : Prim := ⟨[oI, oI], fun v => .done (f219 (QD v.1 v.2.1))⟩
theorem YP : PO 219 aea := pK agX fun v => Eq.trans (b := aao v.1 v.2.1) (by kernel_rfl) (adN v.1 v.2.1)
def f289 (r : (Ty.T q1) × (Ty.T a9) × (List (Ty.T y27))) : AV × Sig := (.agg ((q1.cells false r.1) ++ [.sl 81920] ++ (a9.cells false r.2.1)), [(81920, .arr 41 y27 r.2.2 false)])
def afR := (((E0.p Hq).p YP).p KW)
def t289 (a0 : Ty.T aa) (a1 : Int) {Z : Type} (κ : (Ty.T q1) × (Ty.T a9) × (List (Ty.T y27)) -> Option Z) : Option Z := cond (d226 a0) (cond ((cr a0).1.2.2.2.2.2.2.1 == (2 : Int)) (κ ((cr a0).1, ((cr a0).2.1.1, (kP (QD (cr a0).2.1.2 a1) 2147483647)), (cr a0).2.2)) (cond (decide ((cr a0).2.1.2 > (0 : Int))) (κ ((cr a0).1, ((cr a0).2.1.1, IntKind.wrap .i64 ((cr a0).2.1.2 - (1 : Int))), (cr a0).2.2)) (κ ((cr a0).1, (cr a0).2.1, (cr a0).2.2)))) (none)
def M6 (a0 : Ty.T aa) (a1 : Int) : (Ty.T q1) × (Ty.T a9) × (List (Ty.T y27)) := (t289 a0 a1 some).getD ((Ty.zero q1), (Ty.zero a9), [])
def d289 (a0 : Ty.T aa) (a1 : Int) : Bool := (t289 a0 a1 some).isSome
def adD : Prim := ⟨[.agg [.dat aa true], oI], fun v => .br (d289 v.1 v.2.1) (.done (f289 (M6 v.1 v.2.1))) .no⟩
theorem acA : PO 289 adD := pK afR fun v => Eq.trans (b := (t289 v.1 v.2.1 (sm f289))) (by kernel_rfl) (ar (show t289 v.1 v.2.1 (sm f289) = (t289 v.1 v.2.1 some).bind _ from (bC (bC rfl (bC rfl rfl)) rfl)))
def f288 (r : Bool) : AV × Sig := (.one (.bool r), [])
def adC := ((E0.p PS).p aaD)
def acK (a0 : Ty.T y27) : Option (AV × Sig) := cond (!(v53 a0)) (some (.one (.bool true), [])) (some (.one (.bool (v54 a0)), []))
def gH (a0 : Ty.T y27) : Bool := cond (!(v53 a0)) (true) ((v54 a0))
theorem aen (a0 : Ty.T y27) : acK a0 = some (f288 (gH a0)) := (tC rfl rfl)
def aez : Prim := ⟨[.agg [.dat y27 true]], fun v => .done (f288 (gH v.1))⟩
theorem Vc : PO 288 aez := pK adC fun v => Eq.trans (b := acK v.1) (by kernel_rfl) (aen v.1)
def Qj (r : Int) : AV × Sig := (.one (.int .i64 r), [])
def QQ := (E0.p Vc)
@[reducible] def tx : List SP := .one (.dat (.sl 41 y27) true) :: .one (.fnc 288 []) :: U2 (oI :: U2 (oI :: oI :: U8 (U2 ([]))))
def kI (v : dE) {Z : Type} (κ : Nat × dE -> Option Z) : Option Z := cond (decide (v.2.2.2.1 < v.2.2.1)) (if 0 <= v.2.2.2.1 then (bq ((v.1)[(v.2.2.2.1).toNat]?) (fun x1 => cond (gH x1) (κ (1, (v.1, v.2.2.2.1, v.2.2.1, v.2.2.2.1, ()))) (κ (0, (v.1, v.2.1, v.2.2.1, IntKind.wrap .i64 (v.2.2.2.1 + (1 : Int)), ()))))) else none) (κ (2, (v.1, v.2.1, v.2.2.1, v.2.2.2.1, ())))
def kM (v : dE) : Option (Nat × dE) := kI v some
def od (v : dE) : Nat := v.1.length + v.2.1.toNat + v.2.2.1.toNat + v.2.2.2.1.toNat + 100
def fp (h0 : List (Ty.T y27)) (h1 : Int) (h2 : Int) (h3 : Int) (c : Nat) : Bool := iK kM od (h0, h1, h2, h3, ()) c
def xh (h0 : List (Ty.T y27)) (h1 : Int) (h2 : Int) (h3 : Int) : dE := iW kM od (h0, h1, h2, h3, ())
def Hh (v : dE) : aR (Ex × St) := bj kM (od v) v (aB tx aG) [.ret, .exit 0] 0
theorem R8 : bg Tryz.prog (aH (pb 3 5) (ae Tryz.f249)) tx aG Hh := au (lt := .none) QQ.ok ai (ag.no _) fun n v K => Eq.trans (b := kI v (cM _ _ _ _ _ K)) (by kernel_rfl) (show kI v _ = (kI v some).bind _ from (bC (bI (bO fun x1 => (bC rfl rfl))) rfl))
def TC := QQ.l (g := 249) (t := (bW (pb 3 5) (ae Tryz.f249) .none (.sum tx aG Hh))) (aP Tryz.func249 (ag.put (aC (by kernel_rfl)) (ag.no _) R8))
def Q8 (a0 : List (Ty.T y27)) : Option (AV × Sig) := cond (fp a0 0 ((a0).length : Int) 0 0) (some (.one (.int .i64 (xh a0 0 ((a0).length : Int) 0).2.1), [])) (cond (fp a0 0 ((a0).length : Int) 0 1) (some (.one (.int .i64 (-1)), [])) (none))
def bz (a0 : List (Ty.T y27)) : Int := cond (fp a0 0 ((a0).length : Int) 0 0) ((xh a0 0 ((a0).length : Int) 0).2.1) (cond (fp a0 0 ((a0).length : Int) 0 1) ((-1)) (0))
def zy (a0 : List (Ty.T y27)) : Bool := cond (fp a0 0 ((a0).length : Int) 0 0) (true) (cond (fp a0 0 ((a0).length : Int) 0 1) (true) (false))
theorem Xb (a0 : List (Ty.T y27)) : Q8 a0 = cond (zy a0) (some (Qj (bz a0))) none := (pC (pS _) (pC (pS _) (pN _)))
def XK : Prim := ⟨[.one (.dat (.sl 41 y27) true), .one (.fnc 288 [])], fun v => .br (zy v.1) (.done (Qj (bz v.1))) .no⟩
theorem Tx : PO 249 XK := pK TC fun v => Eq.trans (b := Q8 v.1) (by kernel_rfl) (Xb v.1)
def Iq (r : (List (Ty.T y27))) : AV × Sig := (.one (.sl 33554432), [(33554432, .arr 41 y27 r false)])
def Qc := ((E0.p Tx).p Vc)
@[reducible] def tT : List SP := .one (.own 41943040) :: .one (.fnc 288 []) :: U2 (.one (.dat (.sl 41 y27) false) :: oI :: oI :: U32 (U2 (.und :: [])))
@[reducible] def tm : List (Nat × GP) := [(41943040, .arr 41 y27 false)]
@[reducible] def jH : Type := (List (Ty.T y27)) × Int × Int × (List (Ty.T y27)) × Unit
def jn (v : jH) {Z : Type} (κ : Nat × jH -> Option Z) : Option Z := cond (decide (v.2.2.1 < ((v.2.2.2.1).length : Int))) (if 0 <= v.2.2.1 then (if v.2.2.1 < ((v.2.2.2.1).length : Int) then (bq ((v.2.2.2.1)[(v.2.2.1).toNat]?) (fun x1 => cond (!(gH x1)) (if 0 <= v.2.1 then (if v.2.1 < ((v.2.2.2.1).length : Int) then (bq ((v.2.2.2.1)[(v.2.1).toNat]?) (fun x2 => κ (0, (v.1, IntKind.wrap .i64 (v.2.1 + (1 : Int)), IntKind.wrap .i64 (v.2.2.1 + (1 : Int)), v.2.2.2.1.set ((v.2.1).toNat) x1, ())))) else none) else none) (κ (0, (v.1, v.2.1, IntKind.wrap .i64 (v.2.2.1 + (1 : Int)), v.2.2.2.1, ()))))) else none) else none) (κ (1, (v.1, v.2.1, v.2.2.1, v.2.2.2.1, ())))
def iY (v : jH) : Option (Nat × jH) := jn v some
def nE (v : jH) : Nat := v.1.length + v.2.1.toNat + v.2.2.1.toNat + v.2.2.2.1.length + 100
def Gr (h0 : List (Ty.T y27)) (h1 : Int) (h2 : Int) (h3 : List (Ty.T y27)) (c : Nat) : Bool := iK iY nE (h0, h1, h2, h3, ()) c
def cg (h0 : List (Ty.T y27)) (h1 : Int) (h2 : Int) (h3 : List (Ty.T y27)) : jH := iW iY nE (h0, h1, h2, h3, ())
def FA (v : jH) : aR (Ex × St) := bj iY (nE v) v (aB tT tm) [.exit 0] 0
theorem Qt : bg Tryz.prog (aH (pb 5 23) (ae Tryz.f176)) tT tm FA := au (lt := .none) Qc.ok ai (ag.no _) fun n v K => Eq.trans (b := jn v (cM _ _ _ _ _ K)) (by kernel_rfl) (show jn v _ = (jn v some).bind _ from (bC (bI (bI (bO fun x1 => (bC (bI (bI (bO fun x2 => rfl))) rfl)))) rfl))
def TB := Qc.l (g := 176) (t := (bW (pb 5 23) (ae Tryz.f176) .none (.sum tT tm FA))) (aP Tryz.func176 (ag.put (aC (by kernel_rfl)) (ag.no _) Qt))
def qI (a0 : List (Ty.T y27)) {Z : Type} (κ : (List (Ty.T y27)) -> Option Z) : Option Z := cond (zy a0) (cond ((bz a0) == (-1 : Int)) (κ a0) (cond (Gr [] (bz a0) (IntKind.wrap .i64 ((bz a0) + (1 : Int))) a0 0) (if 0 <= (cg [] (bz a0) (IntKind.wrap .i64 ((bz a0) + (1 : Int))) a0).2.1 then (if (cg [] (bz a0) (IntKind.wrap .i64 ((bz a0) + (1 : Int))) a0).2.1 <= (((cg [] (bz a0) (IntKind.wrap .i64 ((bz a0) + (1 : Int))) a0).2.2.2.1).length : Int) then (if 0 <= (cg [] (bz a0) (IntKind.wrap .i64 ((bz a0) + (1 : Int))) a0).2.1 then (if (cg [] (bz a0) (IntKind.wrap .i64 ((bz a0) + (1 : Int))) a0).2.1 <= (((cg [] (bz a0) (IntKind.wrap .i64 ((bz a0) + (1 : Int))) a0).2.2.2.1.take (((cg [] (bz a0) (IntKind.wrap .i64 ((bz a0) + (1 : Int))) a0).2.1).toNat) ++ List.replicate (((cg [] (bz a0) (IntKind.wrap .i64 ((bz a0) + (1 : Int))) a0).2.2.2.1).length - ((cg [] (bz a0) (IntKind.wrap .i64 ((bz a0) + (1 : Int))) a0).2.1).toNat) ((0, 0, 0, 0, 0, 0, false) : Ty.T y27) ++ (cg [] (bz a0) (IntKind.wrap .i64 ((bz a0) + (1 : Int))) a0).2.2.2.1.drop (((cg [] (bz a0) (IntKind.wrap .i64 ((bz a0) + (1 : Int))) a0).2.1).toNat + (((cg [] (bz a0) (IntKind.wrap .i64 ((bz a0) + (1 : Int))) a0).2.2.2.1).length - ((cg [] (bz a0) (IntKind.wrap .i64 ((bz a0) + (1 : Int))) a0).2.1).toNat))).length : Int) then (κ (((cg [] (bz a0) (IntKind.wrap .i64 ((bz a0) + (1 : Int))) a0).2.2.2.1.take (((cg [] (bz a0) (IntKind.wrap .i64 ((bz a0) + (1 : Int))) a0).2.1).toNat) ++ List.replicate (((cg [] (bz a0) (IntKind.wrap .i64 ((bz a0) + (1 : Int))) a0).2.2.2.1).length - ((cg [] (bz a0) (IntKind.wrap .i64 ((bz a0) + (1 : Int))) a0).2.1).toNat) ((0, 0, 0, 0, 0, 0, false) : Ty.T y27) ++ (cg [] (bz a0) (IntKind.wrap .i64 ((bz a0) + (1 : Int))) a0).2.2.2.1.drop (((cg [] (bz a0) (IntKind.wrap .i64 ((bz a0) + (1 : Int))) a0).2.1).toNat + (((cg [] (bz a0) (IntKind.wrap .i64 ((bz a0) + (1 : Int))) a0).2.2.2.1).length - ((cg [] (bz a0) (IntKind.wrap .i64 ((bz a0) + (1 : Int))) a0).2.1).toNat))).take (((cg [] (bz a0) (IntKind.wrap .i64 ((bz a0) + (1 : Int))) a0).2.1).toNat))) else none) else none) else none) else none) (none))) (none)
def xU (a0 : List (Ty.T y27)) : (List (Ty.T y27)) := (qI a0 some).getD []
def ya (a0 : List (Ty.T y27)) : Bool := (qI a0 some).isSome
def Yu : Gen := ⟨[true, false], [.one (.own 41943040), .one (.fnc 288 [])], [(41943040, .arr 41 y27 false)], fun v => .br (ya v.1) (.done (Iq (xU v.1))) .no⟩
theorem SV : bw Tryz.prog 176 Yu := bF TB.ok ai (aC (by kernel_rfl)) ⟨Tryz.f176, ae Tryz.f176, by kernel_rfl, by kernel_rfl⟩ fun v => Eq.trans (b := (qI v.1 (sm Iq))) (by kernel_rfl) (ar (show qI v.1 (sm Iq) = (qI v.1 some).bind _ from (bC (bC rfl (bC (bI (bI (bI (bI rfl)))) rfl)) rfl)))
def f228 (r : Int × (Ty.T q1) × (Ty.T a9) × (List (Ty.T y27)) × (List (Ty.T y27))) : AV × Sig := (.tup [(false, ([.sl 4096])), (false, ([.int .i64 r.1])), (true, ((q1.cells false r.2.1) ++ [.sl 90112] ++ (a9.cells false r.2.2.1)))], [(4096, .arr 41 y27 r.2.2.2.1 false), (90112, .arr 41 y27 r.2.2.2.2 false)])
def afl := (((((((E0.g SV).p KW).p OM).p UN).p acE).p acA).p PS)
def t228 (a0 : Ty.T aa) (a1 : Ty.T y27) {Z : Type} (κ : Int × (Ty.T q1) × (Ty.T a9) × (List (Ty.T y27)) × (List (Ty.T y27)) -> Option Z) : Option Z := cond (d227 a0) (cond (!(Ah a0)) (cond (d226 a0) (κ (0, (cr a0).1, (cr a0).2.1, [a1], (cr a0).2.2)) (none)) (cond (!(v53 a1)) (cond (d226 a0) (κ (0, (cr a0).1, (cr a0).2.1, [a1], (cr a0).2.2)) (none)) (cond (!(Co a0.2.2.2.2.2.2.1 a1.1)) (cond (d226 a0) (κ (0, (cr a0).1, (cr a0).2.1, [a1], (cr a0).2.2)) (none)) (cond (d287 a0 a1) (cond (ya (eY a0 a1).2) (cond (d289 a0 (eY a0 a1).1) (κ ((eY a0 a1).1, (M6 a0 (eY a0 a1).1).1, (M6 a0 (eY a0 a1).1).2.1, (xU (eY a0 a1).2), (M6 a0 (eY a0 a1).1).2.2)) (none)) (none)) (none))))) (none)
def dr (a0 : Ty.T aa) (a1 : Ty.T y27) : Int × (Ty.T q1) × (Ty.T a9) × (List (Ty.T y27)) × (List (Ty.T y27)) := (t228 a0 a1 some).getD (0, (Ty.zero q1), (Ty.zero a9), [], [])
def d228 (a0 : Ty.T aa) (a1 : Ty.T y27) : Bool := (t228 a0 a1 some).isSome
def ah2 : Prim := ⟨[.agg [.dat aa true], .agg [.dat y27 true]], fun v => .br (d228 v.1 v.2.1) (.done (f228 (dr v.1 v.2.1))) .no⟩
theorem Y6 : PO 228 ah2 := pK afl fun v => Eq.trans (b := (t228 v.1 v.2.1 (sm f228))) (by kernel_rfl) (ar (show t228 v.1 v.2.1 (sm f228) = (t228 v.1 v.2.1 some).bind _ from by unfold t228; simp only [bb]))
def f230 (r : Int) : AV × Sig := (.one (.int .i64 r), [])
def adR := (E0.p Vd)
def Zc (a0 : Ty.T y36) (a1 : Ty.T y27) : Option (AV × Sig) := cond (d292 a0 a1) (cond ((tg a0 a1) != (-1 : Int)) (some (.one (.int .i64 (tg a0 a1)), [])) (some (.one (.int .i64 a0.2.2.1), []))) (none)
def NV (a0 : Ty.T y36) (a1 : Ty.T y27) : Int := cond (d292 a0 a1) (cond ((tg a0 a1) != (-1 : Int)) ((tg a0 a1)) (a0.2.2.1)) (0)
def d230 (a0 : Ty.T y36) (a1 : Ty.T y27) : Bool := cond (d292 a0 a1) (cond ((tg a0 a1) != (-1 : Int)) (true) (true)) (false)
theorem adn (a0 : Ty.T y36) (a1 : Ty.T y27) : Zc a0 a1 = cond (d230 a0 a1) (some (f230 (NV a0 a1))) none := (pC (pC (pS _) (pS _)) (pN _))
def af6 : Prim := ⟨[.agg [.dat y36 true], .agg [.dat y27 true]], fun v => .br (d230 v.1 v.2.1) (.done (f230 (NV v.1 v.2.1))) .no⟩
theorem Z7 : PO 230 af6 := pK adR fun v => Eq.trans (b := Zc v.1 v.2.1) (by kernel_rfl) (adn v.1 v.2.1)
def f139 (r : Bool) : AV × Sig := (.one (.bool r), [])
def ag9 := E0
def abN (a0 : Ty.T y66) : Option (AV × Sig) := some (.one (.bool true), [])
def Sn (a0 : Ty.T y66) : Bool := true
theorem aff (a0 : Ty.T y66) : abN a0 = some (f139 (Sn a0)) := rfl
def ahG : Prim := ⟨[.agg [.dat y66 true]], fun v => .done (f139 (Sn v.1))⟩
theorem abS : PO 139 ahG := pK ag9 fun v => Eq.trans (b := abN v.1) (by kernel_rfl) (aff v.1)
def f231 (r : (List (Ty.T aa))) : AV × Sig := (.one (.sl 4096), [(4096, .arr 109 aa r false)])
def adJ := (((E0.p U3).p KW).p VA)
def t231 (a0 : List (Ty.T aa)) (a1 : Ty.T aa) {Z : Type} (κ : (List (Ty.T aa)) -> Option Z) : Option Z := cond (d134 a0) (cond (d229 a0 a1.1) (cond (decide ((Ag a0 a1.1) ≥ (0 : Int))) (cond (d226 a1) (if 0 <= (Ag a0 a1.1) then (if (Ag a0 a1.1) < (((nT a0)).length : Int) then (bq (((nT a0))[(Ag a0 a1.1).toNat]?) (fun x1 => κ ((nT a0).set ((Ag a0 a1.1).toNat) ((cr a1).1.1, (cr a1).1.2.1, (cr a1).1.2.2.1, (cr a1).1.2.2.2.1, (cr a1).1.2.2.2.2.1, (cr a1).1.2.2.2.2.2.1, ((cr a1).1.2.2.2.2.2.2.1, (cr a1).1.2.2.2.2.2.2.2.1, (cr a1).1.2.2.2.2.2.2.2.2.1, (cr a1).1.2.2.2.2.2.2.2.2.2.1, (cr a1).1.2.2.2.2.2.2.2.2.2.2.1, (cr a1).1.2.2.2.2.2.2.2.2.2.2.2, (cr a1).2.2), (cr a1).2.1)))) else none) else none) (none)) (κ (nT a0))) (none)) (none)
def TR (a0 : List (Ty.T aa)) (a1 : Ty.T aa) : (List (Ty.T aa)) := (t231 a0 a1 some).getD []
def d231 (a0 : List (Ty.T aa)) (a1 : Ty.T aa) : Bool := (t231 a0 a1 some).isSome
def aey : Prim := ⟨[.one (.dat (.sl 109 aa) true), .agg [.dat aa true]], fun v => .br (d231 v.1 v.2.1) (.done (f231 (TR v.1 v.2.1))) .no⟩
theorem aav : PO 231 aey := pK adJ fun v => Eq.trans (b := (t231 v.1 v.2.1 (sm f231))) (by kernel_rfl) (ar (show t231 v.1 v.2.1 (sm f231) = (t231 v.1 v.2.1 some).bind _ from by unfold t231; simp only [bb]))
@[reducible] def bG : Type := Ty.T y27 -> List (Ty.T (.int .i64)) -> Ty.T y36 -> List (Ty.T y27) -> List (Ty.T aa) -> List (Ty.T (.int .i64)) -> List (Ty.T y66) -> Bool × (Bool × (Ty.T y36) × (List (Ty.T y27)) × (List (Ty.T aa)) × (List (Ty.T (.int .i64))) × (List (Ty.T y66)))
def C9 (r : Bool × (Ty.T y36) × (List (Ty.T y27)) × (List (Ty.T aa)) × (List (Ty.T (.int .i64))) × (List (Ty.T y66))) : AV × Sig := (.one (.bool r.1), [(4294967296, .box 169 ((y36.cells true r.2.1) ++ [.sl 16793600] ++ [.sl 16797696] ++ [.sl 16801792] ++ [.sl 16805888] ++ [.fnp 137 [4294967297]] ++ [.fn 139 []])), (4294967297, .box 165 ([.ptr 4294967296 0 0])), (16793600, .arr 41 y27 r.2.2.1 false), (16797696, .arr 109 aa r.2.2.2.1 false), (16801792, .arr 3 (.int .i64) r.2.2.2.2.1 false), (16805888, .arr 67 y66 r.2.2.2.2.2 false)])
def gI (R : bG) : Gen := ⟨[false, false, false], [.one (.ptr 4294967296 0), .agg [.dat y27 false], .one (.dat (.sl 3 (.int .i64)) false)], [(4294967296, .box 169 [.dat y36 true, .own 16793600, .own 16797696, .own 16801792, .own 16805888, .fnp 137 [4294967297], .fnc 139 []]), (4294967297, .box 165 [.ptr 4294967296 0]), (16793600, .arr 41 y27 false), (16797696, .arr 109 aa false), (16801792, .arr 3 (.int .i64) false), (16805888, .arr 67 y66 false)], fun v => .br (R v.1 v.2.1 v.2.2.1 v.2.2.2.1 v.2.2.2.2.1 v.2.2.2.2.2.1 v.2.2.2.2.2.2.1).1 (.done (C9 (R v.1 v.2.1 v.2.2.1 v.2.2.2.1 v.2.2.2.2.1 v.2.2.2.2.2.1 v.2.2.2.2.2.2.1).2)) .no⟩
def yC (R : bG) (h : bw Tryz.prog 140 (gI R)) : eo Tryz.prog := ((((((((((E0.g Uv).p Pt).p abS).p Y6).p VA).p Z7).p aav).p aaD).p acy).g h)
@[reducible] def g9 : List SP := .one (.ptr 4294967296 0) :: .und :: .one (.dat (.sl 3 (.int .i64)) false) :: .und :: .one (.ptr 4 0) :: .und :: .one (.dat .bool true) :: .one (.own 4124) :: U64 (U64 (U8 (U2 ([]))))
@[reducible] def eP : List (Nat × GP) := [(4294967296, .box 169 [.dat y36 true, .own 16793600, .own 16797696, .own 16801792, .own 16805888, .fnp 137 [4294967297], .fnc 139 []]), (4, .box 41 [.dat y27 false]), (4294967297, .box 165 [.ptr 4294967296 0]), (4124, .arr 3 (.int .i64) false), (16793600, .arr 41 y27 false), (16797696, .arr 109 aa false), (16801792, .arr 3 (.int .i64) false), (16805888, .arr 67 y66 false)]
@[reducible] def oa : Type := (List (Ty.T (.int .i64))) × Bool × (Ty.T y36) × (Ty.T y27) × (List (Ty.T (.int .i64))) × (List (Ty.T y27)) × (List (Ty.T aa)) × (List (Ty.T (.int .i64))) × (List (Ty.T y66)) × Unit
def yj (R : bG) (v : oa) (r : Unit) : Ex × St := (.normal, aB g9 eP (v.1, v.2.1, v.2.2.1, v.2.2.2.1, v.2.2.2.2.1, v.2.2.2.2.2.1 ++ [v.2.2.2.1], v.2.2.2.2.2.2.1, v.2.2.2.2.2.2.2.1, v.2.2.2.2.2.2.2.2.1, ()))
def iw (R : bG) (v : oa) {Z : Type} (κ : Unit -> Option Z) : Option Z := if (v.2.2.2.2.2.1 ++ [v.2.2.2.1] : List (Ty.T y27)).length * 56 <= 140737488351232 then (κ ()) else none
def Qq (R : bG) (v : oa) : Unit := (iw R v some).getD ()
def sL (R : bG) (v : oa) : Bool := (iw R v some).isSome
def G0 (R : bG) (v : oa) : aR (Ex × St) := .br (sL R v) (.done (yj R v (Qq R v))) .no
theorem N0 (R : bG) (h : bw Tryz.prog 140 (gI R)) : a7 Tryz.prog (aA [false] (aA (pb 7 75) (ae Tryz.f140))) g9 eP (G0 R) := bP (by kernel_rfl) (sx := g9) (gx := eP) (yC R h).ok ai (by kernel_rfl) 1 fun v => Eq.trans (b := List.replicate 1 (iw R v (sm (yj R v)))) (by kernel_rfl) (congrArg (List.replicate 1) (ar (show iw R v (sm (yj R v)) = (iw R v some).bind _ from (bI rfl))))
@[reducible] def AR : List SP := .one (.ptr 4294967296 0) :: .und :: .one (.dat (.sl 3 (.int .i64)) false) :: .und :: .one (.ptr 4 0) :: .und :: .one (.dat .bool true) :: .one (.own 4124) :: U16 (U8 (U2 (.one (.dat .bool true) :: U64 (U32 (U8 (U4 (U2 (.und :: []))))))))
@[reducible] def ot : Type := (List (Ty.T (.int .i64))) × Bool × Bool × (Ty.T y36) × (Ty.T y27) × (List (Ty.T (.int .i64))) × (List (Ty.T y27)) × (List (Ty.T aa)) × (List (Ty.T (.int .i64))) × (List (Ty.T y66)) × Unit
def xq (R : bG) (v : ot) (r : (List (Ty.T y27))) : Ex × St := (.normal, aB g9 eP (v.1, v.2.1, v.2.2.2.1, v.2.2.2.2.1, v.2.2.2.2.2.1, r, v.2.2.2.2.2.2.2.1, v.2.2.2.2.2.2.2.2.1, v.2.2.2.2.2.2.2.2.2.1, ()))
def jf (R : bG) (v : ot) {Z : Type} (κ : (List (Ty.T y27)) -> Option Z) : Option Z := cond v.2.2.1 (cond (sL R (v.1, v.2.1, v.2.2.2.1, v.2.2.2.2.1, v.2.2.2.2.2.1, v.2.2.2.2.2.2.1, v.2.2.2.2.2.2.2.1, v.2.2.2.2.2.2.2.2.1, v.2.2.2.2.2.2.2.2.2.1, ())) (κ (v.2.2.2.2.2.2.1 ++ [v.2.2.2.2.1])) (none)) (κ v.2.2.2.2.2.2.1)
def rG (R : bG) (v : ot) : (List (Ty.T y27)) := (jf R v some).getD []
def rb (R : bG) (v : ot) : Bool := (jf R v some).isSome
def EV (R : bG) (v : ot) : aR (Ex × St) := .br (rb R v) (.done (xq R v (rG R v))) .no
theorem Qv (R : bG) (h : bw Tryz.prog 140 (gI R)) : a7 Tryz.prog (aA (pb 7 75) (ae Tryz.f140)) AR eP (EV R) := aS (lt := (aM [false] (aA (pb 7 75) (ae Tryz.f140)) .none (.sum g9 eP (G0 R)))) (sx := g9) (gx := eP) (yC R h).ok ai (ag.ct (aC (by kernel_rfl)) (ag.no _) (N0 R h)) fun v => Eq.trans (b := jf R v (sm (xq R v))) (by kernel_rfl) (ar (show jf R v (sm (xq R v)) = (jf R v some).bind _ from (bC (bC rfl rfl) rfl)))
@[reducible] def AG : List SP := .one (.ptr 4294967296 0) :: .und :: .one (.dat (.sl 3 (.int .i64)) false) :: U2 (.und :: .one (.dat .bool true) :: U2 (.und :: oI :: .one (.own 4175) :: U2 (.one (.ptr 14 0) :: U64 (U64 (U2 (.und :: []))))))
@[reducible] def Bf : List (Nat × GP) := [(4294967296, .box 169 [.dat y36 true, .own 16793600, .own 4209, .own 16801792, .own 16805888, .fnp 137 [4294967297], .fnc 139 []]), (14, .box 67 [.dat q3 false, .own 4175, .dat a9 false]), (4294967297, .box 165 [.ptr 4294967296 0]), (4175, .arr 41 y27 false), (4209, .arr 109 aa false), (16793600, .arr 41 y27 false), (16801792, .arr 3 (.int .i64) false), (16805888, .arr 67 y66 false)]
@[reducible] def mO : Type := (List (Ty.T (.int .i64))) × Bool × Int × (Ty.T y36) × (Ty.T q3) × (Ty.T a9) × (List (Ty.T y27)) × (List (Ty.T aa)) × (List (Ty.T y27)) × (List (Ty.T (.int .i64))) × (List (Ty.T y66)) × Unit
@[reducible] def Bg : List SP := .one (.ptr 4294967296 0) :: .und :: .one (.dat (.sl 3 (.int .i64)) false) :: U2 (.und :: .one (.dat .bool true) :: U2 (.und :: oI :: .one (.dat (.sl 41 y27) false) :: U64 (U64 (U4 (U2 ([]))))))
@[reducible] def ko : List (Nat × GP) := [(4294967296, .box 169 [.dat y36 true, .own 16793600, .own 4209, .own 16801792, .own 16805888, .fnp 137 [4294967297], .fnc 139 []]), (4294967297, .box 165 [.ptr 4294967296 0]), (4209, .arr 109 aa false), (16793600, .arr 41 y27 false), (16801792, .arr 3 (.int .i64) false), (16805888, .arr 67 y66 false)]
def zm (R : bG) (v : mO) (r : Unit) : Ex × St := (.normal, aB Bg ko (v.1, v.2.1, v.2.2.1, v.2.2.2.2.2.2.1, v.2.2.2.1, v.2.2.2.2.2.2.2.1, v.2.2.2.2.2.2.2.2.1, v.2.2.2.2.2.2.2.2.2.1, v.2.2.2.2.2.2.2.2.2.2.1 ++ [(v.2.2.2.2.1.1, v.2.2.2.2.1.2.1, v.2.2.2.2.1.2.2.1, v.2.2.2.2.1.2.2.2.1, v.2.2.2.2.1.2.2.2.2, v.2.2.2.2.2.2.1, v.2.2.2.2.2.1)], ()))
def kG (R : bG) (v : mO) {Z : Type} (κ : Unit -> Option Z) : Option Z := if (v.2.2.2.2.2.2.2.2.2.2.1 ++ [(v.2.2.2.2.1.1, v.2.2.2.2.1.2.1, v.2.2.2.2.1.2.2.1, v.2.2.2.2.1.2.2.2.1, v.2.2.2.2.1.2.2.2.2, v.2.2.2.2.2.2.1, v.2.2.2.2.2.1)] : List (Ty.T y66)).length * 128 <= 140737488351232 then (κ ()) else none
def RC (R : bG) (v : mO) : Unit := (kG R v some).getD ()
def xE (R : bG) (v : mO) : Bool := (kG R v some).isSome
def G1 (R : bG) (v : mO) : aR (Ex × St) := .br (xE R v) (.done (zm R v (RC R v))) .no
theorem ON (R : bG) (h : bw Tryz.prog 140 (gI R)) : a7 Tryz.prog (aA (pb 11 1023) (ae Tryz.f140)) AG Bf (G1 R) := bP (by kernel_rfl) (sx := Bg) (gx := ko) (yC R h).ok ai (by kernel_rfl) 2 fun v => Eq.trans (b := List.replicate 2 (kG R v (sm (zm R v)))) (by kernel_rfl) (congrArg (List.replicate 2) (ar (show kG R v (sm (zm R v)) = (kG R v some).bind _ from (bI rfl))))
@[reducible] def uH : List SP := .one (.ptr 4294967296 0) :: .und :: .one (.dat (.sl 3 (.int .i64)) false) :: U2 (.und :: .one (.dat .bool true) :: U64 (U32 (U16 (U8 (U4 (U2 (.und :: .one (.dat (.sl 41 y27) false) :: oI :: oI :: U8 (.und :: []))))))))
@[reducible] def iF : Type := (List (Ty.T (.int .i64))) × Bool × (List (Ty.T y27)) × Int × Int × (Ty.T y36) × (List (Ty.T aa)) × (List (Ty.T y27)) × (List (Ty.T (.int .i64))) × (List (Ty.T y66)) × Unit
def kt (R : bG) (v : iF) {Z : Type} (κ : Nat × iF -> Option Z) : Option Z := cond (decide (v.2.2.2.2.1 < v.2.2.2.1)) (if 0 <= v.2.2.2.2.1 then (bq ((v.2.2.1)[(v.2.2.2.2.1).toNat]?) (fun x3 => cond (R x3 v.1 v.2.2.2.2.2.1 v.2.2.2.2.2.2.2.1 v.2.2.2.2.2.2.1 v.2.2.2.2.2.2.2.2.1 v.2.2.2.2.2.2.2.2.2.1).1 (cond (!(R x3 v.1 v.2.2.2.2.2.1 v.2.2.2.2.2.2.2.1 v.2.2.2.2.2.2.1 v.2.2.2.2.2.2.2.2.1 v.2.2.2.2.2.2.2.2.2.1).2.1) (κ (1, (v.1, false, v.2.2.1, v.2.2.2.1, v.2.2.2.2.1, (R x3 v.1 v.2.2.2.2.2.1 v.2.2.2.2.2.2.2.1 v.2.2.2.2.2.2.1 v.2.2.2.2.2.2.2.2.1 v.2.2.2.2.2.2.2.2.2.1).2.2.1, (R x3 v.1 v.2.2.2.2.2.1 v.2.2.2.2.2.2.2.1 v.2.2.2.2.2.2.1 v.2.2.2.2.2.2.2.2.1 v.2.2.2.2.2.2.2.2.2.1).2.2.2.2.1, (R x3 v.1 v.2.2.2.2.2.1 v.2.2.2.2.2.2.2.1 v.2.2.2.2.2.2.1 v.2.2.2.2.2.2.2.2.1 v.2.2.2.2.2.2.2.2.2.1).2.2.2.1, (R x3 v.1 v.2.2.2.2.2.1 v.2.2.2.2.2.2.2.1 v.2.2.2.2.2.2.1 v.2.2.2.2.2.2.2.2.1 v.2.2.2.2.2.2.2.2.2.1).2.2.2.2.2.1, (R x3 v.1 v.2.2.2.2.2.1 v.2.2.2.2.2.2.2.1 v.2.2.2.2.2.2.1 v.2.2.2.2.2.2.2.2.1 v.2.2.2.2.2.2.2.2.2.1).2.2.2.2.2.2, ()))) (κ (0, (v.1, v.2.1, v.2.2.1, v.2.2.2.1, IntKind.wrap .i64 (v.2.2.2.2.1 + (1 : Int)), (R x3 v.1 v.2.2.2.2.2.1 v.2.2.2.2.2.2.2.1 v.2.2.2.2.2.2.1 v.2.2.2.2.2.2.2.2.1 v.2.2.2.2.2.2.2.2.2.1).2.2.1, (R x3 v.1 v.2.2.2.2.2.1 v.2.2.2.2.2.2.2.1 v.2.2.2.2.2.2.1 v.2.2.2.2.2.2.2.2.1 v.2.2.2.2.2.2.2.2.2.1).2.2.2.2.1, (R x3 v.1 v.2.2.2.2.2.1 v.2.2.2.2.2.2.2.1 v.2.2.2.2.2.2.1 v.2.2.2.2.2.2.2.2.1 v.2.2.2.2.2.2.2.2.2.1).2.2.2.1, (R x3 v.1 v.2.2.2.2.2.1 v.2.2.2.2.2.2.2.1 v.2.2.2.2.2.2.1 v.2.2.2.2.2.2.2.2.1 v.2.2.2.2.2.2.2.2.2.1).2.2.2.2.2.1, (R x3 v.1 v.2.2.2.2.2.1 v.2.2.2.2.2.2.2.1 v.2.2.2.2.2.2.1 v.2.2.2.2.2.2.2.2.1 v.2.2.2.2.2.2.2.2.2.1).2.2.2.2.2.2, ())))) (none))) else none) (κ (2, (v.1, v.2.1, v.2.2.1, v.2.2.2.1, v.2.2.2.2.1, v.2.2.2.2.2.1, v.2.2.2.2.2.2.1, v.2.2.2.2.2.2.2.1, v.2.2.2.2.2.2.2.2.1, v.2.2.2.2.2.2.2.2.2.1, ())))
def gy (R : bG) (v : iF) : Option (Nat × iF) := kt R v some
def nr (v : iF) : Nat := v.1.length + v.2.2.1.length + v.2.2.2.1.toNat + v.2.2.2.2.1.toNat + v.2.2.2.2.2.1.1.length + v.2.2.2.2.2.1.2.1.length + v.2.2.2.2.2.2.1.length + v.2.2.2.2.2.2.2.1.length + v.2.2.2.2.2.2.2.2.1.length + v.2.2.2.2.2.2.2.2.2.1.length + 100
def sf (R : bG) (h0 : List (Ty.T (.int .i64))) (h1 : Bool) (h2 : List (Ty.T y27)) (h3 : Int) (h4 : Int) (h5 : Ty.T y36) (h6 : List (Ty.T aa)) (h7 : List (Ty.T y27)) (h8 : List (Ty.T (.int .i64))) (h9 : List (Ty.T y66)) (c : Nat) : Bool := iK (gy R) nr (h0, h1, h2, h3, h4, h5, h6, h7, h8, h9, ()) c
def Fq (R : bG) (h0 : List (Ty.T (.int .i64))) (h1 : Bool) (h2 : List (Ty.T y27)) (h3 : Int) (h4 : Int) (h5 : Ty.T y36) (h6 : List (Ty.T aa)) (h7 : List (Ty.T y27)) (h8 : List (Ty.T (.int .i64))) (h9 : List (Ty.T y66)) : iF := iW (gy R) nr (h0, h1, h2, h3, h4, h5, h6, h7, h8, h9, ())
def F5 (R : bG) (v : iF) : aR (Ex × St) := bj (gy R) (nr v) v (aB uH ko) [.ret, .exit 0] 0
theorem QV (R : bG) (h : bw Tryz.prog 140 (gI R)) : bg Tryz.prog (aH (pb 14 12287) (ae Tryz.f140)) uH ko (F5 R) := au (lt := .none) (yC R h).ok ai (ag.no _) fun n v K => Eq.trans (b := kt R v (cM _ _ _ _ _ K)) (by kernel_rfl) (show kt R v _ = (kt R v some).bind _ from (bC (bI (bO fun x3 => (bC (bC rfl rfl) rfl))) rfl))
def Sp (R : bG) (h : bw Tryz.prog 140 (gI R)) : eo Tryz.prog := (yC R h).l (g := 140) (t := (aM (pb 14 12287) (ae Tryz.f140) (aM (pb 11 1023) (ae Tryz.f140) (aM (pb 7 75) (ae Tryz.f140) .none (.sum AR eP (EV R))) (.sum AG Bf (G1 R))) (.sum uH ko (F5 R)))) (aP Tryz.func140 (ag.wb (by kernel_rfl) (aC (by kernel_rfl)) (ag.ct (aC (by kernel_rfl)) (ag.ct (aC (by kernel_rfl)) (ag.no _) (Qv R h)) (ON R h)) (QV R h)))
def kF (a0 : Ty.T y27) (a1 : List (Ty.T (.int .i64))) (a2 : Ty.T y36) (a3 : List (Ty.T y27)) (a4 : List (Ty.T aa)) (a5 : List (Ty.T (.int .i64))) (a6 : List (Ty.T y66)) := (NV (bJ (((v76 a2 a4 a0 a1)).length : Int) a2 a3 a4 a5 a6).2.2.1 a0)
def sd (a0 : Ty.T y27) (a1 : List (Ty.T (.int .i64))) (a2 : Ty.T y36) (a3 : List (Ty.T y27)) (a4 : List (Ty.T aa)) (a5 : List (Ty.T (.int .i64))) (a6 : List (Ty.T y66)) (x1 : Ty.T (.int .i64)) := (Ag (bJ (((v76 a2 a4 a0 a1)).length : Int) a2 a3 a4 a5 a6).2.2.2.2.1 x1)
def m4 (a0 : Ty.T y27) (a1 : List (Ty.T (.int .i64))) (a2 : Ty.T y36) (a3 : List (Ty.T y27)) (a4 : List (Ty.T aa)) (a5 : List (Ty.T (.int .i64))) (a6 : List (Ty.T y66)) (x2 : Ty.T aa) := (TR (bJ (((v76 a2 a4 a0 a1)).length : Int) a2 a3 a4 a5 a6).2.2.2.2.1 ((dr x2 a0).2.1.1, (dr x2 a0).2.1.2.1, (dr x2 a0).2.1.2.2.1, (dr x2 a0).2.1.2.2.2.1, (dr x2 a0).2.1.2.2.2.2.1, (dr x2 a0).2.1.2.2.2.2.2.1, ((dr x2 a0).2.1.2.2.2.2.2.2.1, (dr x2 a0).2.1.2.2.2.2.2.2.2.1, (dr x2 a0).2.1.2.2.2.2.2.2.2.2.1, (dr x2 a0).2.1.2.2.2.2.2.2.2.2.2.1, (dr x2 a0).2.1.2.2.2.2.2.2.2.2.2.2.1, (dr x2 a0).2.1.2.2.2.2.2.2.2.2.2.2.2, (dr x2 a0).2.2.2.2), (dr x2 a0).2.2.1))
def dQ (R : bG) (a0 : Ty.T y27) (a1 : List (Ty.T (.int .i64))) (a2 : Ty.T y36) (a3 : List (Ty.T y27)) (a4 : List (Ty.T aa)) (a5 : List (Ty.T (.int .i64))) (a6 : List (Ty.T y66)) (x1 : Ty.T (.int .i64)) (x2 : Ty.T aa) := (Fq R ((fM a1) ++ [x1]) false (dr x2 a0).2.2.2.1 (((dr x2 a0).2.2.2.1).length : Int) 0 (bJ (((v76 a2 a4 a0 a1)).length : Int) a2 a3 a4 a5 a6).2.2.1 (m4 a0 a1 a2 a3 a4 a5 a6 x2) (bJ (((v76 a2 a4 a0 a1)).length : Int) a2 a3 a4 a5 a6).2.2.2.1 (bJ (((v76 a2 a4 a0 a1)).length : Int) a2 a3 a4 a5 a6).2.2.2.2.2.1 ((bJ (((v76 a2 a4 a0 a1)).length : Int) a2 a3 a4 a5 a6).2.2.2.2.2.2 ++ [(x1, (kF a0 a1 a2 a3 a4 a5 a6), (bJ (((v76 a2 a4 a0 a1)).length : Int) a2 a3 a4 a5 a6).1, (((v76 a2 a4 a0 a1)).length : Int), a0, (dr x2 a0).2.2.2.1, ((dr x2 a0).1, ((a1).length : Int)))]))
def kh (R : bG) (a0 : Ty.T y27) (a1 : List (Ty.T (.int .i64))) (a2 : Ty.T y36) (a3 : List (Ty.T y27)) (a4 : List (Ty.T aa)) (a5 : List (Ty.T (.int .i64))) (a6 : List (Ty.T y66)) {Z : Type} (κ : Bool × (Ty.T y36) × (List (Ty.T y27)) × (List (Ty.T aa)) × (List (Ty.T (.int .i64))) × (List (Ty.T y66)) -> Option Z) : Option Z := cond (d76 a2 a4 a0 a1) (cond ((((v76 a2 a4 a0 a1)).length : Int) == (0 : Int)) (cond (rb R (a1, false, !(v54 a0), a2, a0, (v76 a2 a4 a0 a1), a3, a4, a5, a6, ())) (κ (true, a2, (rG R (a1, false, !(v54 a0), a2, a0, (v76 a2 a4 a0 a1), a3, a4, a5, a6, ())), a4, a5, a6)) (none)) (cond (DG (((v76 a2 a4 a0 a1)).length : Int) a2 a3 a4 a5 a6) (cond (!(bJ (((v76 a2 a4 a0 a1)).length : Int) a2 a3 a4 a5 a6).2.1) (κ (false, (bJ (((v76 a2 a4 a0 a1)).length : Int) a2 a3 a4 a5 a6).2.2.1, (bJ (((v76 a2 a4 a0 a1)).length : Int) a2 a3 a4 a5 a6).2.2.2.1, (bJ (((v76 a2 a4 a0 a1)).length : Int) a2 a3 a4 a5 a6).2.2.2.2.1, (bJ (((v76 a2 a4 a0 a1)).length : Int) a2 a3 a4 a5 a6).2.2.2.2.2.1, (bJ (((v76 a2 a4 a0 a1)).length : Int) a2 a3 a4 a5 a6).2.2.2.2.2.2)) (if 0 <= (bJ (((v76 a2 a4 a0 a1)).length : Int) a2 a3 a4 a5 a6).1 then (if (bJ (((v76 a2 a4 a0 a1)).length : Int) a2 a3 a4 a5 a6).1 < (((v76 a2 a4 a0 a1)).length : Int) then (bq (((v76 a2 a4 a0 a1))[((bJ (((v76 a2 a4 a0 a1)).length : Int) a2 a3 a4 a5 a6).1).toNat]?) (fun x1 => cond (d229 (bJ (((v76 a2 a4 a0 a1)).length : Int) a2 a3 a4 a5 a6).2.2.2.2.1 x1) (if 0 <= (sd a0 a1 a2 a3 a4 a5 a6 x1) then (if (sd a0 a1 a2 a3 a4 a5 a6 x1) < (((bJ (((v76 a2 a4 a0 a1)).length : Int) a2 a3 a4 a5 a6).2.2.2.2.1).length : Int) then (bq (((bJ (((v76 a2 a4 a0 a1)).length : Int) a2 a3 a4 a5 a6).2.2.2.2.1)[(sd a0 a1 a2 a3 a4 a5 a6 x1).toNat]?) (fun x2 => cond (d228 x2 a0) (cond (d230 (bJ (((v76 a2 a4 a0 a1)).length : Int) a2 a3 a4 a5 a6).2.2.1 a0) (cond (!(Sn (x1, (kF a0 a1 a2 a3 a4 a5 a6), (bJ (((v76 a2 a4 a0 a1)).length : Int) a2 a3 a4 a5 a6).1, (((v76 a2 a4 a0 a1)).length : Int), a0, (dr x2 a0).2.2.2.1, (dr x2 a0).1, ((a1).length : Int)))) (κ (false, (bJ (((v76 a2 a4 a0 a1)).length : Int) a2 a3 a4 a5 a6).2.2.1, (bJ (((v76 a2 a4 a0 a1)).length : Int) a2 a3 a4 a5 a6).2.2.2.1, (bJ (((v76 a2 a4 a0 a1)).length : Int) a2 a3 a4 a5 a6).2.2.2.2.1, (bJ (((v76 a2 a4 a0 a1)).length : Int) a2 a3 a4 a5 a6).2.2.2.2.2.1, (bJ (((v76 a2 a4 a0 a1)).length : Int) a2 a3 a4 a5 a6).2.2.2.2.2.2)) (cond (d231 (bJ (((v76 a2 a4 a0 a1)).length : Int) a2 a3 a4 a5 a6).2.2.2.2.1 ((dr x2 a0).2.1.1, (dr x2 a0).2.1.2.1, (dr x2 a0).2.1.2.2.1, (dr x2 a0).2.1.2.2.2.1, (dr x2 a0).2.1.2.2.2.2.1, (dr x2 a0).2.1.2.2.2.2.2.1, ((dr x2 a0).2.1.2.2.2.2.2.2.1, (dr x2 a0).2.1.2.2.2.2.2.2.2.1, (dr x2 a0).2.1.2.2.2.2.2.2.2.2.1, (dr x2 a0).2.1.2.2.2.2.2.2.2.2.2.1, (dr x2 a0).2.1.2.2.2.2.2.2.2.2.2.2.1, (dr x2 a0).2.1.2.2.2.2.2.2.2.2.2.2.2, (dr x2 a0).2.2.2.2), (dr x2 a0).2.2.1)) (cond (xE R (a1, false, x1, (bJ (((v76 a2 a4 a0 a1)).length : Int) a2 a3 a4 a5 a6).2.2.1, (x1, (kF a0 a1 a2 a3 a4 a5 a6), (bJ (((v76 a2 a4 a0 a1)).length : Int) a2 a3 a4 a5 a6).1, (((v76 a2 a4 a0 a1)).length : Int), a0), ((dr x2 a0).1, ((a1).length : Int)), (dr x2 a0).2.2.2.1, (m4 a0 a1 a2 a3 a4 a5 a6 x2), (bJ (((v76 a2 a4 a0 a1)).length : Int) a2 a3 a4 a5 a6).2.2.2.1, (bJ (((v76 a2 a4 a0 a1)).length : Int) a2 a3 a4 a5 a6).2.2.2.2.2.1, (bJ (((v76 a2 a4 a0 a1)).length : Int) a2 a3 a4 a5 a6).2.2.2.2.2.2, ())) (cond (d135 a1) (if ((fM a1) ++ [x1] : List (Ty.T (.int .i64))).length * 8 <= 140737488351232 then (cond (sf R ((fM a1) ++ [x1]) false (dr x2 a0).2.2.2.1 (((dr x2 a0).2.2.2.1).length : Int) 0 (bJ (((v76 a2 a4 a0 a1)).length : Int) a2 a3 a4 a5 a6).2.2.1 (m4 a0 a1 a2 a3 a4 a5 a6 x2) (bJ (((v76 a2 a4 a0 a1)).length : Int) a2 a3 a4 a5 a6).2.2.2.1 (bJ (((v76 a2 a4 a0 a1)).length : Int) a2 a3 a4 a5 a6).2.2.2.2.2.1 ((bJ (((v76 a2 a4 a0 a1)).length : Int) a2 a3 a4 a5 a6).2.2.2.2.2.2 ++ [(x1, (kF a0 a1 a2 a3 a4 a5 a6), (bJ (((v76 a2 a4 a0 a1)).length : Int) a2 a3 a4 a5 a6).1, (((v76 a2 a4 a0 a1)).length : Int), a0, (dr x2 a0).2.2.2.1, ((dr x2 a0).1, ((a1).length : Int)))]) 0) (κ ((dQ R a0 a1 a2 a3 a4 a5 a6 x1 x2).2.1, (dQ R a0 a1 a2 a3 a4 a5 a6 x1 x2).2.2.2.2.2.1, (dQ R a0 a1 a2 a3 a4 a5 a6 x1 x2).2.2.2.2.2.2.2.1, (dQ R a0 a1 a2 a3 a4 a5 a6 x1 x2).2.2.2.2.2.2.1, (dQ R a0 a1 a2 a3 a4 a5 a6 x1 x2).2.2.2.2.2.2.2.2.1, (dQ R a0 a1 a2 a3 a4 a5 a6 x1 x2).2.2.2.2.2.2.2.2.2.1)) (cond (sf R ((fM a1) ++ [x1]) false (dr x2 a0).2.2.2.1 (((dr x2 a0).2.2.2.1).length : Int) 0 (bJ (((v76 a2 a4 a0 a1)).length : Int) a2 a3 a4 a5 a6).2.2.1 (m4 a0 a1 a2 a3 a4 a5 a6 x2) (bJ (((v76 a2 a4 a0 a1)).length : Int) a2 a3 a4 a5 a6).2.2.2.1 (bJ (((v76 a2 a4 a0 a1)).length : Int) a2 a3 a4 a5 a6).2.2.2.2.2.1 ((bJ (((v76 a2 a4 a0 a1)).length : Int) a2 a3 a4 a5 a6).2.2.2.2.2.2 ++ [(x1, (kF a0 a1 a2 a3 a4 a5 a6), (bJ (((v76 a2 a4 a0 a1)).length : Int) a2 a3 a4 a5 a6).1, (((v76 a2 a4 a0 a1)).length : Int), a0, (dr x2 a0).2.2.2.1, ((dr x2 a0).1, ((a1).length : Int)))]) 1) (κ (true, (dQ R a0 a1 a2 a3 a4 a5 a6 x1 x2).2.2.2.2.2.1, (dQ R a0 a1 a2 a3 a4 a5 a6 x1 x2).2.2.2.2.2.2.2.1, (dQ R a0 a1 a2 a3 a4 a5 a6 x1 x2).2.2.2.2.2.2.1, (dQ R a0 a1 a2 a3 a4 a5 a6 x1 x2).2.2.2.2.2.2.2.2.1, (dQ R a0 a1 a2 a3 a4 a5 a6 x1 x2).2.2.2.2.2.2.2.2.2.1)) (none))) else none) (none)) (none)) (none))) (none)) (none))) else none) else none) (none))) else none) else none)) (none))) (none)
def rL (R : bG) (a0 : Ty.T y27) (a1 : List (Ty.T (.int .i64))) (a2 : Ty.T y36) (a3 : List (Ty.T y27)) (a4 : List (Ty.T aa)) (a5 : List (Ty.T (.int .i64))) (a6 : List (Ty.T y66)) : Bool × (Ty.T y36) × (List (Ty.T y27)) × (List (Ty.T aa)) × (List (Ty.T (.int .i64))) × (List (Ty.T y66)) := (kh R a0 a1 a2 a3 a4 a5 a6 some).getD (false, (Ty.zero y36), [], [], [], [])
def rh (R : bG) (a0 : Ty.T y27) (a1 : List (Ty.T (.int .i64))) (a2 : Ty.T y36) (a3 : List (Ty.T y27)) (a4 : List (Ty.T aa)) (a5 : List (Ty.T (.int .i64))) (a6 : List (Ty.T y66)) : Bool := (kh R a0 a1 a2 a3 a4 a5 a6 some).isSome
theorem Rq (R : bG) (h : bw Tryz.prog 140 (gI R)) : bw Tryz.prog 140 (gI (fun a0 a1 a2 a3 a4 a5 a6 => (rh R a0 a1 a2 a3 a4 a5 a6, rL R a0 a1 a2 a3 a4 a5 a6))) := bF (Sp R h).ok ai (aC (by kernel_rfl)) ⟨Tryz.f140, ae Tryz.f140, by kernel_rfl, by kernel_rfl⟩ fun v => Eq.trans (b := (kh R v.1 v.2.1 v.2.2.1 v.2.2.2.1 v.2.2.2.2.1 v.2.2.2.2.2.1 v.2.2.2.2.2.2.1 (sm C9))) (by kernel_rfl) (ar (show kh R v.1 v.2.1 v.2.2.1 v.2.2.2.1 v.2.2.2.2.1 v.2.2.2.2.2.1 v.2.2.2.2.2.2.1 (sm C9) = (kh R v.1 v.2.1 v.2.2.1 v.2.2.2.1 v.2.2.2.2.1 v.2.2.2.2.2.1 v.2.2.2.2.2.2.1 some).bind _ from by unfold kh; simp only [bb]))
def n9 : Nat -> bG
  | 0 => fun _ _ _ _ _ _ _ => (false, (false, ([], [], 0, 0), [], [], [], []))
  | k + 1 => fun a0 a1 a2 a3 a4 a5 a6 => (rh (n9 k) a0 a1 a2 a3 a4 a5 a6, rL (n9 k) a0 a1 a2 a3 a4 a5 a6)
theorem FX : ∀ k, bw Tryz.prog 140 (gI (n9 k))
  | 0 => ⟨aC (by kernel_rfl), ⟨Tryz.f140, Tryz.func140, by kernel_rfl, by kernel_rfl⟩, fun v res fin h => by cases (show (none : Option (AV × Sig)) = some (res, fin) from h)⟩
  | k + 1 => Rq (n9 k) (FX k)
def ov (a0 : Ty.T y27) (a1 : List (Ty.T (.int .i64))) (a2 : Ty.T y36) (a3 : List (Ty.T y27)) (a4 : List (Ty.T aa)) (a5 : List (Ty.T (.int .i64))) (a6 : List (Ty.T y66)) : Bool × (Ty.T y36) × (List (Ty.T y27)) × (List (Ty.T aa)) × (List (Ty.T (.int .i64))) × (List (Ty.T y66)) := (n9 40 a0 a1 a2 a3 a4 a5 a6).2
def CZ (a0 : Ty.T y27) (a1 : List (Ty.T (.int .i64))) (a2 : Ty.T y36) (a3 : List (Ty.T y27)) (a4 : List (Ty.T aa)) (a5 : List (Ty.T (.int .i64))) (a6 : List (Ty.T y66)) : Bool := (n9 40 a0 a1 a2 a3 a4 a5 a6).1
def Yl : Gen := ⟨[false, false, false], [.one (.ptr 4294967296 0), .agg [.dat y27 false], .one (.dat (.sl 3 (.int .i64)) false)], [(4294967296, .box 169 [.dat y36 true, .own 16793600, .own 16797696, .own 16801792, .own 16805888, .fnp 137 [4294967297], .fnc 139 []]), (4294967297, .box 165 [.ptr 4294967296 0]), (16793600, .arr 41 y27 false), (16797696, .arr 109 aa false), (16801792, .arr 3 (.int .i64) false), (16805888, .arr 67 y66 false)], fun v => .br (CZ v.1 v.2.1 v.2.2.1 v.2.2.2.1 v.2.2.2.2.1 v.2.2.2.2.2.1 v.2.2.2.2.2.2.1) (.done (C9 (ov v.1 v.2.1 v.2.2.1 v.2.2.2.1 v.2.2.2.2.1 v.2.2.2.2.2.1 v.2.2.2.2.2.2.1))) .no⟩
theorem SH : bw Tryz.prog 140 Yl := FX 40
def f42 (r : (List (Ty.T y27)) × (List (Ty.T aa)) × (List (Ty.T (.int .i64))) × (List (Ty.T y66))) : AV × Sig := (.agg ([.sl 4096] ++ [.sl 8192] ++ [.sl 12288] ++ [.sl 16384]), [(4096, .arr 41 y27 r.1 false), (8192, .arr 109 aa r.2.1 false), (12288, .arr 3 (.int .i64) r.2.2.1 false), (16384, .arr 67 y66 r.2.2.2 false)])
def E42 := (((((((E0.g SH).p U3).p Pt).p YS).p acg).p PS).p ahz)
def t42 (a0 : Ty.T y36) (a1 : List (Ty.T aa)) (a2 : Ty.T y27) (a3 : List (Ty.T (.int .i64))) {Z : Type} (κ : (List (Ty.T y27)) × (List (Ty.T aa)) × (List (Ty.T (.int .i64))) × (List (Ty.T y66)) -> Option Z) : Option Z := cond (d134 a1) (cond (d135 a3) (cond (d56 a0) (cond (!(v56 a0)) (κ ([], (nT a1), (fM a3), [])) (cond (!(v53 a2)) (κ ([], (nT a1), (fM a3), [])) (cond (d136 a1) (cond (!(NY a1)) (κ ([], (nT a1), (fM a3), [])) (cond (CZ a2 [] a0 [] (nT a1) (fM a3) []) (cond (d141 (ov a2 [] a0 [] (nT a1) (fM a3) []).2.2.2.2.2) (κ ((ov a2 [] a0 [] (nT a1) (fM a3) []).2.2.1, (ov a2 [] a0 [] (nT a1) (fM a3) []).2.2.2.1, (ov a2 [] a0 [] (nT a1) (fM a3) []).2.2.2.2.1, (Ph (ov a2 [] a0 [] (nT a1) (fM a3) []).2.2.2.2.2))) (none)) (none))) (none)))) (none)) (none)) (none)
def v42 (a0 : Ty.T y36) (a1 : List (Ty.T aa)) (a2 : Ty.T y27) (a3 : List (Ty.T (.int .i64))) : (List (Ty.T y27)) × (List (Ty.T aa)) × (List (Ty.T (.int .i64))) × (List (Ty.T y66)) := (t42 a0 a1 a2 a3 some).getD ([], [], [], [])
def d42 (a0 : Ty.T y36) (a1 : List (Ty.T aa)) (a2 : Ty.T y27) (a3 : List (Ty.T (.int .i64))) : Bool := (t42 a0 a1 a2 a3 some).isSome
def p42 : Prim := ⟨[.agg [.dat y36 true], .one (.dat (.sl 109 aa) true), .agg [.dat y27 true], .one (.dat (.sl 3 (.int .i64)) true)], fun v => .br (d42 v.1 v.2.1 v.2.2.1 v.2.2.2.1) (.done (f42 (v42 v.1 v.2.1 v.2.2.1 v.2.2.2.1))) .no⟩
theorem aek : PO 42 p42 := pK E42 fun v => Eq.trans (b := (t42 v.1 v.2.1 v.2.2.1 v.2.2.2.1 (sm f42))) (by kernel_rfl) (ar (show t42 v.1 v.2.1 v.2.2.1 v.2.2.2.1 (sm f42) = (t42 v.1 v.2.1 v.2.2.1 v.2.2.2.1 some).bind _ from by unfold t42; simp only [bb]))
def f58 (r : (List (Ty.T (.int .i64)))) : AV × Sig := (.one (.sl 4096), [(4096, .arr 3 (.int .i64) r false)])
def E58 := E0
@[reducible] def I4 : List SP := U2 (.one (.dat (.sl 3 (.int .i64)) false) :: .one (.own 6) :: U2 (.und :: .one (.dat (.sl 67 y66) true) :: oI :: oI :: U8 (U4 (.und :: []))))
@[reducible] def eG : List (Nat × GP) := [(6, .arr 3 (.int .i64) false)]
@[reducible] def zZ : Type := (List (Ty.T (.int .i64))) × (List (Ty.T y66)) × Int × Int × (List (Ty.T (.int .i64))) × Unit
def wS (v : zZ) {Z : Type} (κ : Nat × zZ -> Option Z) : Option Z := cond (decide (v.2.2.2.1 < v.2.2.1)) (if 0 <= v.2.2.2.1 then (bq ((v.2.1)[(v.2.2.2.1).toNat]?) (fun x1 => cond (decide (x1.2.2.2.1 ≥ (2 : Int))) (if (v.2.2.2.2.1 ++ [x1.2.2.1] : List (Ty.T (.int .i64))).length * 8 <= 140737488351232 then (κ (0, (v.1, v.2.1, v.2.2.1, IntKind.wrap .i64 (v.2.2.2.1 + (1 : Int)), v.2.2.2.2.1 ++ [x1.2.2.1], ()))) else none) (κ (0, (v.1, v.2.1, v.2.2.1, IntKind.wrap .i64 (v.2.2.2.1 + (1 : Int)), v.2.2.2.2.1, ()))))) else none) (κ (1, (v.1, v.2.1, v.2.2.1, v.2.2.2.1, v.2.2.2.2.1, ())))
def x9 (v : zZ) : Option (Nat × zZ) := wS v some
def Fh (v : zZ) : Nat := v.1.length + v.2.1.length + v.2.2.1.toNat + v.2.2.2.1.toNat + v.2.2.2.2.1.length + 100
def KB (h0 : List (Ty.T (.int .i64))) (h1 : List (Ty.T y66)) (h2 : Int) (h3 : Int) (h4 : List (Ty.T (.int .i64))) (c : Nat) : Bool := iK x9 Fh (h0, h1, h2, h3, h4, ()) c
def Pr (h0 : List (Ty.T (.int .i64))) (h1 : List (Ty.T y66)) (h2 : Int) (h3 : Int) (h4 : List (Ty.T (.int .i64))) : zZ := iW x9 Fh (h0, h1, h2, h3, h4, ())
def UE (v : zZ) : aR (Ex × St) := bj x9 (Fh v) v (aB I4 eG) [.exit 0] 0
theorem abx : bg Tryz.prog (aH (pb 4 11) (ae Tryz.f58)) I4 eG UE := au (lt := .none) E58.ok ai (ag.no _) fun n v K => Eq.trans (b := wS v (cM _ _ _ _ _ K)) (by kernel_rfl) (show wS v _ = (wS v some).bind _ from (bC (bI (bO fun x1 => (bC (bI rfl) rfl))) rfl))
def aga := E58.l (g := 58) (t := (bW (pb 4 11) (ae Tryz.f58) .none (.sum I4 eG UE))) (aP Tryz.func58 (ag.put (aC (by kernel_rfl)) (ag.no _) abx))
def u58 (a0 : List (Ty.T y66)) : Option (AV × Sig) := cond (KB [] a0 ((a0).length : Int) 0 [] 0) (some (.one (.sl 4096), [(4096, .arr 3 (.int .i64) (Pr [] a0 ((a0).length : Int) 0 []).2.2.2.2.1 false)])) (none)
def v58 (a0 : List (Ty.T y66)) : (List (Ty.T (.int .i64))) := cond (KB [] a0 ((a0).length : Int) 0 [] 0) ((Pr [] a0 ((a0).length : Int) 0 []).2.2.2.2.1) ([])
def d58 (a0 : List (Ty.T y66)) : Bool := cond (KB [] a0 ((a0).length : Int) 0 [] 0) (true) (false)
theorem o58 (a0 : List (Ty.T y66)) : u58 a0 = cond (d58 a0) (some (f58 (v58 a0))) none := (pC (pS _) (pN _))
def p58 : Prim := ⟨[.one (.dat (.sl 67 y66) true)], fun v => .br (d58 v.1) (.done (f58 (v58 v.1))) .no⟩
theorem aeO : PO 58 p58 := pK aga fun v => Eq.trans (b := u58 v.1) (by kernel_rfl) (o58 v.1)
def f49 (r : Int) : AV × Sig := (.one (.int .i64 r), [])
def E49 := (E0.p aeO)
def u49 (a0 : Ty.T y56) : Option (AV × Sig) := cond (d58 a0.2.2.2) (some (.one (.int .i64 (((v58 a0.2.2.2)).length : Int)), [])) (none)
def v49 (a0 : Ty.T y56) : Int := cond (d58 a0.2.2.2) ((((v58 a0.2.2.2)).length : Int)) (0)
def d49 (a0 : Ty.T y56) : Bool := cond (d58 a0.2.2.2) (true) (false)
theorem o49 (a0 : Ty.T y56) : u49 a0 = cond (d49 a0) (some (f49 (v49 a0))) none := (pC (pS _) (pN _))
def p49 : Prim := ⟨[.agg [.dat y56 true]], fun v => .br (d49 v.1) (.done (f49 (v49 v.1))) .no⟩
theorem adQ : PO 49 p49 := pK E49 fun v => Eq.trans (b := u49 v.1) (by kernel_rfl) (o49 v.1)
def f296 (r : (Ty.T q0) × (List (Ty.T y27))) : AV × Sig := (.agg ((q0.cells false r.1) ++ [.sl 28672]), [(28672, .arr 41 y27 r.2 false)])
def adh := E0
def aa7 (a0 : Ty.T bp) : Option (AV × Sig) := if ([] ++ a0.2.2.2.2.2.2 : List (Ty.T y27)).length * 56 <= 140737488351232 then (some (.agg [.int .i64 a0.1, .int .i64 a0.2.1, .int .i64 a0.2.2.1, .int .i64 a0.2.2.2.1, .int .i64 a0.2.2.2.2.1, .bool a0.2.2.2.2.2.1, .sl 28672], [(28672, .arr 41 y27 ([] ++ a0.2.2.2.2.2.2) false)])) else none
def Ss (a0 : Ty.T bp) : (Ty.T q0) × (List (Ty.T y27)) := ((a0.1, a0.2.1, a0.2.2.1, a0.2.2.2.1, a0.2.2.2.2.1, a0.2.2.2.2.2.1), [] ++ a0.2.2.2.2.2.2)
def d296 (a0 : Ty.T bp) : Bool := decide (([] ++ a0.2.2.2.2.2.2 : List (Ty.T y27)).length * 56 <= 140737488351232) && (true)
theorem ae9 (a0 : Ty.T bp) : aa7 a0 = cond (d296 a0) (some (f296 (Ss a0))) none := (pI (pS _))
def ag5 : Prim := ⟨[.agg [.dat bp true]], fun v => .br (d296 v.1) (.done (f296 (Ss v.1))) .no⟩
theorem Z0 : PO 296 ag5 := pK adh fun v => Eq.trans (b := aa7 v.1) (by kernel_rfl) (ae9 v.1)
def f238 (r : (Ty.T q1) × (Ty.T a9) × (List (Ty.T y27))) : AV × Sig := (.agg ((q1.cells false r.1) ++ [.sl 81920] ++ (a9.cells false r.2.1)), [(81920, .arr 41 y27 r.2.2 false)])
def aia := (E0.p Z0)
def t238 (a0 : Ty.T aa) {Z : Type} (κ : (Ty.T q1) × (Ty.T a9) × (List (Ty.T y27)) -> Option Z) : Option Z := cond (d296 a0.2.2.2.2.2.2.1) (κ ((a0.1, a0.2.1, a0.2.2.1, a0.2.2.2.1, a0.2.2.2.2.1, a0.2.2.2.2.2.1, (Ss a0.2.2.2.2.2.2.1).1), a0.2.2.2.2.2.2.2, (Ss a0.2.2.2.2.2.2.1).2)) (none)
def cN (a0 : Ty.T aa) : (Ty.T q1) × (Ty.T a9) × (List (Ty.T y27)) := (t238 a0 some).getD ((Ty.zero q1), (Ty.zero a9), [])
def d238 (a0 : Ty.T aa) : Bool := (t238 a0 some).isSome
def ahl : Prim := ⟨[.agg [.dat aa true]], fun v => .br (d238 v.1) (.done (f238 (cN v.1))) .no⟩
theorem K8 : PO 238 ahl := pK aia fun v => Eq.trans (b := (t238 v.1 (sm f238))) (by kernel_rfl) (ar (show t238 v.1 (sm f238) = (t238 v.1 some).bind _ from (bC rfl rfl)))
def f154 (r : (List (Ty.T aa))) : AV × Sig := (.one (.sl 4096), [(4096, .arr 109 aa r false)])
def aad := (E0.p K8)
@[reducible] def Cq : List SP := .one (.dat (.sl 109 aa) true) :: .und :: .one (.dat (.sl 109 aa) false) :: .one (.own 5) :: oI :: U16 ([])
@[reducible] def DV : List (Nat × GP) := [(5, .arr 109 aa false)]
@[reducible] def qZ : Type := (List (Ty.T aa)) × (List (Ty.T aa)) × Int × (List (Ty.T aa)) × Unit
def uD (v : qZ) {Z : Type} (κ : Nat × qZ -> Option Z) : Option Z := cond (decide (v.2.2.1 < ((v.1).length : Int))) (if 0 <= v.2.2.1 then (bq ((v.1)[(v.2.2.1).toNat]?) (fun x1 => cond (d238 x1) (if (v.2.2.2.1 ++ [((cN x1).1.1, (cN x1).1.2.1, (cN x1).1.2.2.1, (cN x1).1.2.2.2.1, (cN x1).1.2.2.2.2.1, (cN x1).1.2.2.2.2.2.1, ((cN x1).1.2.2.2.2.2.2.1, (cN x1).1.2.2.2.2.2.2.2.1, (cN x1).1.2.2.2.2.2.2.2.2.1, (cN x1).1.2.2.2.2.2.2.2.2.2.1, (cN x1).1.2.2.2.2.2.2.2.2.2.2.1, (cN x1).1.2.2.2.2.2.2.2.2.2.2.2, (cN x1).2.2), (cN x1).2.1)] : List (Ty.T aa)).length * 192 <= 140737488351232 then (κ (0, (v.1, v.2.1, IntKind.wrap .i64 (v.2.2.1 + (1 : Int)), v.2.2.2.1 ++ [((cN x1).1.1, (cN x1).1.2.1, (cN x1).1.2.2.1, (cN x1).1.2.2.2.1, (cN x1).1.2.2.2.2.1, (cN x1).1.2.2.2.2.2.1, ((cN x1).1.2.2.2.2.2.2.1, (cN x1).1.2.2.2.2.2.2.2.1, (cN x1).1.2.2.2.2.2.2.2.2.1, (cN x1).1.2.2.2.2.2.2.2.2.2.1, (cN x1).1.2.2.2.2.2.2.2.2.2.2.1, (cN x1).1.2.2.2.2.2.2.2.2.2.2.2, (cN x1).2.2), (cN x1).2.1)], ()))) else none) (none))) else none) (κ (1, (v.1, v.2.1, v.2.2.1, v.2.2.2.1, ())))
def sU (v : qZ) : Option (Nat × qZ) := uD v some
def xW (v : qZ) : Nat := v.1.length + v.2.1.length + v.2.2.1.toNat + v.2.2.2.1.length + 100
def CR (h0 : List (Ty.T aa)) (h1 : List (Ty.T aa)) (h2 : Int) (h3 : List (Ty.T aa)) (c : Nat) : Bool := iK sU xW (h0, h1, h2, h3, ()) c
def Js (h0 : List (Ty.T aa)) (h1 : List (Ty.T aa)) (h2 : Int) (h3 : List (Ty.T aa)) : qZ := iW sU xW (h0, h1, h2, h3, ())
def Q6 (v : qZ) : aR (Ex × St) := bj sU (xW v) v (aB Cq DV) [.exit 0] 0
theorem XG : bg Tryz.prog (aH (pb 4 11) (ae Tryz.f154)) Cq DV Q6 := au (lt := .none) aad.ok ai (ag.no _) fun n v K => Eq.trans (b := uD v (cM _ _ _ _ _ K)) (by kernel_rfl) (show uD v _ = (uD v some).bind _ from (bC (bI (bO fun x1 => (bC (bI rfl) rfl))) rfl))
def YI := aad.l (g := 154) (t := (bW (pb 4 11) (ae Tryz.f154) .none (.sum Cq DV Q6))) (aP Tryz.func154 (ag.put (aC (by kernel_rfl)) (ag.no _) XG))
def Zu (a0 : List (Ty.T aa)) : Option (AV × Sig) := cond (CR a0 [] 0 [] 0) (some (.one (.sl 4096), [(4096, .arr 109 aa (Js a0 [] 0 []).2.2.2.1 false)])) (none)
def kT (a0 : List (Ty.T aa)) : (List (Ty.T aa)) := cond (CR a0 [] 0 [] 0) ((Js a0 [] 0 []).2.2.2.1) ([])
def d154 (a0 : List (Ty.T aa)) : Bool := cond (CR a0 [] 0 [] 0) (true) (false)
theorem ahy (a0 : List (Ty.T aa)) : Zu a0 = cond (d154 a0) (some (f154 (kT a0))) none := (pC (pS _) (pN _))
def af0 : Prim := ⟨[.one (.dat (.sl 109 aa) true)], fun v => .br (d154 v.1) (.done (f154 (kT v.1))) .no⟩
theorem Vx : PO 154 af0 := pK YI fun v => Eq.trans (b := Zu v.1) (by kernel_rfl) (ahy v.1)
def f240 (r : Bool) : AV × Sig := (.one (.bool r), [])
def aha := (E0.p nF)
def t240 (a0 : Ty.T y63) {Z : Type} (κ : Bool -> Z) : Z := cond (!(bx a0.1 1 99)) (κ false) (cond (!(bx a0.2.1 0 2)) (κ false) (cond (!(bx a0.2.2.1 0 2)) (κ false) (cond (!(bx a0.2.2.2.1 1 4)) (κ false) (cond (!(bx a0.2.2.2.2.1 0 9999)) (κ false) (cond (!(bx a0.2.2.2.2.2.1 0 999)) (κ false) (cond (!(bx a0.2.2.2.2.2.2.1 0 999)) (κ false) (cond (!(bx a0.2.2.2.2.2.2.2.1 0 63)) (κ false) (cond (!(bx a0.2.2.2.2.2.2.2.2.1 0 2147483647)) (κ false) (cond (!(bx a0.2.2.2.2.2.2.2.2.2.1 0 2147483647)) (κ false) (cond (!(bx a0.2.2.2.2.2.2.2.2.2.2.1 0 2147483647)) (κ false) (cond (a0.2.2.2.1 == (2 : Int)) (κ true) (cond (a0.2.2.1 == a0.2.1) (cond (a0.2.2.2.2.2.2.2.2.1 == (0 : Int)) (cond (a0.2.2.2.2.2.2.2.2.2.1 == (0 : Int)) (cond (a0.2.2.2.2.2.2.2.2.2.2.1 == (0 : Int)) (cond (!a0.2.2.2.2.2.2.2.2.2.2.2.1) (κ (!a0.2.2.2.2.2.2.2.2.2.2.2.2)) (κ false)) (κ false)) (κ false)) (κ false)) (κ false)))))))))))))
def Gd (a0 : Ty.T y63) : Bool := t240 a0 fun r => r
def aev : Prim := ⟨[.agg [.dat y63 true]], fun v => .done (f240 (Gd v.1))⟩
theorem ZU : PO 240 aev := pK aha fun v => Eq.trans (b := (t240 v.1 (sm f240))) (by kernel_rfl) (show t240 v.1 (sm f240) = some (f240 (t240 v.1 fun r => r)) from (tC rfl (tC rfl (tC rfl (tC rfl (tC rfl (tC rfl (tC rfl (tC rfl (tC rfl (tC rfl (tC rfl (tC rfl (tC (tC (tC (tC (tC rfl rfl) rfl) rfl) rfl) rfl))))))))))))))
def f241 (r : Bool) : AV × Sig := (.one (.bool r), [])
def aep := (E0.p nF)
def aag (a0 : Ty.T cy) : Option (AV × Sig) := cond (bx a0.1 (-2147483647) 2147483647) (some (.one (.bool (bx a0.2.1 0 2147483647)), [])) (some (.one (.bool false), []))
def lH (a0 : Ty.T cy) : Bool := cond (bx a0.1 (-2147483647) 2147483647) ((bx a0.2.1 0 2147483647)) (false)
theorem adl (a0 : Ty.T cy) : aag a0 = some (f241 (lH a0)) := (tC rfl rfl)
def ady : Prim := ⟨[.agg [.dat cy true]], fun v => .done (f241 (lH v.1))⟩
theorem Zg : PO 241 ady := pK aep fun v => Eq.trans (b := aag v.1) (by kernel_rfl) (adl v.1)
def f155 (r : Bool) : AV × Sig := (.one (.bool r), [])
def Ww := (((E0.p nF).p ZU).p Zg)
@[reducible] def Dr : List SP := .und :: .one (.ptr 1 0) :: .one (.dat .bool true) :: oI :: U64 (U32 (.und :: []))
@[reducible] def fm : Type := Bool × Int × (Ty.T y36) × Unit
def mq (v : fm) {Z : Type} (κ : Nat × fm -> Option Z) : Option Z := cond (decide (v.2.1 < ((v.2.2.1.1).length : Int))) (if 0 <= v.2.1 then (bq ((v.2.2.1.1)[(v.2.1).toNat]?) (fun x1 => cond (!(Gd x1)) (κ (1, (false, v.2.1, v.2.2.1, ()))) (cond (decide (v.2.1 > (0 : Int))) (if 0 <= (IntKind.wrap .i64 (v.2.1 - (1 : Int))) then (bq ((v.2.2.1.1)[(IntKind.wrap .i64 (v.2.1 - (1 : Int))).toNat]?) (fun x2 => cond (decide (x2.1 ≥ x1.1)) (κ (1, (false, v.2.1, v.2.2.1, ()))) (cond (decide (x1.2.1 ≥ ((v.2.2.1.2.1).length : Int))) (κ (1, (false, v.2.1, v.2.2.1, ()))) (cond (decide (x1.2.2.1 ≥ ((v.2.2.1.2.1).length : Int))) (κ (1, (false, v.2.1, v.2.2.1, ()))) (cond (decide (x1.2.2.2.2.1 > v.2.2.1.2.2.2)) (κ (1, (false, v.2.1, v.2.2.1, ()))) (κ (0, (v.1, IntKind.wrap .i64 (v.2.1 + (1 : Int)), v.2.2.1, ())))))))) else none) (cond (decide (x1.2.1 ≥ ((v.2.2.1.2.1).length : Int))) (κ (1, (false, v.2.1, v.2.2.1, ()))) (cond (decide (x1.2.2.1 ≥ ((v.2.2.1.2.1).length : Int))) (κ (1, (false, v.2.1, v.2.2.1, ()))) (cond (decide (x1.2.2.2.2.1 > v.2.2.1.2.2.2)) (κ (1, (false, v.2.1, v.2.2.1, ()))) (κ (0, (v.1, IntKind.wrap .i64 (v.2.1 + (1 : Int)), v.2.2.1, ()))))))))) else none) (κ (2, (v.1, v.2.1, v.2.2.1, ())))
def ki (v : fm) : Option (Nat × fm) := mq v some
def uy (v : fm) : Nat := v.2.1.toNat + v.2.2.1.1.length + v.2.2.1.2.1.length + 100
def wT (h0 : Bool) (h1 : Int) (h2 : Ty.T y36) (c : Nat) : Bool := iK ki uy (h0, h1, h2, ()) c
def lM (h0 : Bool) (h1 : Int) (h2 : Ty.T y36) : fm := iW ki uy (h0, h1, h2, ())
def Rb (v : fm) : aR (Ex × St) := bj ki (uy v) v (aB Dr lZ) [.ret, .exit 0] 0
theorem XM : bg Tryz.prog (aH (pb 4 11) (ae Tryz.f155)) Dr lZ Rb := au (lt := .none) Ww.ok ai (ag.no _) fun n v K => Eq.trans (b := mq v (cM _ _ _ _ _ K)) (by kernel_rfl) (show mq v _ = (mq v some).bind _ from (bC (bI (bO fun x1 => (bC rfl (bC (bI (bO fun x2 => (bC rfl (bC rfl (bC rfl (bC rfl rfl)))))) (bC rfl (bC rfl (bC rfl rfl))))))) rfl))
@[reducible] def D1 : List SP := .und :: .one (.ptr 1 0) :: .one (.dat .bool true) :: U2 (oI :: U64 (U16 (U8 (U4 (U2 (.und :: []))))))
def ur (v : fm) {Z : Type} (κ : Nat × fm -> Option Z) : Option Z := cond (decide (v.2.1 < ((v.2.2.1.2.1).length : Int))) (if 0 <= v.2.1 then (bq ((v.2.2.1.2.1)[(v.2.1).toNat]?) (fun x3 => cond (!(lH x3)) (κ (1, (false, v.2.1, v.2.2.1, ()))) (κ (0, (v.1, IntKind.wrap .i64 (v.2.1 + (1 : Int)), v.2.2.1, ()))))) else none) (κ (2, (v.1, v.2.1, v.2.2.1, ())))
def tG (v : fm) : Option (Nat × fm) := ur v some
def xL (v : fm) : Nat := v.2.1.toNat + v.2.2.1.1.length + v.2.2.1.2.1.length + 100
def xf (h0 : Bool) (h1 : Int) (h2 : Ty.T y36) (c : Nat) : Bool := iK tG xL (h0, h1, h2, ()) c
def Jl (h0 : Bool) (h1 : Int) (h2 : Ty.T y36) : fm := iW tG xL (h0, h1, h2, ())
def Q0 (v : fm) : aR (Ex × St) := bj tG (xL v) v (aB D1 lZ) [.ret, .exit 2] 0
theorem Yj : bg Tryz.prog (aH (pb 5 23) (ae Tryz.f155)) D1 lZ Q0 := au (lt := .none) Ww.ok ai (ag.no _) fun n v K => Eq.trans (b := ur v (cM _ _ _ _ _ K)) (by kernel_rfl) (show ur v _ = (ur v some).bind _ from (bC (bI (bO fun x3 => (bC rfl rfl))) rfl))
def Zz := Ww.l (g := 155) (t := (bW (pb 5 23) (ae Tryz.f155) (bW (pb 4 11) (ae Tryz.f155) .none (.sum Dr lZ Rb)) (.sum D1 lZ Q0))) (aP Tryz.func155 (ag.put (aC (by kernel_rfl)) (ag.put (aC (by kernel_rfl)) (ag.no _) XM) Yj))
def t155 (a0 : Ty.T y36) {Z : Type} (κ : Bool -> Option Z) : Option Z := cond (decide (((a0.1).length : Int) > (8 : Int))) (κ false) (cond (!(bx ((a0.2.1).length : Int) 2 3)) (κ false) (cond (!(bx a0.2.2.1 0 (IntKind.wrap .i64 (((a0.2.1).length : Int) - (1 : Int))))) (κ false) (cond (!(bx a0.2.2.2 0 9999)) (κ false) (cond (wT false 0 a0 0) (κ (lM false 0 a0).1) (cond (wT false 0 a0 1) (cond (xf (lM false 0 a0).1 0 (lM false 0 a0).2.2.1 0) (κ (Jl (lM false 0 a0).1 0 (lM false 0 a0).2.2.1).1) (cond (xf (lM false 0 a0).1 0 (lM false 0 a0).2.2.1 1) (κ true) (none))) (none))))))
def Jd (a0 : Ty.T y36) : Bool := (t155 a0 some).getD false
def d155 (a0 : Ty.T y36) : Bool := (t155 a0 some).isSome
def aeb : Prim := ⟨[.agg [.dat y36 true]], fun v => .br (d155 v.1) (.done (f155 (Jd v.1))) .no⟩
theorem ZK : PO 155 aeb := pK Zz fun v => Eq.trans (b := (t155 v.1 (sm f155))) (by kernel_rfl) (ar (show t155 v.1 (sm f155) = (t155 v.1 some).bind _ from by unfold t155; simp only [bb]))
def f156 (r : Bool) : AV × Sig := (.one (.bool r), [])
def aah := (E0.p Rh)
@[reducible] def DZ : List SP := .one (.dat (.sl 109 aa) true) :: .und :: .one (.dat .bool true) :: oI :: U32 (.und :: [])
@[reducible] def qP : Type := (List (Ty.T aa)) × Bool × Int × Unit
def lC (v : qP) {Z : Type} (κ : Nat × qP -> Option Z) : Option Z := cond (decide (v.2.2.1 < ((v.1).length : Int))) (if 0 <= v.2.2.1 then (bq ((v.1)[(v.2.2.1).toNat]?) (fun x1 => cond (d242 x1) (cond (!(ek x1)) (κ (1, (v.1, false, v.2.2.1, ()))) (cond (decide (v.2.2.1 > (0 : Int))) (if 0 <= (IntKind.wrap .i64 (v.2.2.1 - (1 : Int))) then (bq ((v.1)[(IntKind.wrap .i64 (v.2.2.1 - (1 : Int))).toNat]?) (fun x2 => if 0 <= v.2.2.1 then (bq ((v.1)[(v.2.2.1).toNat]?) (fun x3 => cond (decide (x2.1 ≥ x3.1)) (κ (1, (v.1, false, v.2.2.1, ()))) (κ (0, (v.1, v.2.1, IntKind.wrap .i64 (v.2.2.1 + (1 : Int)), ()))))) else none)) else none) (κ (0, (v.1, v.2.1, IntKind.wrap .i64 (v.2.2.1 + (1 : Int)), ()))))) (none))) else none) (κ (2, (v.1, v.2.1, v.2.2.1, ())))
def fu (v : qP) : Option (Nat × qP) := lC v some
def tR (v : qP) : Nat := v.1.length + v.2.2.1.toNat + 100
def fP (h0 : List (Ty.T aa)) (h1 : Bool) (h2 : Int) (c : Nat) : Bool := iK fu tR (h0, h1, h2, ()) c
def l5 (h0 : List (Ty.T aa)) (h1 : Bool) (h2 : Int) : qP := iW fu tR (h0, h1, h2, ())
def P8 (v : qP) : aR (Ex × St) := bj fu (tR v) v (aB DZ aG) [.ret, .exit 0] 0
theorem VC : bg Tryz.prog (aH (pb 3 5) (ae Tryz.f156)) DZ aG P8 := au (lt := .none) aah.ok ai (ag.no _) fun n v K => Eq.trans (b := lC v (cM _ _ _ _ _ K)) (by kernel_rfl) (show lC v _ = (lC v some).bind _ from (bC (bI (bO fun x1 => (bC (bC rfl (bC (bI (bO fun x2 => (bI (bO fun x3 => (bC rfl rfl))))) rfl)) rfl))) rfl))
def abq := aah.l (g := 156) (t := (bW (pb 3 5) (ae Tryz.f156) .none (.sum DZ aG P8))) (aP Tryz.func156 (ag.put (aC (by kernel_rfl)) (ag.no _) VC))
def ab1 (a0 : List (Ty.T aa)) : Option (AV × Sig) := cond (fP a0 false 0 0) (some (.one (.bool (l5 a0 false 0).2.1), [])) (cond (fP a0 false 0 1) (some (.one (.bool (decide ((((l5 a0 false 0).1).length : Int) <= (5 : Int)))), [])) (none))
def qL (a0 : List (Ty.T aa)) : Bool := cond (fP a0 false 0 0) ((l5 a0 false 0).2.1) (cond (fP a0 false 0 1) (decide ((((l5 a0 false 0).1).length : Int) <= (5 : Int))) (false))
def d156 (a0 : List (Ty.T aa)) : Bool := cond (fP a0 false 0 0) (true) (cond (fP a0 false 0 1) (true) (false))
theorem aiK (a0 : List (Ty.T aa)) : ab1 a0 = cond (d156 a0) (some (f156 (qL a0))) none := (pC (pS _) (pC (pS _) (pN _)))
def ahP : Prim := ⟨[.one (.dat (.sl 109 aa) true)], fun v => .br (d156 v.1) (.done (f156 (qL v.1))) .no⟩
theorem ab6 : PO 156 ahP := pK abq fun v => Eq.trans (b := ab1 v.1) (by kernel_rfl) (aiK v.1)
def f300 (r : Bool) : AV × Sig := (.one (.bool r), [])
def Zp := E0
@[reducible] def Dq : List SP := .one (.dat (.sl 3 (.int .i64)) true) :: oI :: U2 (.one (.dat .bool true) :: oI :: U8 (U4 ([])))
@[reducible] def qa : Type := (List (Ty.T (.int .i64))) × Int × Bool × Int × Unit
def tJ (v : qa) {Z : Type} (κ : Nat × qa -> Option Z) : Option Z := cond (decide (v.2.2.2.1 < ((v.1).length : Int))) (if 0 <= v.2.2.2.1 then (bq ((v.1)[(v.2.2.2.1).toNat]?) (fun x1 => cond (x1 == v.2.1) (κ (1, (v.1, v.2.1, true, v.2.2.2.1, ()))) (κ (0, (v.1, v.2.1, v.2.2.1, IntKind.wrap .i64 (v.2.2.2.1 + (1 : Int)), ()))))) else none) (κ (2, (v.1, v.2.1, v.2.2.1, v.2.2.2.1, ())))
def sT (v : qa) : Option (Nat × qa) := tJ v some
def wH (v : qa) : Nat := v.1.length + v.2.1.toNat + v.2.2.2.1.toNat + 100
def l7 (h0 : List (Ty.T (.int .i64))) (h1 : Int) (h2 : Bool) (h3 : Int) (c : Nat) : Bool := iK sT wH (h0, h1, h2, h3, ()) c
def Ij (h0 : List (Ty.T (.int .i64))) (h1 : Int) (h2 : Bool) (h3 : Int) : qa := iW sT wH (h0, h1, h2, h3, ())
def OD (v : qa) : aR (Ex × St) := bj sT (wH v) v (aB Dq aG) [.ret, .exit 0] 0
theorem Yy : bg Tryz.prog (aH (pb 3 5) (ae Tryz.f300)) Dq aG OD := au (lt := .none) Zp.ok ai (ag.no _) fun n v K => Eq.trans (b := tJ v (cM _ _ _ _ _ K)) (by kernel_rfl) (show tJ v _ = (tJ v some).bind _ from (bC (bI (bO fun x1 => (bC rfl rfl))) rfl))
def aac := Zp.l (g := 300) (t := (bW (pb 3 5) (ae Tryz.f300) .none (.sum Dq aG OD))) (aP Tryz.func300 (ag.put (aC (by kernel_rfl)) (ag.no _) Yy))
def aa6 (a0 : List (Ty.T (.int .i64))) (a1 : Int) : Option (AV × Sig) := cond (l7 a0 a1 false 0 0) (some (.one (.bool (Ij a0 a1 false 0).2.2.1), [])) (cond (l7 a0 a1 false 0 1) (some (.one (.bool false), [])) (none))
def FE (a0 : List (Ty.T (.int .i64))) (a1 : Int) : Bool := cond (l7 a0 a1 false 0 0) ((Ij a0 a1 false 0).2.2.1) (cond (l7 a0 a1 false 0 1) (false) (false))
def d300 (a0 : List (Ty.T (.int .i64))) (a1 : Int) : Bool := cond (l7 a0 a1 false 0 0) (true) (cond (l7 a0 a1 false 0 1) (true) (false))
theorem adf (a0 : List (Ty.T (.int .i64))) (a1 : Int) : aa6 a0 a1 = cond (d300 a0 a1) (some (f300 (FE a0 a1))) none := (pC (pS _) (pC (pS _) (pN _)))
def aeR : Prim := ⟨[.one (.dat (.sl 3 (.int .i64)) true), oI], fun v => .br (d300 v.1 v.2.1) (.done (f300 (FE v.1 v.2.1))) .no⟩
theorem U0 : PO 300 aeR := pK aac fun v => Eq.trans (b := aa6 v.1 v.2.1) (by kernel_rfl) (adf v.1 v.2.1)
def f243 (r : (List (Ty.T (.int .i64)))) : AV × Sig := (.one (.sl 4096), [(4096, .arr 3 (.int .i64) r false)])
def abc := ((E0.p Vs).p U0)
@[reducible] def D9 : List SP := .und :: .one (.dat (.sl 109 aa) true) :: .und :: .one (.dat (.sl 3 (.int .i64)) true) :: .one (.ptr 4 0) :: .und :: .one (.ptr 6 0) :: .und :: .one (.dat (.sl 3 (.int .i64)) false) :: .one (.own 12) :: oI :: oI :: U32 (U16 (U4 (U2 (.und :: []))))
@[reducible] def CY : List (Nat × GP) := [(4, .box 37 [.dat y36 true]), (6, .box 41 [.dat y27 false]), (12, .arr 3 (.int .i64) false)]
@[reducible] def qf : Type := (List (Ty.T aa)) × (List (Ty.T (.int .i64))) × (List (Ty.T (.int .i64))) × Int × Int × (Ty.T y36) × (Ty.T y27) × (List (Ty.T (.int .i64))) × Unit
def uv (v : qf) {Z : Type} (κ : Nat × qf -> Option Z) : Option Z := cond (decide (v.2.2.2.2.1 < ((v.1).length : Int))) (if 0 <= v.2.2.2.2.1 then (bq ((v.1)[(v.2.2.2.2.1).toNat]?) (fun x1 => cond (d300 v.2.1 x1.1) (cond (FE v.2.1 x1.1) (κ (0, (v.1, v.2.1, v.2.2.1, v.2.2.2.1, IntKind.wrap .i64 (v.2.2.2.2.1 + (1 : Int)), v.2.2.2.2.2.1, v.2.2.2.2.2.2.1, v.2.2.2.2.2.2.2.1, ()))) (if 0 <= v.2.2.2.2.1 then (bq ((v.1)[(v.2.2.2.2.1).toNat]?) (fun x2 => cond (d269 v.2.2.2.2.2.1 x2 v.2.2.2.2.2.2.1) (cond (!(gU v.2.2.2.2.2.1 x2 v.2.2.2.2.2.2.1)) (κ (0, (v.1, v.2.1, v.2.2.1, v.2.2.2.1, IntKind.wrap .i64 (v.2.2.2.2.1 + (1 : Int)), v.2.2.2.2.2.1, v.2.2.2.2.2.2.1, v.2.2.2.2.2.2.2.1, ()))) (if 0 <= v.2.2.2.2.1 then (bq ((v.1)[(v.2.2.2.2.1).toNat]?) (fun x3 => cond (decide (x3.2.2.2.1 > v.2.2.2.1)) (κ (0, (v.1, v.2.1, v.2.2.1, v.2.2.2.1, IntKind.wrap .i64 (v.2.2.2.2.1 + (1 : Int)), v.2.2.2.2.2.1, v.2.2.2.2.2.2.1, v.2.2.2.2.2.2.2.1, ()))) (if 0 <= v.2.2.2.2.1 then (bq ((v.1)[(v.2.2.2.2.1).toNat]?) (fun x4 => cond (decide (x4.2.2.2.1 < v.2.2.2.1)) (if 0 <= v.2.2.2.2.1 then (bq ((v.1)[(v.2.2.2.2.1).toNat]?) (fun x5 => if 0 <= v.2.2.2.2.1 then (bq ((v.1)[(v.2.2.2.2.1).toNat]?) (fun x6 => if ([] ++ [x6.1] : List (Ty.T (.int .i64))).length * 8 <= 140737488351232 then (κ (0, (v.1, v.2.1, v.2.2.1, x5.2.2.2.1, IntKind.wrap .i64 (v.2.2.2.2.1 + (1 : Int)), v.2.2.2.2.2.1, v.2.2.2.2.2.2.1, [] ++ [x6.1], ()))) else none)) else none)) else none) (if 0 <= v.2.2.2.2.1 then (bq ((v.1)[(v.2.2.2.2.1).toNat]?) (fun x7 => if (v.2.2.2.2.2.2.2.1 ++ [x7.1] : List (Ty.T (.int .i64))).length * 8 <= 140737488351232 then (κ (0, (v.1, v.2.1, v.2.2.1, v.2.2.2.1, IntKind.wrap .i64 (v.2.2.2.2.1 + (1 : Int)), v.2.2.2.2.2.1, v.2.2.2.2.2.2.1, v.2.2.2.2.2.2.2.1 ++ [x7.1], ()))) else none)) else none))) else none))) else none)) (none))) else none)) (none))) else none) (κ (1, (v.1, v.2.1, v.2.2.1, v.2.2.2.1, v.2.2.2.2.1, v.2.2.2.2.2.1, v.2.2.2.2.2.2.1, v.2.2.2.2.2.2.2.1, ())))
def vd (v : qf) : Option (Nat × qf) := uv v some
def wU (v : qf) : Nat := v.1.length + v.2.1.length + v.2.2.1.length + v.2.2.2.1.toNat + v.2.2.2.2.1.toNat + v.2.2.2.2.2.1.1.length + v.2.2.2.2.2.1.2.1.length + v.2.2.2.2.2.2.2.1.length + 100
def D2 (h0 : List (Ty.T aa)) (h1 : List (Ty.T (.int .i64))) (h2 : List (Ty.T (.int .i64))) (h3 : Int) (h4 : Int) (h5 : Ty.T y36) (h6 : Ty.T y27) (h7 : List (Ty.T (.int .i64))) (c : Nat) : Bool := iK vd wU (h0, h1, h2, h3, h4, h5, h6, h7, ()) c
def IQ (h0 : List (Ty.T aa)) (h1 : List (Ty.T (.int .i64))) (h2 : List (Ty.T (.int .i64))) (h3 : Int) (h4 : Int) (h5 : Ty.T y36) (h6 : Ty.T y27) (h7 : List (Ty.T (.int .i64))) : qf := iW vd wU (h0, h1, h2, h3, h4, h5, h6, h7, ())
def QB (v : qf) : aR (Ex × St) := bj vd (wU v) v (aB D9 CY) [.exit 0] 0
theorem XQ : bg Tryz.prog (aH (pb 5 23) (ae Tryz.f243)) D9 CY QB := au (lt := .none) abc.ok ai (ag.no _) fun n v K => Eq.trans (b := uv v (cM _ _ _ _ _ K)) (by kernel_rfl) (show uv v _ = (uv v some).bind _ from (bC (bI (bO fun x1 => (bC (bC rfl (bI (bO fun x2 => (bC (bC rfl (bI (bO fun x3 => (bC rfl (bI (bO fun x4 => (bC (bI (bO fun x5 => (bI (bO fun x6 => (bI rfl))))) (bI (bO fun x7 => (bI rfl)))))))))) rfl)))) rfl))) rfl))
def Zm := abc.l (g := 243) (t := (bW (pb 5 23) (ae Tryz.f243) .none (.sum D9 CY QB))) (aP Tryz.func243 (ag.put (aC (by kernel_rfl)) (ag.no _) XQ))
def Zy (a0 : Ty.T y36) (a1 : List (Ty.T aa)) (a2 : Ty.T y27) (a3 : List (Ty.T (.int .i64))) : Option (AV × Sig) := cond (D2 a1 a3 [] 5 0 a0 a2 [] 0) (some (.one (.sl 4096), [(4096, .arr 3 (.int .i64) (IQ a1 a3 [] 5 0 a0 a2 []).2.2.2.2.2.2.2.1 false)])) (none)
def dS (a0 : Ty.T y36) (a1 : List (Ty.T aa)) (a2 : Ty.T y27) (a3 : List (Ty.T (.int .i64))) : (List (Ty.T (.int .i64))) := cond (D2 a1 a3 [] 5 0 a0 a2 [] 0) ((IQ a1 a3 [] 5 0 a0 a2 []).2.2.2.2.2.2.2.1) ([])
def d243 (a0 : Ty.T y36) (a1 : List (Ty.T aa)) (a2 : Ty.T y27) (a3 : List (Ty.T (.int .i64))) : Bool := cond (D2 a1 a3 [] 5 0 a0 a2 [] 0) (true) (false)
theorem afO (a0 : Ty.T y36) (a1 : List (Ty.T aa)) (a2 : Ty.T y27) (a3 : List (Ty.T (.int .i64))) : Zy a0 a1 a2 a3 = cond (d243 a0 a1 a2 a3) (some (f243 (dS a0 a1 a2 a3))) none := (pC (pS _) (pN _))
def aiA : Prim := ⟨[.agg [.dat y36 true], .one (.dat (.sl 109 aa) true), .agg [.dat y27 true], .one (.dat (.sl 3 (.int .i64)) true)], fun v => .br (d243 v.1 v.2.1 v.2.2.1 v.2.2.2.1) (.done (f243 (dS v.1 v.2.1 v.2.2.1 v.2.2.2.1))) .no⟩
theorem aau : PO 243 aiA := pK Zm fun v => Eq.trans (b := Zy v.1 v.2.1 v.2.2.1 v.2.2.2.1) (by kernel_rfl) (afO v.1 v.2.1 v.2.2.1 v.2.2.2.1)
def f244 (r : Bool) : AV × Sig := (.one (.bool r), [])
def agO := E0
def Z5 (a0 : Ty.T y27) : Option (AV × Sig) := cond (a0.2.2.2.2.1 == (0 : Int)) (some (.one (.bool (a0.1 != (2 : Int))), [])) (some (.one (.bool false), []))
def rJ (a0 : Ty.T y27) : Bool := cond (a0.2.2.2.2.1 == (0 : Int)) ((a0.1 != (2 : Int))) (false)
theorem ade (a0 : Ty.T y27) : Z5 a0 = some (f244 (rJ a0)) := (tC rfl rfl)
def af4 : Prim := ⟨[.agg [.dat y27 true]], fun v => .done (f244 (rJ v.1))⟩
theorem U5 : PO 244 af4 := pK agO fun v => Eq.trans (b := Z5 v.1) (by kernel_rfl) (ade v.1)
def f245 (r : Int × (List (Ty.T (.int .i64)))) : AV × Sig := (.tup [(false, ([.int .i64 r.1])), (false, ([.sl 8192]))], [(8192, .arr 3 (.int .i64) r.2 false)])
def ad3 := E0
def t245 (a0 : List (Ty.T (.int .i64))) (a1 : Int) {Z : Type} (κ : Int × (List (Ty.T (.int .i64))) -> Option Z) : Option Z := cond (decide (a1 < (2 : Int))) (if ([] ++ a0 : List (Ty.T (.int .i64))).length * 8 <= 140737488351232 then (κ (0, [] ++ a0)) else none) (cond (((a0).length : Int) == (0 : Int)) (if ([] ++ a0 : List (Ty.T (.int .i64))).length * 8 <= 140737488351232 then (κ (0, [] ++ a0)) else none) (bq ((a0)[0]?) (fun x1 => if a1 = 0 then none else (cond (decide ((Int.tmod x1 a1) < (0 : Int))) (if (1 : Int) <= ((a0).length : Int) then (if ([] ++ ((a0.take ((a0).length)).drop 1) : List (Ty.T (.int .i64))).length * 8 <= 140737488351232 then (κ (IntKind.wrap .i64 ((Int.tmod x1 a1) + a1), [] ++ ((a0.take ((a0).length)).drop 1))) else none) else none) (if (1 : Int) <= ((a0).length : Int) then (if ([] ++ ((a0.take ((a0).length)).drop 1) : List (Ty.T (.int .i64))).length * 8 <= 140737488351232 then (κ (Int.tmod x1 a1, [] ++ ((a0.take ((a0).length)).drop 1))) else none) else none)))))
def gT (a0 : List (Ty.T (.int .i64))) (a1 : Int) : Int × (List (Ty.T (.int .i64))) := (t245 a0 a1 some).getD (0, [])
def d245 (a0 : List (Ty.T (.int .i64))) (a1 : Int) : Bool := (t245 a0 a1 some).isSome
def af2 : Prim := ⟨[.one (.dat (.sl 3 (.int .i64)) true), oI], fun v => .br (d245 v.1 v.2.1) (.done (f245 (gT v.1 v.2.1))) .no⟩
theorem acz : PO 245 af2 := pK ad3 fun v => Eq.trans (b := (t245 v.1 v.2.1 (sm f245))) (by kernel_rfl) (ar (show t245 v.1 v.2.1 (sm f245) = (t245 v.1 v.2.1 some).bind _ from by unfold t245; simp only [bb]))
def f246 (r : Int) : AV × Sig := (.one (.int .i64 r), [])
def ZQ := E0
@[reducible] def Dy : List SP := .one (.dat (.sl 109 aa) true) :: oI :: U2 (oI :: oI :: U8 (U4 (U2 ([]))))
@[reducible] def e4 : Type := (List (Ty.T aa)) × Int × Int × Int × Unit
def tL (v : e4) {Z : Type} (κ : Nat × e4 -> Option Z) : Option Z := cond (decide (v.2.2.2.1 < ((v.1).length : Int))) (if 0 <= v.2.2.2.1 then (bq ((v.1)[(v.2.2.2.1).toNat]?) (fun x1 => cond (x1.1 == v.2.1) (κ (1, (v.1, v.2.1, v.2.2.2.1, v.2.2.2.1, ()))) (κ (0, (v.1, v.2.1, v.2.2.1, IntKind.wrap .i64 (v.2.2.2.1 + (1 : Int)), ()))))) else none) (κ (2, (v.1, v.2.1, v.2.2.1, v.2.2.2.1, ())))
def tW (v : e4) : Option (Nat × e4) := tL v some
def xP (v : e4) : Nat := v.1.length + v.2.1.toNat + v.2.2.1.toNat + v.2.2.2.1.toNat + 100
def lA (h0 : List (Ty.T aa)) (h1 : Int) (h2 : Int) (h3 : Int) (c : Nat) : Bool := iK tW xP (h0, h1, h2, h3, ()) c
def J4 (h0 : List (Ty.T aa)) (h1 : Int) (h2 : Int) (h3 : Int) : e4 := iW tW xP (h0, h1, h2, h3, ())
def O5 (v : e4) : aR (Ex × St) := bj tW (xP v) v (aB Dy aG) [.ret, .exit 0] 0
theorem Ws : bg Tryz.prog (aH (pb 3 5) (ae Tryz.f246)) Dy aG O5 := au (lt := .none) ZQ.ok ai (ag.no _) fun n v K => Eq.trans (b := tL v (cM _ _ _ _ _ K)) (by kernel_rfl) (show tL v _ = (tL v some).bind _ from (bC (bI (bO fun x1 => (bC rfl rfl))) rfl))
def abj := ZQ.l (g := 246) (t := (bW (pb 3 5) (ae Tryz.f246) .none (.sum Dy aG O5))) (aP Tryz.func246 (ag.put (aC (by kernel_rfl)) (ag.no _) Ws))
def aaI (a0 : List (Ty.T aa)) (a1 : Int) : Option (AV × Sig) := cond (lA a0 a1 0 0 0) (some (.one (.int .i64 (J4 a0 a1 0 0).2.2.1), [])) (cond (lA a0 a1 0 0 1) (some (.one (.int .i64 (-1)), [])) (none))
def mj (a0 : List (Ty.T aa)) (a1 : Int) : Int := cond (lA a0 a1 0 0 0) ((J4 a0 a1 0 0).2.2.1) (cond (lA a0 a1 0 0 1) ((-1)) (0))
def d246 (a0 : List (Ty.T aa)) (a1 : Int) : Bool := cond (lA a0 a1 0 0 0) (true) (cond (lA a0 a1 0 0 1) (true) (false))
theorem aii (a0 : List (Ty.T aa)) (a1 : Int) : aaI a0 a1 = cond (d246 a0 a1) (some (f246 (mj a0 a1))) none := (pC (pS _) (pC (pS _) (pN _)))
def agk : Prim := ⟨[.one (.dat (.sl 109 aa) true), oI], fun v => .br (d246 v.1 v.2.1) (.done (f246 (mj v.1 v.2.1))) .no⟩
theorem UF : PO 246 agk := pK abj fun v => Eq.trans (b := aaI v.1 v.2.1) (by kernel_rfl) (aii v.1 v.2.1)
def f148 (r : Int) : AV × Sig := (.one (.int .i64 r), [])
def adq := E0
def ZT (a0 : Int) (a1 : Int) : Option (AV × Sig) := cond (decide (a1 < a0)) (cond (decide (a1 < (0 : Int))) (some (.one (.int .i64 0), [])) (some (.one (.int .i64 a1), []))) (cond (decide (a0 < (0 : Int))) (some (.one (.int .i64 0), [])) (some (.one (.int .i64 a0), [])))
def ey (a0 : Int) (a1 : Int) : Int := cond (decide (a1 < a0)) (cond (decide (a1 < (0 : Int))) (0) (a1)) (cond (decide (a0 < (0 : Int))) (0) (a0))
theorem adt (a0 : Int) (a1 : Int) : ZT a0 a1 = some (f148 (ey a0 a1)) := (tC (tC rfl rfl) (tC rfl rfl))
def agr : Prim := ⟨[oI, oI], fun v => .done (f148 (ey v.1 v.2.1))⟩
theorem Au : PO 148 agr := pK adq fun v => Eq.trans (b := ZT v.1 v.2.1) (by kernel_rfl) (adt v.1 v.2.1)
def f272 (r : (Ty.T y27)) : AV × Sig := (.agg (y27.cells false r), [])
def ahY := (E0.p Au)
def ac8 (a0 : Ty.T y27) (a1 : Int) : Option (AV × Sig) := some (.agg [.int .i64 a0.1, .int .i64 a0.2.1, .int .i64 a0.2.2.1, .int .i64 a0.2.2.2.1, .int .i64 (ey a1 2147483647), .int .i64 a0.2.2.2.2.2.1, .bool a0.2.2.2.2.2.2], [])
def DJ (a0 : Ty.T y27) (a1 : Int) : (Ty.T y27) := (a0.1, a0.2.1, a0.2.2.1, a0.2.2.2.1, (ey a1 2147483647), a0.2.2.2.2.2)
theorem aic (a0 : Ty.T y27) (a1 : Int) : ac8 a0 a1 = some (f272 (DJ a0 a1)) := rfl
def afc : Prim := ⟨[.agg [.dat y27 true], oI], fun v => .done (f272 (DJ v.1 v.2.1))⟩
theorem UG : PO 272 afc := pK ahY fun v => Eq.trans (b := ac8 v.1 v.2.1) (by kernel_rfl) (aic v.1 v.2.1)
def f273 (r : (List (Ty.T y27))) : AV × Sig := (.one (.sl 4096), [(4096, .arr 41 y27 r false)])
def ac0 := (E0.p Au)
@[reducible] def CH : List SP := U2 (.one (.ptr 2 0) :: .one (.ptr 3 0) :: .one (.dat (.sl 41 y27) false) :: .one (.own 8) :: oI :: U16 (U8 (U4 (U2 (.und :: [])))))
@[reducible] def DQ : List (Nat × GP) := [(2, .box 107 [.dat bp true]), (3, .box 41 [.dat y27 false]), (8, .arr 41 y27 false)]
@[reducible] def p8 : Type := (List (Ty.T y27)) × Int × (Ty.T bp) × (Ty.T y27) × (List (Ty.T y27)) × Unit
def pP (v : p8) {Z : Type} (κ : Nat × p8 -> Option Z) : Option Z := cond (decide (v.2.1 < ((v.2.2.1.2.2.2.2.2.2).length : Int))) (cond (v.2.2.1.1 == (9 : Int)) (if 0 <= v.2.1 then (bq ((v.2.2.1.2.2.2.2.2.2)[(v.2.1).toNat]?) (fun x1 => cond (x1.2.2.2.2.1 == (-1 : Int)) (if (v.2.2.2.2.1 ++ [(x1.1, x1.2.1, x1.2.2.1, x1.2.2.2.1, (ey v.2.2.2.1.2.2.2.2.1 2147483647), x1.2.2.2.2.2)] : List (Ty.T y27)).length * 56 <= 140737488351232 then (κ (0, (v.1, IntKind.wrap .i64 (v.2.1 + (1 : Int)), v.2.2.1, v.2.2.2.1, v.2.2.2.2.1 ++ [(x1.1, x1.2.1, x1.2.2.1, x1.2.2.2.1, (ey v.2.2.2.1.2.2.2.2.1 2147483647), x1.2.2.2.2.2)], ()))) else none) (if (v.2.2.2.2.1 ++ [x1] : List (Ty.T y27)).length * 56 <= 140737488351232 then (κ (0, (v.1, IntKind.wrap .i64 (v.2.1 + (1 : Int)), v.2.2.1, v.2.2.2.1, v.2.2.2.2.1 ++ [x1], ()))) else none))) else none) (κ (1, (v.1, v.2.1, v.2.2.1, v.2.2.2.1, v.2.2.2.2.1, ())))) (κ (1, (v.1, v.2.1, v.2.2.1, v.2.2.2.1, v.2.2.2.2.1, ())))
def l8 (v : p8) : Option (Nat × p8) := pP v some
def lB (v : p8) : Nat := v.1.length + v.2.1.toNat + v.2.2.1.2.2.2.2.2.2.length + v.2.2.2.2.1.length + 100
def w6 (h0 : List (Ty.T y27)) (h1 : Int) (h2 : Ty.T bp) (h3 : Ty.T y27) (h4 : List (Ty.T y27)) (c : Nat) : Bool := iK l8 lB (h0, h1, h2, h3, h4, ()) c
def Ec (h0 : List (Ty.T y27)) (h1 : Int) (h2 : Ty.T bp) (h3 : Ty.T y27) (h4 : List (Ty.T y27)) : p8 := iW l8 lB (h0, h1, h2, h3, h4, ())
def NL (v : p8) : aR (Ex × St) := bj l8 (lB v) v (aB CH DQ) [.exit 0] 0
theorem WL : bg Tryz.prog (aH (pb 4 11) (ae Tryz.f273)) CH DQ NL := au (lt := .none) ac0.ok ai (ag.no _) fun n v K => Eq.trans (b := pP v (cM _ _ _ _ _ K)) (by kernel_rfl) (show pP v _ = (pP v some).bind _ from (bC (bC (bI (bO fun x1 => (bC (bI rfl) (bI rfl)))) rfl) rfl))
def aby := ac0.l (g := 273) (t := (bW (pb 4 11) (ae Tryz.f273) .none (.sum CH DQ NL))) (aP Tryz.func273 (ag.put (aC (by kernel_rfl)) (ag.no _) WL))
def ab5 (a0 : Ty.T bp) (a1 : Ty.T y27) : Option (AV × Sig) := cond (w6 [] 0 a0 a1 [] 0) (some (.one (.sl 4096), [(4096, .arr 41 y27 (Ec [] 0 a0 a1 []).2.2.2.2.1 false)])) (none)
def Ei (a0 : Ty.T bp) (a1 : Ty.T y27) : (List (Ty.T y27)) := cond (w6 [] 0 a0 a1 [] 0) ((Ec [] 0 a0 a1 []).2.2.2.2.1) ([])
def d273 (a0 : Ty.T bp) (a1 : Ty.T y27) : Bool := cond (w6 [] 0 a0 a1 [] 0) (true) (false)
theorem agx (a0 : Ty.T bp) (a1 : Ty.T y27) : ab5 a0 a1 = cond (d273 a0 a1) (some (f273 (Ei a0 a1))) none := (pC (pS _) (pN _))
def adg : Prim := ⟨[.agg [.dat bp true], .agg [.dat y27 true]], fun v => .br (d273 v.1 v.2.1) (.done (f273 (Ei v.1 v.2.1))) .no⟩
theorem aaY : PO 273 adg := pK aby fun v => Eq.trans (b := ab5 v.1 v.2.1) (by kernel_rfl) (agx v.1 v.2.1)
def f280 (r : Int) : AV × Sig := (.one (.int .i64 r), [])
def adB := E0
def acb (a0 : Int) : Option (AV × Sig) := cond (decide (a0 > (2147483647 : Int))) (some (.one (.int .i64 2147483647), [])) (cond (decide (a0 < (-2147483647 : Int))) (some (.one (.int .i64 (-2147483647)), [])) (some (.one (.int .i64 a0), [])))
def fF (a0 : Int) : Int := cond (decide (a0 > (2147483647 : Int))) (2147483647) (cond (decide (a0 < (-2147483647 : Int))) ((-2147483647)) (a0))
theorem aeW (a0 : Int) : acb a0 = some (f280 (fF a0)) := (tC rfl (tC rfl rfl))
def af3 : Prim := ⟨[oI], fun v => .done (f280 (fF v.1))⟩
theorem KQ : PO 280 af3 := pK adB fun v => Eq.trans (b := acb v.1) (by kernel_rfl) (aeW v.1)
def f222 (r : Int) : AV × Sig := (.one (.int .i64 r), [])
def aed := (E0.p KQ)
def abo (a0 : Int) (a1 : Int) : Option (AV × Sig) := some (.one (.int .i64 (fF (IntKind.wrap .i64 ((fF a0) + (fF a1))))), [])
def Md (a0 : Int) (a1 : Int) : Int := (fF (IntKind.wrap .i64 ((fF a0) + (fF a1))))
theorem afQ (a0 : Int) (a1 : Int) : abo a0 a1 = some (f222 (Md a0 a1)) := rfl
def adm : Prim := ⟨[oI, oI], fun v => .done (f222 (Md v.1 v.2.1))⟩
theorem aa1 : PO 222 adm := pK aed fun v => Eq.trans (b := abo v.1 v.2.1) (by kernel_rfl) (afQ v.1 v.2.1)
def f335 (r : Int) : AV × Sig := (.one (.int .i64 r), [])
def afn := (E0.p KQ)
def ZA (a0 : Int) : Option (AV × Sig) := some (.one (.int .i64 (fF (IntKind.wrap .i64 ((2 : Int) * (fF a0))))), [])
def Ma (a0 : Int) : Int := (fF (IntKind.wrap .i64 ((2 : Int) * (fF a0))))
theorem aes (a0 : Int) : ZA a0 = some (f335 (Ma a0)) := rfl
def ahB : Prim := ⟨[oI], fun v => .done (f335 (Ma v.1))⟩
theorem abt : PO 335 ahB := pK afn fun v => Eq.trans (b := ZA v.1) (by kernel_rfl) (aes v.1)
def f336 (r : Int) : AV × Sig := (.one (.int .i64 r), [])
def adH := (E0.p KQ)
def YX (a0 : Int) : Option (AV × Sig) := some (.one (.int .i64 (IntKind.wrap .i64 ((fF a0).tdiv (2 : Int)))), [])
def LU (a0 : Int) : Int := IntKind.wrap .i64 ((fF a0).tdiv (2 : Int))
theorem aiz (a0 : Int) : YX a0 = some (f336 (LU a0)) := rfl
def adO : Prim := ⟨[oI], fun v => .done (f336 (LU v.1))⟩
theorem aam : PO 336 adO := pK adH fun v => Eq.trans (b := YX v.1) (by kernel_rfl) (aiz v.1)
def f313 (r : Int) : AV × Sig := (.one (.int .i64 r), [])
def afZ := ((((E0.p Au).p aa1).p abt).p aam)
def Zw (a0 : Ty.T bp) (a1 : Int) : Option (AV × Sig) := cond (a0.1 == (1 : Int)) (some (.one (.int .i64 0), [])) (cond (a0.1 == (3 : Int)) (some (.one (.int .i64 (Md (ey a1 2147483647) a0.2.1)), [])) (cond (a0.1 == (4 : Int)) (some (.one (.int .i64 (Ma (ey a1 2147483647))), [])) (cond (a0.1 == (5 : Int)) (some (.one (.int .i64 (LU (ey a1 2147483647))), [])) (some (.one (.int .i64 (ey a1 2147483647)), [])))))
def Ju (a0 : Ty.T bp) (a1 : Int) : Int := cond (a0.1 == (1 : Int)) (0) (cond (a0.1 == (3 : Int)) ((Md (ey a1 2147483647) a0.2.1)) (cond (a0.1 == (4 : Int)) ((Ma (ey a1 2147483647))) (cond (a0.1 == (5 : Int)) ((LU (ey a1 2147483647))) ((ey a1 2147483647)))))
theorem ahg (a0 : Ty.T bp) (a1 : Int) : Zw a0 a1 = some (f313 (Ju a0 a1)) := (tC rfl (tC rfl (tC rfl (tC rfl rfl))))
def ahi : Prim := ⟨[.agg [.dat bp true], oI], fun v => .done (f313 (Ju v.1 v.2.1))⟩
theorem YV : PO 313 ahi := pK afZ fun v => Eq.trans (b := Zw v.1 v.2.1) (by kernel_rfl) (ahg v.1 v.2.1)
def f274 (r : (Ty.T y27)) : AV × Sig := (.agg (y27.cells false r), [])
def aeN := (((E0.p Au).p UG).p YV)
def t274 (a0 : Ty.T bp) (a1 : Ty.T y27) {Z : Type} (κ : (Ty.T y27) -> Z) : Z := cond (a0.1 == (3 : Int)) (cond (a0.1 == (3 : Int)) (κ (DJ a1 (Ju a0 a1.2.2.2.2.1))) (cond (a0.1 == (6 : Int)) (κ (a1.1, a1.2.1, a0.2.2.1, a0.2.2.2.1, a1.2.2.2.2)) (cond (a0.1 == (7 : Int)) (cond (a0.2.2.2.2.1 != (2 : Int)) (κ (a1.1, a1.2.1, a1.2.2.1, a1.2.2.2.1, 0, a0.2.2.2.2.1, false)) (κ (a1.1, a1.2.1, a1.2.2.1, a1.2.2.2.1, a1.2.2.2.2.1, a0.2.2.2.2.1, a1.2.2.2.2.2.2))) (cond (a0.1 == (8 : Int)) (cond (a1.2.2.2.2.2.1 == (2 : Int)) (cond a1.2.2.2.2.2.2 (κ (a1.1, a1.2.1, a1.2.2.1, a1.2.2.2.1, (ey (IntKind.wrap .i64 (a1.2.2.2.2.1 + a0.2.1)) 99), a1.2.2.2.2.2.1, true)) (κ (a1.1, a1.2.1, a1.2.2.1, a1.2.2.2.1, (ey (IntKind.wrap .i64 (a1.2.2.2.2.1 + a0.2.1)) 99), a1.2.2.2.2.2.1, a0.2.2.2.2.2.1))) (κ a1)) (κ a1))))) (cond (a0.1 == (4 : Int)) (cond (a0.1 == (4 : Int)) (κ (DJ a1 (Ju a0 a1.2.2.2.2.1))) (cond (a0.1 == (6 : Int)) (κ (a1.1, a1.2.1, a0.2.2.1, a0.2.2.2.1, a1.2.2.2.2)) (cond (a0.1 == (7 : Int)) (cond (a0.2.2.2.2.1 != (2 : Int)) (κ (a1.1, a1.2.1, a1.2.2.1, a1.2.2.2.1, 0, a0.2.2.2.2.1, false)) (κ (a1.1, a1.2.1, a1.2.2.1, a1.2.2.2.1, a1.2.2.2.2.1, a0.2.2.2.2.1, a1.2.2.2.2.2.2))) (cond (a0.1 == (8 : Int)) (cond (a1.2.2.2.2.2.1 == (2 : Int)) (cond a1.2.2.2.2.2.2 (κ (a1.1, a1.2.1, a1.2.2.1, a1.2.2.2.1, (ey (IntKind.wrap .i64 (a1.2.2.2.2.1 + a0.2.1)) 99), a1.2.2.2.2.2.1, true)) (κ (a1.1, a1.2.1, a1.2.2.1, a1.2.2.2.1, (ey (IntKind.wrap .i64 (a1.2.2.2.2.1 + a0.2.1)) 99), a1.2.2.2.2.2.1, a0.2.2.2.2.2.1))) (κ a1)) (κ a1))))) (cond (a0.1 == (5 : Int)) (κ (DJ a1 (Ju a0 a1.2.2.2.2.1))) (cond (a0.1 == (6 : Int)) (κ (a1.1, a1.2.1, a0.2.2.1, a0.2.2.2.1, a1.2.2.2.2)) (cond (a0.1 == (7 : Int)) (cond (a0.2.2.2.2.1 != (2 : Int)) (κ (a1.1, a1.2.1, a1.2.2.1, a1.2.2.2.1, 0, a0.2.2.2.2.1, false)) (κ (a1.1, a1.2.1, a1.2.2.1, a1.2.2.2.1, a1.2.2.2.2.1, a0.2.2.2.2.1, a1.2.2.2.2.2.2))) (cond (a0.1 == (8 : Int)) (cond (a1.2.2.2.2.2.1 == (2 : Int)) (cond a1.2.2.2.2.2.2 (κ (a1.1, a1.2.1, a1.2.2.1, a1.2.2.2.1, (ey (IntKind.wrap .i64 (a1.2.2.2.2.1 + a0.2.1)) 99), a1.2.2.2.2.2.1, true)) (κ (a1.1, a1.2.1, a1.2.2.1, a1.2.2.2.1, (ey (IntKind.wrap .i64 (a1.2.2.2.2.1 + a0.2.1)) 99), a1.2.2.2.2.2.1, a0.2.2.2.2.2.1))) (κ a1)) (κ a1))))))
def th (a0 : Ty.T bp) (a1 : Ty.T y27) : (Ty.T y27) := t274 a0 a1 fun r => r
def adr : Prim := ⟨[.agg [.dat bp true], .agg [.dat y27 true]], fun v => .done (f274 (th v.1 v.2.1))⟩
theorem acf : PO 274 adr := pK aeN fun v => Eq.trans (b := (t274 v.1 v.2.1 (sm f274))) (by kernel_rfl) (show t274 v.1 v.2.1 (sm f274) = some (f274 (t274 v.1 v.2.1 fun r => r)) from (tC (tC rfl (tC rfl (tC (tC rfl rfl) (tC (tC (tC rfl rfl) rfl) rfl)))) (tC (tC rfl (tC rfl (tC (tC rfl rfl) (tC (tC (tC rfl rfl) rfl) rfl)))) (tC rfl (tC rfl (tC (tC rfl rfl) (tC (tC (tC rfl rfl) rfl) rfl)))))))
def f221 (r : Int) : AV × Sig := (.one (.int .i64 r), [])
def ahS := (E0.p KQ)
def abf (a0 : Int) (a1 : Int) : Option (AV × Sig) := some (.one (.int .i64 (fF (IntKind.wrap .i64 ((fF a0) - (fF a1))))), [])
def Am (a0 : Int) (a1 : Int) : Int := (fF (IntKind.wrap .i64 ((fF a0) - (fF a1))))
theorem ahr (a0 : Int) (a1 : Int) : abf a0 a1 = some (f221 (Am a0 a1)) := rfl
def aiF : Prim := ⟨[oI, oI], fun v => .done (f221 (Am v.1 v.2.1))⟩
theorem acC : PO 221 aiF := pK ahS fun v => Eq.trans (b := abf v.1 v.2.1) (by kernel_rfl) (ahr v.1 v.2.1)
def f275 (r : (Ty.T q1) × (Ty.T a9) × (List (Ty.T y27))) : AV × Sig := (.agg ((q1.cells false r.1) ++ [.sl 81920] ++ (a9.cells false r.2.1)), [(81920, .arr 41 y27 r.2.2 false)])
def ag6 := (((E0.p Au).p acC).p K8)
def t275 (a0 : Ty.T aa) (a1 : Int) {Z : Type} (κ : (Ty.T q1) × (Ty.T a9) × (List (Ty.T y27)) -> Option Z) : Option Z := cond (d238 a0) (cond (a0.2.2.2.2.2.2.1.1 == (2 : Int)) (κ ((cN a0).1, ((cN a0).2.1.1, (ey (Am a0.2.2.2.2.2.2.2.2 a1) 2147483647)), (cN a0).2.2)) (cond (decide (a0.2.2.2.2.2.2.2.2 > (0 : Int))) (κ ((cN a0).1, ((cN a0).2.1.1, IntKind.wrap .i64 (a0.2.2.2.2.2.2.2.2 - (1 : Int))), (cN a0).2.2)) (κ ((cN a0).1, (cN a0).2.1, (cN a0).2.2)))) (none)
def rU (a0 : Ty.T aa) (a1 : Int) : (Ty.T q1) × (Ty.T a9) × (List (Ty.T y27)) := (t275 a0 a1 some).getD ((Ty.zero q1), (Ty.zero a9), [])
def d275 (a0 : Ty.T aa) (a1 : Int) : Bool := (t275 a0 a1 some).isSome
def afK : Prim := ⟨[.agg [.dat aa true], oI], fun v => .br (d275 v.1 v.2.1) (.done (f275 (rU v.1 v.2.1))) .no⟩
theorem ab7 : PO 275 afK := pK ag6 fun v => Eq.trans (b := (t275 v.1 v.2.1 (sm f275))) (by kernel_rfl) (ar (show t275 v.1 v.2.1 (sm f275) = (t275 v.1 v.2.1 some).bind _ from (bC (bC rfl (bC rfl rfl)) rfl)))
end
end Go.Proofs.YtahlaccdpmddbaaGreat.Vm
