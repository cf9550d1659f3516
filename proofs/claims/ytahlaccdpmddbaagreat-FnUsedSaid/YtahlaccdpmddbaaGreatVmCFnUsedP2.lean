/- Contracts. No condition. -/
import Derived.Test.YtahlaccdpmddbaaGreatVmCFnUsedP1
import Derived.Test.YtahlaccdpmddbaaGreatVmLibThree
namespace Go.Proofs.YtahlaccdpmddbaaGreat.Vm
open Go Go.Proofs.YtahlaccdpmddbaaGreat.Lib
noncomputable section
set_option maxRecDepth 100000
set_option linter.unusedVariables false
def f134 (r : (List (Ty.T aa))) : AV × Sig := (.one (.sl 4096), [(4096, .arr 109 aa r false)])
def abu := (E0.p KW)
@[reducible] def Dh : List SP := U2 (.one (.dat (.sl 109 aa) false) :: .one (.own 6) :: U2 (.und :: .one (.dat (.sl 109 aa) true) :: oI :: oI :: U8 (U2 ([]))))
@[reducible] def Dd : List (Nat × GP) := [(6, .arr 109 aa false)]
@[reducible] def qC : Type := (List (Ty.T aa)) × (List (Ty.T aa)) × Int × Int × (List (Ty.T aa)) × Unit
def tP (v : qC) {Z : Type} (κ : Nat × qC -> Option Z) : Option Z := cond (decide (v.2.2.2.1 < v.2.2.1)) (if 0 <= v.2.2.2.1 then (bq ((v.2.1)[(v.2.2.2.1).toNat]?) (fun x1 => cond (d226 x1) (if (v.2.2.2.2.1 ++ [((cr x1).1.1, (cr x1).1.2.1, (cr x1).1.2.2.1, (cr x1).1.2.2.2.1, (cr x1).1.2.2.2.2.1, (cr x1).1.2.2.2.2.2.1, ((cr x1).1.2.2.2.2.2.2.1, (cr x1).1.2.2.2.2.2.2.2.1, (cr x1).1.2.2.2.2.2.2.2.2.1, (cr x1).1.2.2.2.2.2.2.2.2.2.1, (cr x1).1.2.2.2.2.2.2.2.2.2.2.1, (cr x1).1.2.2.2.2.2.2.2.2.2.2.2, (cr x1).2.2), (cr x1).2.1)] : List (Ty.T aa)).length * 192 <= 140737488351232 then (κ (0, (v.1, v.2.1, v.2.2.1, IntKind.wrap .i64 (v.2.2.2.1 + (1 : Int)), v.2.2.2.2.1 ++ [((cr x1).1.1, (cr x1).1.2.1, (cr x1).1.2.2.1, (cr x1).1.2.2.2.1, (cr x1).1.2.2.2.2.1, (cr x1).1.2.2.2.2.2.1, ((cr x1).1.2.2.2.2.2.2.1, (cr x1).1.2.2.2.2.2.2.2.1, (cr x1).1.2.2.2.2.2.2.2.2.1, (cr x1).1.2.2.2.2.2.2.2.2.2.1, (cr x1).1.2.2.2.2.2.2.2.2.2.2.1, (cr x1).1.2.2.2.2.2.2.2.2.2.2.2, (cr x1).2.2), (cr x1).2.1)], ()))) else none) (none))) else none) (κ (1, (v.1, v.2.1, v.2.2.1, v.2.2.2.1, v.2.2.2.2.1, ())))
def vm (v : qC) : Option (Nat × qC) := tP v some
def xp (v : qC) : Nat := v.1.length + v.2.1.length + v.2.2.1.toNat + v.2.2.2.1.toNat + v.2.2.2.2.1.length + 100
def Eh (h0 : List (Ty.T aa)) (h1 : List (Ty.T aa)) (h2 : Int) (h3 : Int) (h4 : List (Ty.T aa)) (c : Nat) : Bool := iK vm xp (h0, h1, h2, h3, h4, ()) c
def Kp (h0 : List (Ty.T aa)) (h1 : List (Ty.T aa)) (h2 : Int) (h3 : Int) (h4 : List (Ty.T aa)) : qC := iW vm xp (h0, h1, h2, h3, h4, ())
def OW (v : qC) : aR (Ex × St) := bj vm (xp v) v (aB Dh Dd) [.exit 0] 0
theorem Wl : bg Tryz.prog (aH (pb 4 11) (ae Tryz.f134)) Dh Dd OW := au (lt := .none) abu.ok ai (ag.no _) fun n v K => Eq.trans (b := tP v (cM _ _ _ _ _ K)) (by kernel_rfl) (show tP v _ = (tP v some).bind _ from (bC (bI (bO fun x1 => (bC (bI rfl) rfl))) rfl))
def aar := abu.l (g := 134) (t := (bW (pb 4 11) (ae Tryz.f134) .none (.sum Dh Dd OW))) (aP Tryz.func134 (ag.put (aC (by kernel_rfl)) (ag.no _) Wl))
def Zf (a0 : List (Ty.T aa)) : Option (AV × Sig) := cond (Eh [] a0 ((a0).length : Int) 0 [] 0) (some (.one (.sl 4096), [(4096, .arr 109 aa (Kp [] a0 ((a0).length : Int) 0 []).2.2.2.2.1 false)])) (none)
def nT (a0 : List (Ty.T aa)) : (List (Ty.T aa)) := cond (Eh [] a0 ((a0).length : Int) 0 [] 0) ((Kp [] a0 ((a0).length : Int) 0 []).2.2.2.2.1) ([])
def d134 (a0 : List (Ty.T aa)) : Bool := cond (Eh [] a0 ((a0).length : Int) 0 [] 0) (true) (false)
theorem adj (a0 : List (Ty.T aa)) : Zf a0 = cond (d134 a0) (some (f134 (nT a0))) none := (pC (pS _) (pN _))
def aei : Prim := ⟨[.one (.dat (.sl 109 aa) true)], fun v => .br (d134 v.1) (.done (f134 (nT v.1))) .no⟩
theorem U3 : PO 134 aei := pK aar fun v => Eq.trans (b := Zf v.1) (by kernel_rfl) (adj v.1)
def f135 (r : List (Ty.T (.int .i64))) : AV × Sig := (.one (.sl 4096), [(4096, .arr 3 (.int .i64) r false)])
def fM (a0 : List (Ty.T (.int .i64))) : List (Ty.T (.int .i64)) := a0
def d135 (a0 : List (Ty.T (.int .i64))) : Bool := decide (List.length a0 * 8 <= 140737488351232)
def aee : Prim := ⟨[.one (.dat (.sl 3 (.int .i64)) true)], fun v => .br (d135 v.1) (.done (f135 (fM v.1))) .no⟩
theorem Pt : PO 135 aee := KZ (t := 50) (tb := 4) (e := 3) hEt Tryz.func135 (by kernel_rfl) (by kernel_rfl) (by kernel_rfl) (by kernel_rfl) rfl rfl (by decide) (by kernel_rfl)
def f320 (r : Bool) : AV × Sig := (.one (.bool r), [])
def afW := (E0.p jU)
def aaS (a0 : Int) : Option (AV × Sig) := some (.one (.bool (cJ a0 1 6)), [])
def MF (a0 : Int) : Bool := (cJ a0 1 6)
theorem agt (a0 : Int) : aaS a0 = some (f320 (MF a0)) := rfl
def afY : Prim := ⟨[oI], fun v => .done (f320 (MF v.1))⟩
theorem Vh : PO 320 afY := pK afW fun v => Eq.trans (b := aaS v.1) (by kernel_rfl) (agt v.1)
def f283 (r : Bool) : AV × Sig := (.one (.bool r), [])
def aik := ((((E0.p K4).p jU).p Vn).p Vh)
def t283 (a0 : Ty.T bS) {Z : Type} (κ : Bool -> Z) : Z := cond (!(MF a0.1)) (κ false) (cond (!(cJ a0.2.1 0 2)) (κ false) (cond (!(cJ a0.2.2.1 0 99)) (κ false) (cond (!(LX a0.2.2.2.1)) (κ false) (cond (!(cJ a0.2.2.2.2.1 0 99)) (κ false) (cond (!(uT a0.2.2.2.2.2.1)) (κ false) (cond (!(cJ a0.2.2.2.2.2.2 0 4)) (κ false) (cond (a0.1 != (1 : Int)) (cond (a0.2.2.1 != (0 : Int)) (κ false) (cond (a0.2.2.2.1 != (0 : Int)) (κ false) (cond (a0.1 != (2 : Int)) (cond (a0.2.2.2.2.2.2 != (0 : Int)) (κ false) (cond (a0.2.2.2.2.1 == (0 : Int)) (κ true) (cond (a0.1 != (3 : Int)) (κ (a0.1 != (4 : Int))) (κ false)))) (cond (a0.2.2.2.2.1 == (0 : Int)) (κ true) (cond (a0.1 != (3 : Int)) (κ (a0.1 != (4 : Int))) (κ false)))))) (cond (a0.1 != (2 : Int)) (cond (a0.2.2.2.2.2.2 != (0 : Int)) (κ false) (cond (a0.2.2.2.2.1 == (0 : Int)) (κ true) (cond (a0.1 != (3 : Int)) (κ (a0.1 != (4 : Int))) (κ false)))) (cond (a0.2.2.2.2.1 == (0 : Int)) (κ true) (cond (a0.1 != (3 : Int)) (κ (a0.1 != (4 : Int))) (κ false)))))))))))
def yq (a0 : Ty.T bS) : Bool := t283 a0 fun r => r
def aiM : Prim := ⟨[.agg [.dat bS true]], fun v => .done (f283 (yq v.1))⟩
theorem UJ : PO 283 aiM := pK aik fun v => Eq.trans (b := (t283 v.1 (sm f283))) (by kernel_rfl) (show t283 v.1 (sm f283) = some (f283 (t283 v.1 fun r => r)) from (tC rfl (tC rfl (tC rfl (tC rfl (tC rfl (tC rfl (tC rfl (tC (tC rfl (tC rfl (tC (tC rfl (tC rfl (tC rfl rfl))) (tC rfl (tC rfl rfl))))) (tC (tC rfl (tC rfl (tC rfl rfl))) (tC rfl (tC rfl rfl))))))))))))
def f284 (r : Bool) : AV × Sig := (.one (.bool r), [])
def aeA := ((E0.p jU).p Bw)
def t284 (a0 : Ty.T a9) {Z : Type} (κ : Bool -> Z) : Z := cond (a0.1 == (0 : Int)) (cond (a0.1 == (0 : Int)) (κ (a0.2 == (0 : Int))) (cond (a0.1 == (1 : Int)) (κ ((fD a0.2) == a0.2)) (cond (a0.1 == (2 : Int)) (cond (a0.1 == (2 : Int)) (κ (cJ a0.2 0 8)) (κ false)) (cond (a0.1 == (4 : Int)) (κ (cJ a0.2 0 8)) (κ false))))) (cond (a0.1 == (3 : Int)) (κ (a0.2 == (0 : Int))) (cond (a0.1 == (1 : Int)) (κ ((fD a0.2) == a0.2)) (cond (a0.1 == (2 : Int)) (cond (a0.1 == (2 : Int)) (κ (cJ a0.2 0 8)) (κ false)) (cond (a0.1 == (4 : Int)) (κ (cJ a0.2 0 8)) (κ false)))))
def zJ (a0 : Ty.T a9) : Bool := t284 a0 fun r => r
def adz : Prim := ⟨[.agg [.dat a9 true]], fun v => .done (f284 (zJ v.1))⟩
theorem UL : PO 284 adz := pK aeA fun v => Eq.trans (b := (t284 v.1 (sm f284))) (by kernel_rfl) (show t284 v.1 (sm f284) = some (f284 (t284 v.1 fun r => r)) from (tC (tC rfl (tC rfl (tC (tC rfl rfl) (tC rfl rfl)))) (tC rfl (tC rfl (tC (tC rfl rfl) (tC rfl rfl))))))
def f322 (r : Bool) : AV × Sig := (.one (.bool r), [])
def aeU := (E0.p PS)
def abm (a0 : Ty.T y27) : Option (AV × Sig) := cond (v53 a0) (some (.one (.bool true), [])) (cond (a0.1 != (2 : Int)) (cond (a0.2.2.2.2.1 == (-1 : Int)) (some (.one (.bool (v53 (a0.1, a0.2.1, a0.2.2.1, a0.2.2.2.1, 0, a0.2.2.2.2.2))), [])) (some (.one (.bool false), []))) (some (.one (.bool false), [])))
def LH (a0 : Ty.T y27) : Bool := cond (v53 a0) (true) (cond (a0.1 != (2 : Int)) (cond (a0.2.2.2.2.1 == (-1 : Int)) ((v53 (a0.1, a0.2.1, a0.2.2.1, a0.2.2.2.1, 0, a0.2.2.2.2.2))) (false)) (false))
theorem ada (a0 : Ty.T y27) : abm a0 = some (f322 (LH a0)) := (tC rfl (tC (tC rfl rfl) rfl))
def aiE : Prim := ⟨[.agg [.dat y27 true]], fun v => .done (f322 (LH v.1))⟩
theorem aaE : PO 322 aiE := pK aeU fun v => Eq.trans (b := abm v.1) (by kernel_rfl) (ada v.1)
def f321 (r : Bool) : AV × Sig := (.one (.bool r), [])
def ahA := (E0.p aaE)
def abX (a0 : Ty.T y27) : Option (AV × Sig) := some (.one (.bool (!(LH a0))), [])
def Tk (a0 : Ty.T y27) : Bool := !(LH a0)
theorem aiO (a0 : Ty.T y27) : abX a0 = some (f321 (Tk a0)) := rfl
def agw : Prim := ⟨[.agg [.dat y27 true]], fun v => .done (f321 (Tk v.1))⟩
theorem YT : PO 321 agw := pK ahA fun v => Eq.trans (b := abX v.1) (by kernel_rfl) (aiO v.1)
def Si (r : Int) : AV × Sig := (.one (.int .i64 r), [])
def Oy := (E0.p YT)
@[reducible] def tM : List SP := .one (.dat (.sl 41 y27) true) :: .one (.fnc 321 []) :: U2 (oI :: U2 (oI :: oI :: U8 (U2 ([]))))
@[reducible] def dE : Type := (List (Ty.T y27)) × Int × Int × Int × Unit
def kU (v : dE) {Z : Type} (κ : Nat × dE -> Option Z) : Option Z := cond (decide (v.2.2.2.1 < v.2.2.1)) (if 0 <= v.2.2.2.1 then (bq ((v.1)[(v.2.2.2.1).toNat]?) (fun x1 => cond (Tk x1) (κ (1, (v.1, v.2.2.2.1, v.2.2.1, v.2.2.2.1, ()))) (κ (0, (v.1, v.2.1, v.2.2.1, IntKind.wrap .i64 (v.2.2.2.1 + (1 : Int)), ()))))) else none) (κ (2, (v.1, v.2.1, v.2.2.1, v.2.2.2.1, ())))
def kJ (v : dE) : Option (Nat × dE) := kU v some
def nJ (v : dE) : Nat := v.1.length + v.2.1.toNat + v.2.2.1.toNat + v.2.2.2.1.toNat + 100
def e6 (h0 : List (Ty.T y27)) (h1 : Int) (h2 : Int) (h3 : Int) (c : Nat) : Bool := iK kJ nJ (h0, h1, h2, h3, ()) c
def rX (h0 : List (Ty.T y27)) (h1 : Int) (h2 : Int) (h3 : Int) : dE := iW kJ nJ (h0, h1, h2, h3, ())
def FN (v : dE) : aR (Ex × St) := bj kJ (nJ v) v (aB tM aG) [.ret, .exit 0] 0
theorem PL : bg Tryz.prog (aH (pb 3 5) (ae Tryz.f249)) tM aG FN := au (lt := .none) Oy.ok ai (ag.no _) fun n v K => Eq.trans (b := kU v (cM _ _ _ _ _ K)) (by kernel_rfl) (show kU v _ = (kU v some).bind _ from (bC (bI (bO fun x1 => (bC rfl rfl))) rfl))
def Sy := Oy.l (g := 249) (t := (bW (pb 3 5) (ae Tryz.f249) .none (.sum tM aG FN))) (aP Tryz.func249 (ag.put (aC (by kernel_rfl)) (ag.no _) PL))
def Rs (a0 : List (Ty.T y27)) : Option (AV × Sig) := cond (e6 a0 0 ((a0).length : Int) 0 0) (some (.one (.int .i64 (rX a0 0 ((a0).length : Int) 0).2.1), [])) (cond (e6 a0 0 ((a0).length : Int) 0 1) (some (.one (.int .i64 (-1)), [])) (none))
def xY (a0 : List (Ty.T y27)) : Int := cond (e6 a0 0 ((a0).length : Int) 0 0) ((rX a0 0 ((a0).length : Int) 0).2.1) (cond (e6 a0 0 ((a0).length : Int) 0 1) ((-1)) (0))
def vi (a0 : List (Ty.T y27)) : Bool := cond (e6 a0 0 ((a0).length : Int) 0 0) (true) (cond (e6 a0 0 ((a0).length : Int) 0 1) (true) (false))
theorem Xg (a0 : List (Ty.T y27)) : Rs a0 = cond (vi a0) (some (Si (xY a0))) none := (pC (pS _) (pC (pS _) (pN _)))
def W2 : Prim := ⟨[.one (.dat (.sl 41 y27) true), .one (.fnc 321 [])], fun v => .br (vi v.1) (.done (Si (xY v.1))) .no⟩
theorem Tf : PO 249 W2 := pK Sy fun v => Eq.trans (b := Rs v.1) (by kernel_rfl) (Xg v.1)
def Py (r : Bool) : AV × Sig := (.one (.bool r), [])
def Wm := (E0.p Tf)
def Ry (a0 : List (Ty.T y27)) : Option (AV × Sig) := cond (vi a0) (some (.one (.bool (decide ((xY a0) ≥ (0 : Int)))), [])) (none)
def yK (a0 : List (Ty.T y27)) : Bool := cond (vi a0) (decide ((xY a0) ≥ (0 : Int))) (false)
def zt (a0 : List (Ty.T y27)) : Bool := cond (vi a0) (true) (false)
theorem WZ (a0 : List (Ty.T y27)) : Ry a0 = cond (zt a0) (some (Py (yK a0))) none := (pC (pS _) (pN _))
def Xp : Prim := ⟨[.one (.dat (.sl 41 y27) true), .one (.fnc 321 [])], fun v => .br (zt v.1) (.done (Py (yK v.1))) .no⟩
theorem TA : PO 166 Xp := pK Wm fun v => Eq.trans (b := Ry v.1) (by kernel_rfl) (WZ v.1)
def f285 (r : Bool) : AV × Sig := (.one (.bool r), [])
def Pk := (((((E0.p TA).p EY).p PJ).p Kx).p jU)
@[reducible] def oU : List SP := .und :: .one (.ptr 1 0) :: .one (.dat .bool true) :: U64 (U32 (U16 ([])))
@[reducible] def Lf : List SP := .und :: .one (.ptr 1 0) :: .one (.dat .bool true) :: U32 (U16 (U8 (.und :: .one (.dat .bool true) :: U32 (U16 (U4 (U2 ([])))))))
def Cp (v : bY) (r : Bool) : Ex × St := (.normal, aB Lf bR (v.1, r, v.2.1, ()))
def tt (v : bY) {Z : Type} (κ : Bool -> Z) : Z := cond (v.2.1.1 != (3 : Int)) (cond (v.2.1.1 != (8 : Int)) (cond (v.2.1.2.1 != (0 : Int)) (κ true) (cond (v.2.1.1 != (6 : Int)) (cond (v.2.1.2.2.1 != (0 : Int)) (κ true) (cond (v.2.1.2.2.2.1 != (-1 : Int)) (κ true) (cond (v.2.1.1 != (7 : Int)) (cond (v.2.1.2.2.2.2.1 != (0 : Int)) (κ true) (cond (v.2.1.1 != (8 : Int)) (cond v.2.1.2.2.2.2.2.1 (κ true) (cond (v.2.1.1 != (9 : Int)) (κ (decide (((v.2.1.2.2.2.2.2.2).length : Int) > (0 : Int)))) (κ false))) (cond (v.2.1.1 != (9 : Int)) (κ (decide (((v.2.1.2.2.2.2.2.2).length : Int) > (0 : Int)))) (κ false)))) (cond (v.2.1.1 != (8 : Int)) (cond v.2.1.2.2.2.2.2.1 (κ true) (cond (v.2.1.1 != (9 : Int)) (κ (decide (((v.2.1.2.2.2.2.2.2).length : Int) > (0 : Int)))) (κ false))) (cond (v.2.1.1 != (9 : Int)) (κ (decide (((v.2.1.2.2.2.2.2.2).length : Int) > (0 : Int)))) (κ false)))))) (cond (v.2.1.1 != (7 : Int)) (cond (v.2.1.2.2.2.2.1 != (0 : Int)) (κ true) (cond (v.2.1.1 != (8 : Int)) (cond v.2.1.2.2.2.2.2.1 (κ true) (cond (v.2.1.1 != (9 : Int)) (κ (decide (((v.2.1.2.2.2.2.2.2).length : Int) > (0 : Int)))) (κ false))) (cond (v.2.1.1 != (9 : Int)) (κ (decide (((v.2.1.2.2.2.2.2.2).length : Int) > (0 : Int)))) (κ false)))) (cond (v.2.1.1 != (8 : Int)) (cond v.2.1.2.2.2.2.2.1 (κ true) (cond (v.2.1.1 != (9 : Int)) (κ (decide (((v.2.1.2.2.2.2.2.2).length : Int) > (0 : Int)))) (κ false))) (cond (v.2.1.1 != (9 : Int)) (κ (decide (((v.2.1.2.2.2.2.2.2).length : Int) > (0 : Int)))) (κ false)))))) (cond (v.2.1.1 != (6 : Int)) (cond (v.2.1.2.2.1 != (0 : Int)) (κ true) (cond (v.2.1.2.2.2.1 != (-1 : Int)) (κ true) (cond (v.2.1.1 != (7 : Int)) (cond (v.2.1.2.2.2.2.1 != (0 : Int)) (κ true) (cond (v.2.1.1 != (8 : Int)) (cond v.2.1.2.2.2.2.2.1 (κ true) (cond (v.2.1.1 != (9 : Int)) (κ (decide (((v.2.1.2.2.2.2.2.2).length : Int) > (0 : Int)))) (κ false))) (cond (v.2.1.1 != (9 : Int)) (κ (decide (((v.2.1.2.2.2.2.2.2).length : Int) > (0 : Int)))) (κ false)))) (cond (v.2.1.1 != (8 : Int)) (cond v.2.1.2.2.2.2.2.1 (κ true) (cond (v.2.1.1 != (9 : Int)) (κ (decide (((v.2.1.2.2.2.2.2.2).length : Int) > (0 : Int)))) (κ false))) (cond (v.2.1.1 != (9 : Int)) (κ (decide (((v.2.1.2.2.2.2.2.2).length : Int) > (0 : Int)))) (κ false)))))) (cond (v.2.1.1 != (7 : Int)) (cond (v.2.1.2.2.2.2.1 != (0 : Int)) (κ true) (cond (v.2.1.1 != (8 : Int)) (cond v.2.1.2.2.2.2.2.1 (κ true) (cond (v.2.1.1 != (9 : Int)) (κ (decide (((v.2.1.2.2.2.2.2.2).length : Int) > (0 : Int)))) (κ false))) (cond (v.2.1.1 != (9 : Int)) (κ (decide (((v.2.1.2.2.2.2.2.2).length : Int) > (0 : Int)))) (κ false)))) (cond (v.2.1.1 != (8 : Int)) (cond v.2.1.2.2.2.2.2.1 (κ true) (cond (v.2.1.1 != (9 : Int)) (κ (decide (((v.2.1.2.2.2.2.2.2).length : Int) > (0 : Int)))) (κ false))) (cond (v.2.1.1 != (9 : Int)) (κ (decide (((v.2.1.2.2.2.2.2.2).length : Int) > (0 : Int)))) (κ false)))))) (cond (v.2.1.1 != (6 : Int)) (cond (v.2.1.2.2.1 != (0 : Int)) (κ true) (cond (v.2.1.2.2.2.1 != (-1 : Int)) (κ true) (cond (v.2.1.1 != (7 : Int)) (cond (v.2.1.2.2.2.2.1 != (0 : Int)) (κ true) (cond (v.2.1.1 != (8 : Int)) (cond v.2.1.2.2.2.2.2.1 (κ true) (cond (v.2.1.1 != (9 : Int)) (κ (decide (((v.2.1.2.2.2.2.2.2).length : Int) > (0 : Int)))) (κ false))) (cond (v.2.1.1 != (9 : Int)) (κ (decide (((v.2.1.2.2.2.2.2.2).length : Int) > (0 : Int)))) (κ false)))) (cond (v.2.1.1 != (8 : Int)) (cond v.2.1.2.2.2.2.2.1 (κ true) (cond (v.2.1.1 != (9 : Int)) (κ (decide (((v.2.1.2.2.2.2.2.2).length : Int) > (0 : Int)))) (κ false))) (cond (v.2.1.1 != (9 : Int)) (κ (decide (((v.2.1.2.2.2.2.2.2).length : Int) > (0 : Int)))) (κ false)))))) (cond (v.2.1.1 != (7 : Int)) (cond (v.2.1.2.2.2.2.1 != (0 : Int)) (κ true) (cond (v.2.1.1 != (8 : Int)) (cond v.2.1.2.2.2.2.2.1 (κ true) (cond (v.2.1.1 != (9 : Int)) (κ (decide (((v.2.1.2.2.2.2.2.2).length : Int) > (0 : Int)))) (κ false))) (cond (v.2.1.1 != (9 : Int)) (κ (decide (((v.2.1.2.2.2.2.2.2).length : Int) > (0 : Int)))) (κ false)))) (cond (v.2.1.1 != (8 : Int)) (cond v.2.1.2.2.2.2.2.1 (κ true) (cond (v.2.1.1 != (9 : Int)) (κ (decide (((v.2.1.2.2.2.2.2.2).length : Int) > (0 : Int)))) (κ false))) (cond (v.2.1.1 != (9 : Int)) (κ (decide (((v.2.1.2.2.2.2.2.2).length : Int) > (0 : Int)))) (κ false)))))
def CN (v : bY) : Bool := tt v id
def O8 (v : bY) : aR (Ex × St) := .done (Cp v (CN v))
theorem VE : a7 Tryz.prog (aA (pb 3 1) (ae Tryz.f285)) oU bR O8 := aS (lt := .none) (sx := Lf) (gx := bR) Pk.ok ai (ag.no _) fun v => Eq.trans (b := tt v (sm (Cp v))) (by kernel_rfl) (show tt v (sm (Cp v)) = some (Cp v (tt v id)) from (tC (tC (tC rfl (tC (tC rfl (tC rfl (tC (tC rfl (tC (tC rfl (tC rfl rfl)) (tC rfl rfl))) (tC (tC rfl (tC rfl rfl)) (tC rfl rfl))))) (tC (tC rfl (tC (tC rfl (tC rfl rfl)) (tC rfl rfl))) (tC (tC rfl (tC rfl rfl)) (tC rfl rfl))))) (tC (tC rfl (tC rfl (tC (tC rfl (tC (tC rfl (tC rfl rfl)) (tC rfl rfl))) (tC (tC rfl (tC rfl rfl)) (tC rfl rfl))))) (tC (tC rfl (tC (tC rfl (tC rfl rfl)) (tC rfl rfl))) (tC (tC rfl (tC rfl rfl)) (tC rfl rfl))))) (tC (tC rfl (tC rfl (tC (tC rfl (tC (tC rfl (tC rfl rfl)) (tC rfl rfl))) (tC (tC rfl (tC rfl rfl)) (tC rfl rfl))))) (tC (tC rfl (tC (tC rfl (tC rfl rfl)) (tC rfl rfl))) (tC (tC rfl (tC rfl rfl)) (tC rfl rfl))))))
@[reducible] def wk : List SP := .und :: .one (.ptr 1 0) :: .one (.dat .bool true) :: U32 (U16 (U8 (U2 (.und :: oI :: .one (.dat .bool true) :: U32 (U16 (U2 (.und :: [])))))))
def Ev (v : mD) (r : Bool) : Ex × St := (.normal, aB wk bR (v.1, v.2.1, r, v.2.2.2.1, ()))
def pG (v : mD) {Z : Type} (κ : Bool -> Z) : Z := cond v.2.2.1 (κ v.2.2.1) (cond (v.2.1 == (2 : Int)) (κ (v.2.1 == (2 : Int))) (cond (v.2.1 == (4 : Int)) (κ (v.2.1 == (4 : Int))) (κ (v.2.1 == (5 : Int)))))
def wG (v : mD) : Bool := pG v id
def NF (v : mD) : aR (Ex × St) := .done (Ev v (wG v))
theorem Wp : a7 Tryz.prog (aA (pb 6 43) (ae Tryz.f285)) wk bR NF := aS (lt := .none) (sx := wk) (gx := bR) Pk.ok ai (ag.no _) fun v => Eq.trans (b := pG v (sm (Ev v))) (by kernel_rfl) (show pG v (sm (Ev v)) = some (Ev v (pG v id)) from (tC rfl (tC rfl (tC rfl rfl))))
@[reducible] def wA : List SP := U2 (.one (.dat .bool true) :: U64 (U32 (U16 ([]))))
def En (v : bY) (r : Bool) : Ex × St := (.normal, aB wA aG (r, ()))
def vk (v : bY) {Z : Type} (κ : Bool -> Z) : Z := cond (nh v.2.1.2.2.1) (cond (v.2.1.2.2.2.1 == (-1 : Int)) (κ true) (cond (v.2.1.2.2.1 == (0 : Int)) (κ (qe v.2.1.2.2.2.1)) (κ false))) (cond (v.2.1.2.2.1 == (0 : Int)) (κ (qe v.2.1.2.2.2.1)) (κ false))
def B1 (v : bY) : Bool := vk v id
def Ng (v : bY) : aR (Ex × St) := .done (En v (B1 v))
theorem Xs : a7 Tryz.prog (aA (pb 11 507) (ae Tryz.f285)) oU bR Ng := aS (lt := .none) (sx := wA) (gx := aG) Pk.ok ai (ag.no _) fun v => Eq.trans (b := vk v (sm (En v))) (by kernel_rfl) (show vk v (sm (En v)) = some (En v (vk v id)) from (tC (tC rfl (tC rfl rfl)) (tC rfl rfl)))
def JD (v : bY) (r : Bool) : Ex × St := (.normal, aB wA aG (r, ()))
def nb (v : bY) {Z : Type} (κ : Bool -> Option Z) : Option Z := cond (cJ ((v.2.1.2.2.2.2.2.2).length : Int) 1 3) (cond (zt v.2.1.2.2.2.2.2.2) (κ (!(yK v.2.1.2.2.2.2.2.2))) (none)) (κ false)
def wZ (v : bY) : Bool := (nb v some).getD false
def yL (v : bY) : Bool := (nb v some).isSome
def Of (v : bY) : aR (Ex × St) := .br (yL v) (.done (JD v (wZ v))) .no
theorem XB : a7 Tryz.prog (aA (pb 17 32763) (ae Tryz.f285)) oU bR Of := aS (lt := .none) (sx := wA) (gx := aG) Pk.ok ai (ag.no _) fun v => Eq.trans (b := nb v (sm (JD v))) (by kernel_rfl) (ar (show nb v (sm (JD v)) = (nb v some).bind _ from (bC (bC rfl rfl) rfl)))
def YE := Pk.l (g := 285) (t := (aM (pb 17 32763) (ae Tryz.f285) (aM (pb 11 507) (ae Tryz.f285) (aM (pb 6 43) (ae Tryz.f285) (aM (pb 3 1) (ae Tryz.f285) .none (.sum oU bR O8)) (.sum wk bR NF)) (.sum oU bR Ng)) (.sum oU bR Of))) (aP Tryz.func285 (ag.ct (aC (by kernel_rfl)) (ag.ct (aC (by kernel_rfl)) (ag.ct (aC (by kernel_rfl)) (ag.ct (aC (by kernel_rfl)) (ag.no _) VE) Wp) Xs) XB))
def t285 (a0 : Ty.T bp) {Z : Type} (κ : Bool -> Option Z) : Option Z := cond (CN (false, a0, ())) (κ false) (cond (wG (false, a0.1, (a0.1 == (1 : Int)), a0, ())) (κ true) (cond (a0.1 == (3 : Int)) (κ (cJ a0.2.1 1 2147483647)) (cond (a0.1 == (6 : Int)) (κ (B1 (false, a0, ()))) (cond (a0.1 == (7 : Int)) (κ (v8 a0.2.2.2.2.1)) (cond (a0.1 == (8 : Int)) (κ (cJ a0.2.1 0 99)) (cond (a0.1 == (9 : Int)) (cond (yL (false, a0, ())) (κ (wZ (false, a0, ()))) (none)) (κ false)))))))
def uz (a0 : Ty.T bp) : Bool := (t285 a0 some).getD false
def d285 (a0 : Ty.T bp) : Bool := (t285 a0 some).isSome
def ahW : Prim := ⟨[.agg [.dat bp true]], fun v => .br (d285 v.1) (.done (f285 (uz v.1))) .no⟩
theorem ZI : PO 285 ahW := pK YE fun v => Eq.trans (b := (t285 v.1 (sm f285))) (by kernel_rfl) (ar (show t285 v.1 (sm f285) = (t285 v.1 some).bind _ from by unfold t285; simp only [bb]))
def f286 (r : Bool) : AV × Sig := (.one (.bool r), [])
def adp := (E0.p Vh)
def t286 (a0 : Ty.T bp) (a1 : Int) {Z : Type} (κ : Bool -> Z) : Z := cond (!(MF a1)) (κ false) (cond (a0.1 == (1 : Int)) (cond (a0.1 == (1 : Int)) (κ true) (cond (a0.1 == (2 : Int)) (cond (a0.1 == (2 : Int)) (κ (a1 == (1 : Int))) (cond (a0.1 == (3 : Int)) (cond (a0.1 == (3 : Int)) (κ (a1 != (2 : Int))) (cond (a0.1 == (7 : Int)) (cond (a0.1 == (7 : Int)) (κ (a1 == (2 : Int))) (κ false)) (cond (a0.1 == (8 : Int)) (κ (a1 == (2 : Int))) (κ false)))) (cond (a0.1 == (4 : Int)) (cond (a0.1 == (4 : Int)) (κ (a1 != (2 : Int))) (cond (a0.1 == (7 : Int)) (cond (a0.1 == (7 : Int)) (κ (a1 == (2 : Int))) (κ false)) (cond (a0.1 == (8 : Int)) (κ (a1 == (2 : Int))) (κ false)))) (cond (a0.1 == (5 : Int)) (κ (a1 != (2 : Int))) (cond (a0.1 == (7 : Int)) (cond (a0.1 == (7 : Int)) (κ (a1 == (2 : Int))) (κ false)) (cond (a0.1 == (8 : Int)) (κ (a1 == (2 : Int))) (κ false))))))) (cond (a0.1 == (6 : Int)) (κ (a1 == (1 : Int))) (cond (a0.1 == (3 : Int)) (cond (a0.1 == (3 : Int)) (κ (a1 != (2 : Int))) (cond (a0.1 == (7 : Int)) (cond (a0.1 == (7 : Int)) (κ (a1 == (2 : Int))) (κ false)) (cond (a0.1 == (8 : Int)) (κ (a1 == (2 : Int))) (κ false)))) (cond (a0.1 == (4 : Int)) (cond (a0.1 == (4 : Int)) (κ (a1 != (2 : Int))) (cond (a0.1 == (7 : Int)) (cond (a0.1 == (7 : Int)) (κ (a1 == (2 : Int))) (κ false)) (cond (a0.1 == (8 : Int)) (κ (a1 == (2 : Int))) (κ false)))) (cond (a0.1 == (5 : Int)) (κ (a1 != (2 : Int))) (cond (a0.1 == (7 : Int)) (cond (a0.1 == (7 : Int)) (κ (a1 == (2 : Int))) (κ false)) (cond (a0.1 == (8 : Int)) (κ (a1 == (2 : Int))) (κ false))))))))) (cond (a0.1 == (9 : Int)) (κ true) (cond (a0.1 == (2 : Int)) (cond (a0.1 == (2 : Int)) (κ (a1 == (1 : Int))) (cond (a0.1 == (3 : Int)) (cond (a0.1 == (3 : Int)) (κ (a1 != (2 : Int))) (cond (a0.1 == (7 : Int)) (cond (a0.1 == (7 : Int)) (κ (a1 == (2 : Int))) (κ false)) (cond (a0.1 == (8 : Int)) (κ (a1 == (2 : Int))) (κ false)))) (cond (a0.1 == (4 : Int)) (cond (a0.1 == (4 : Int)) (κ (a1 != (2 : Int))) (cond (a0.1 == (7 : Int)) (cond (a0.1 == (7 : Int)) (κ (a1 == (2 : Int))) (κ false)) (cond (a0.1 == (8 : Int)) (κ (a1 == (2 : Int))) (κ false)))) (cond (a0.1 == (5 : Int)) (κ (a1 != (2 : Int))) (cond (a0.1 == (7 : Int)) (cond (a0.1 == (7 : Int)) (κ (a1 == (2 : Int))) (κ false)) (cond (a0.1 == (8 : Int)) (κ (a1 == (2 : Int))) (κ false))))))) (cond (a0.1 == (6 : Int)) (κ (a1 == (1 : Int))) (cond (a0.1 == (3 : Int)) (cond (a0.1 == (3 : Int)) (κ (a1 != (2 : Int))) (cond (a0.1 == (7 : Int)) (cond (a0.1 == (7 : Int)) (κ (a1 == (2 : Int))) (κ false)) (cond (a0.1 == (8 : Int)) (κ (a1 == (2 : Int))) (κ false)))) (cond (a0.1 == (4 : Int)) (cond (a0.1 == (4 : Int)) (κ (a1 != (2 : Int))) (cond (a0.1 == (7 : Int)) (cond (a0.1 == (7 : Int)) (κ (a1 == (2 : Int))) (κ false)) (cond (a0.1 == (8 : Int)) (κ (a1 == (2 : Int))) (κ false)))) (cond (a0.1 == (5 : Int)) (κ (a1 != (2 : Int))) (cond (a0.1 == (7 : Int)) (cond (a0.1 == (7 : Int)) (κ (a1 == (2 : Int))) (κ false)) (cond (a0.1 == (8 : Int)) (κ (a1 == (2 : Int))) (κ false))))))))))
def Co (a0 : Ty.T bp) (a1 : Int) : Bool := t286 a0 a1 fun r => r
def agf : Prim := ⟨[.agg [.dat bp true], oI], fun v => .done (f286 (Co v.1 v.2.1))⟩
theorem UN : PO 286 agf := pK adp fun v => Eq.trans (b := (t286 v.1 v.2.1 (sm f286))) (by kernel_rfl) (show t286 v.1 v.2.1 (sm f286) = some (f286 (t286 v.1 v.2.1 fun r => r)) from (tC rfl (tC (tC rfl (tC (tC rfl (tC (tC rfl (tC (tC rfl rfl) (tC rfl rfl))) (tC (tC rfl (tC (tC rfl rfl) (tC rfl rfl))) (tC rfl (tC (tC rfl rfl) (tC rfl rfl)))))) (tC rfl (tC (tC rfl (tC (tC rfl rfl) (tC rfl rfl))) (tC (tC rfl (tC (tC rfl rfl) (tC rfl rfl))) (tC rfl (tC (tC rfl rfl) (tC rfl rfl)))))))) (tC rfl (tC (tC rfl (tC (tC rfl (tC (tC rfl rfl) (tC rfl rfl))) (tC (tC rfl (tC (tC rfl rfl) (tC rfl rfl))) (tC rfl (tC (tC rfl rfl) (tC rfl rfl)))))) (tC rfl (tC (tC rfl (tC (tC rfl rfl) (tC rfl rfl))) (tC (tC rfl (tC (tC rfl rfl) (tC rfl rfl))) (tC rfl (tC (tC rfl rfl) (tC rfl rfl)))))))))))
def f227 (r : Bool) : AV × Sig := (.one (.bool r), [])
def aeG := (((((((E0.p EY).p Kx).p jU).p UJ).p UL).p ZI).p UN)
def t227 (a0 : Ty.T aa) {Z : Type} (κ : Bool -> Option Z) : Option Z := cond (a0.2.2.2.2.2.2.1.1 == (2 : Int)) (cond (nh a0.1) (cond (qe a0.2.1) (cond (cJ a0.2.2.1 0 99) (cond (cJ a0.2.2.2.1 0 4) (cond (a0.2.2.2.1 != (0 : Int)) (cond (yq a0.2.2.2.2.1) (cond (zJ a0.2.2.2.2.2.1) (cond (d285 a0.2.2.2.2.2.2.1) (cond (uz a0.2.2.2.2.2.2.1) (cond (Co a0.2.2.2.2.2.2.1 a0.2.2.2.2.1.1) (cond (cJ a0.2.2.2.2.2.2.2.1 (-1) 9999) (κ (cJ a0.2.2.2.2.2.2.2.2 0 2147483647)) (κ false)) (κ false)) (κ false)) (none)) (κ false)) (κ false)) (cond (a0.2.2.1 != (0 : Int)) (cond (yq a0.2.2.2.2.1) (cond (zJ a0.2.2.2.2.2.1) (cond (d285 a0.2.2.2.2.2.2.1) (cond (uz a0.2.2.2.2.2.2.1) (cond (Co a0.2.2.2.2.2.2.1 a0.2.2.2.2.1.1) (cond (cJ a0.2.2.2.2.2.2.2.1 (-1) 9999) (κ (cJ a0.2.2.2.2.2.2.2.2 0 2147483647)) (κ false)) (κ false)) (κ false)) (none)) (κ false)) (κ false)) (κ false))) (κ false)) (κ false)) (κ false)) (κ false)) (cond (nh a0.1) (cond (qe a0.2.1) (cond (cJ a0.2.2.1 0 99) (cond (cJ a0.2.2.2.1 0 4) (cond (a0.2.2.2.1 != (0 : Int)) (cond (yq a0.2.2.2.2.1) (cond (zJ a0.2.2.2.2.2.1) (cond (d285 a0.2.2.2.2.2.2.1) (cond (uz a0.2.2.2.2.2.2.1) (cond (Co a0.2.2.2.2.2.2.1 a0.2.2.2.2.1.1) (cond (cJ a0.2.2.2.2.2.2.2.1 (-1) 9999) (κ (cJ a0.2.2.2.2.2.2.2.2 (-1) 2147483647)) (κ false)) (κ false)) (κ false)) (none)) (κ false)) (κ false)) (cond (a0.2.2.1 != (0 : Int)) (cond (yq a0.2.2.2.2.1) (cond (zJ a0.2.2.2.2.2.1) (cond (d285 a0.2.2.2.2.2.2.1) (cond (uz a0.2.2.2.2.2.2.1) (cond (Co a0.2.2.2.2.2.2.1 a0.2.2.2.2.1.1) (cond (cJ a0.2.2.2.2.2.2.2.1 (-1) 9999) (κ (cJ a0.2.2.2.2.2.2.2.2 (-1) 2147483647)) (κ false)) (κ false)) (κ false)) (none)) (κ false)) (κ false)) (κ false))) (κ false)) (κ false)) (κ false)) (κ false))
def Ah (a0 : Ty.T aa) : Bool := (t227 a0 some).getD false
def d227 (a0 : Ty.T aa) : Bool := (t227 a0 some).isSome
def afa : Prim := ⟨[.agg [.dat aa true]], fun v => .br (d227 v.1) (.done (f227 (Ah v.1))) .no⟩
theorem OM : PO 227 afa := pK aeG fun v => Eq.trans (b := (t227 v.1 (sm f227))) (by kernel_rfl) (ar (show t227 v.1 (sm f227) = (t227 v.1 some).bind _ from by unfold t227; simp only [bb]))
def f136 (r : Bool) : AV × Sig := (.one (.bool r), [])
def acH := (E0.p OM)
@[reducible] def CX : List SP := .one (.dat (.sl 109 aa) true) :: .und :: .one (.dat .bool true) :: U2 (.one (.dat (.sl 109 aa) true) :: oI :: oI :: U16 (U8 (U2 ([]))))
@[reducible] def e7 : Type := (List (Ty.T aa)) × Bool × (List (Ty.T aa)) × Int × Int × Unit
def qE (v : e7) {Z : Type} (κ : Nat × e7 -> Option Z) : Option Z := cond (decide (v.2.2.2.2.1 < v.2.2.2.1)) (if 0 <= v.2.2.2.2.1 then (bq ((v.2.2.1)[(v.2.2.2.2.1).toNat]?) (fun x1 => cond (d227 x1) (cond (!(Ah x1)) (κ (1, (v.1, false, v.2.2.1, v.2.2.2.1, v.2.2.2.2.1, ()))) (cond (decide (v.2.2.2.2.1 > (0 : Int))) (if 0 <= (IntKind.wrap .i64 (v.2.2.2.2.1 - (1 : Int))) then (bq ((v.1)[(IntKind.wrap .i64 (v.2.2.2.2.1 - (1 : Int))).toNat]?) (fun x2 => cond (decide (x2.1 ≥ x1.1)) (κ (1, (v.1, false, v.2.2.1, v.2.2.2.1, v.2.2.2.2.1, ()))) (κ (0, (v.1, v.2.1, v.2.2.1, v.2.2.2.1, IntKind.wrap .i64 (v.2.2.2.2.1 + (1 : Int)), ()))))) else none) (κ (0, (v.1, v.2.1, v.2.2.1, v.2.2.2.1, IntKind.wrap .i64 (v.2.2.2.2.1 + (1 : Int)), ()))))) (none))) else none) (κ (2, (v.1, v.2.1, v.2.2.1, v.2.2.2.1, v.2.2.2.2.1, ())))
def lT (v : e7) : Option (Nat × e7) := qE v some
def um (v : e7) : Nat := v.1.length + v.2.2.1.length + v.2.2.2.1.toNat + v.2.2.2.2.1.toNat + 100
def ly (h0 : List (Ty.T aa)) (h1 : Bool) (h2 : List (Ty.T aa)) (h3 : Int) (h4 : Int) (c : Nat) : Bool := iK lT um (h0, h1, h2, h3, h4, ()) c
def sX (h0 : List (Ty.T aa)) (h1 : Bool) (h2 : List (Ty.T aa)) (h3 : Int) (h4 : Int) : e7 := iW lT um (h0, h1, h2, h3, h4, ())
def Oa (v : e7) : aR (Ex × St) := bj lT (um v) v (aB CX aG) [.ret, .exit 0] 0
theorem VT : bg Tryz.prog (aH (pb 3 5) (ae Tryz.f136)) CX aG Oa := au (lt := .none) acH.ok ai (ag.no _) fun n v K => Eq.trans (b := qE v (cM _ _ _ _ _ K)) (by kernel_rfl) (show qE v _ = (qE v some).bind _ from (bC (bI (bO fun x1 => (bC (bC rfl (bC (bI (bO fun x2 => (bC rfl rfl))) rfl)) rfl))) rfl))
def acY := acH.l (g := 136) (t := (bW (pb 3 5) (ae Tryz.f136) .none (.sum CX aG Oa))) (aP Tryz.func136 (ag.put (aC (by kernel_rfl)) (ag.no _) VT))
def acr (a0 : List (Ty.T aa)) : Option (AV × Sig) := cond (ly a0 false a0 ((a0).length : Int) 0 0) (some (.one (.bool (sX a0 false a0 ((a0).length : Int) 0).2.1), [])) (cond (ly a0 false a0 ((a0).length : Int) 0 1) (some (.one (.bool (decide ((((sX a0 false a0 ((a0).length : Int) 0).1).length : Int) <= (5 : Int)))), [])) (none))
def NY (a0 : List (Ty.T aa)) : Bool := cond (ly a0 false a0 ((a0).length : Int) 0 0) ((sX a0 false a0 ((a0).length : Int) 0).2.1) (cond (ly a0 false a0 ((a0).length : Int) 0 1) (decide ((((sX a0 false a0 ((a0).length : Int) 0).1).length : Int) <= (5 : Int))) (false))
def d136 (a0 : List (Ty.T aa)) : Bool := cond (ly a0 false a0 ((a0).length : Int) 0 0) (true) (cond (ly a0 false a0 ((a0).length : Int) 0 1) (true) (false))
theorem ahI (a0 : List (Ty.T aa)) : acr a0 = cond (d136 a0) (some (f136 (NY a0))) none := (pC (pS _) (pC (pS _) (pN _)))
def agq : Prim := ⟨[.one (.dat (.sl 109 aa) true)], fun v => .br (d136 v.1) (.done (f136 (NY v.1))) .no⟩
theorem YS : PO 136 agq := pK acY fun v => Eq.trans (b := acr v.1) (by kernel_rfl) (ahI v.1)
def f141 (r : (List (Ty.T y66))) : AV × Sig := (.one (.sl 4096), [(4096, .arr 67 y66 r false)])
def Y7 := (E0.p OV)
@[reducible] def Ee : List SP := U2 (.one (.dat (.sl 67 y66) false) :: .one (.own 6) :: U2 (.und :: .one (.dat (.sl 67 y66) true) :: oI :: oI :: U8 (U4 (.und :: []))))
@[reducible] def Cr : List (Nat × GP) := [(6, .arr 67 y66 false)]
@[reducible] def ql : Type := (List (Ty.T y66)) × (List (Ty.T y66)) × Int × Int × (List (Ty.T y66)) × Unit
def tV (v : ql) {Z : Type} (κ : Nat × ql -> Option Z) : Option Z := cond (decide (v.2.2.2.1 < v.2.2.1)) (if 0 <= v.2.2.2.1 then (bq ((v.2.1)[(v.2.2.2.1).toNat]?) (fun x1 => cond (d177 x1.2.2.2.2.2.1) (if (v.2.2.2.2.1 ++ [(x1.1, x1.2.1, x1.2.2.1, x1.2.2.2.1, x1.2.2.2.2.1, (wD x1.2.2.2.2.2.1), x1.2.2.2.2.2.2)] : List (Ty.T y66)).length * 128 <= 140737488351232 then (κ (0, (v.1, v.2.1, v.2.2.1, IntKind.wrap .i64 (v.2.2.2.1 + (1 : Int)), v.2.2.2.2.1 ++ [(x1.1, x1.2.1, x1.2.2.1, x1.2.2.2.1, x1.2.2.2.2.1, (wD x1.2.2.2.2.2.1), x1.2.2.2.2.2.2)], ()))) else none) (none))) else none) (κ (1, (v.1, v.2.1, v.2.2.1, v.2.2.2.1, v.2.2.2.2.1, ())))
def tl (v : ql) : Option (Nat × ql) := tV v some
def yz (v : ql) : Nat := v.1.length + v.2.1.length + v.2.2.1.toNat + v.2.2.2.1.toNat + v.2.2.2.2.1.length + 100
def DL (h0 : List (Ty.T y66)) (h1 : List (Ty.T y66)) (h2 : Int) (h3 : Int) (h4 : List (Ty.T y66)) (c : Nat) : Bool := iK tl yz (h0, h1, h2, h3, h4, ()) c
def IE (h0 : List (Ty.T y66)) (h1 : List (Ty.T y66)) (h2 : Int) (h3 : Int) (h4 : List (Ty.T y66)) : ql := iW tl yz (h0, h1, h2, h3, h4, ())
def OI (v : ql) : aR (Ex × St) := bj tl (yz v) v (aB Ee Cr) [.exit 0] 0
theorem Wo : bg Tryz.prog (aH (pb 4 11) (ae Tryz.f141)) Ee Cr OI := au (lt := .none) Y7.ok ai (ag.no _) fun n v K => Eq.trans (b := tV v (cM _ _ _ _ _ K)) (by kernel_rfl) (show tV v _ = (tV v some).bind _ from (bC (bI (bO fun x1 => (bC (bI rfl) rfl))) rfl))
def ZE := Y7.l (g := 141) (t := (bW (pb 4 11) (ae Tryz.f141) .none (.sum Ee Cr OI))) (aP Tryz.func141 (ag.put (aC (by kernel_rfl)) (ag.no _) Wo))
def abI (a0 : List (Ty.T y66)) : Option (AV × Sig) := cond (DL [] a0 ((a0).length : Int) 0 [] 0) (some (.one (.sl 4096), [(4096, .arr 67 y66 (IE [] a0 ((a0).length : Int) 0 []).2.2.2.2.1 false)])) (none)
def Ph (a0 : List (Ty.T y66)) : (List (Ty.T y66)) := cond (DL [] a0 ((a0).length : Int) 0 [] 0) ((IE [] a0 ((a0).length : Int) 0 []).2.2.2.2.1) ([])
def d141 (a0 : List (Ty.T y66)) : Bool := cond (DL [] a0 ((a0).length : Int) 0 [] 0) (true) (false)
theorem adI (a0 : List (Ty.T y66)) : abI a0 = cond (d141 a0) (some (f141 (Ph a0))) none := (pC (pS _) (pN _))
def ahT : Prim := ⟨[.one (.dat (.sl 67 y66) true)], fun v => .br (d141 v.1) (.done (f141 (Ph v.1))) .no⟩
theorem acg : PO 141 ahT := pK ZE fun v => Eq.trans (b := abI v.1) (by kernel_rfl) (adI v.1)
def f252 (r : Int) : AV × Sig := (.one (.int .i64 r), [])
def ac9 := E0
@[reducible] def Cw : List SP := .one (.dat (.sl 3 (.int .i64)) true) :: oI :: U2 (oI :: U2 (oI :: oI :: U8 (U2 ([]))))
@[reducible] def qk : Type := (List (Ty.T (.int .i64))) × Int × Int × Int × Int × Unit
def tH (v : qk) {Z : Type} (κ : Nat × qk -> Option Z) : Option Z := cond (decide (v.2.2.2.2.1 < v.2.2.2.1)) (if 0 <= v.2.2.2.2.1 then (bq ((v.1)[(v.2.2.2.2.1).toNat]?) (fun x1 => cond (v.2.1 == x1) (κ (1, (v.1, v.2.1, v.2.2.2.2.1, v.2.2.2.1, v.2.2.2.2.1, ()))) (κ (0, (v.1, v.2.1, v.2.2.1, v.2.2.2.1, IntKind.wrap .i64 (v.2.2.2.2.1 + (1 : Int)), ()))))) else none) (κ (2, (v.1, v.2.1, v.2.2.1, v.2.2.2.1, v.2.2.2.2.1, ())))
def tS (v : qk) : Option (Nat × qk) := tH v some
def zB (v : qk) : Nat := v.1.length + v.2.1.toNat + v.2.2.1.toNat + v.2.2.2.1.toNat + v.2.2.2.2.1.toNat + 100
def ll (h0 : List (Ty.T (.int .i64))) (h1 : Int) (h2 : Int) (h3 : Int) (h4 : Int) (c : Nat) : Bool := iK tS zB (h0, h1, h2, h3, h4, ()) c
def Ip (h0 : List (Ty.T (.int .i64))) (h1 : Int) (h2 : Int) (h3 : Int) (h4 : Int) : qk := iW tS zB (h0, h1, h2, h3, h4, ())
def RR (v : qk) : aR (Ex × St) := bj tS (zB v) v (aB Cw aG) [.ret, .exit 0] 0
theorem Wc : bg Tryz.prog (aH (pb 3 5) (ae Tryz.f252)) Cw aG RR := au (lt := .none) ac9.ok ai (ag.no _) fun n v K => Eq.trans (b := tH v (cM _ _ _ _ _ K)) (by kernel_rfl) (show tH v _ = (tH v some).bind _ from (bC (bI (bO fun x1 => (bC rfl rfl))) rfl))
def ZN := ac9.l (g := 252) (t := (bW (pb 3 5) (ae Tryz.f252) .none (.sum Cw aG RR))) (aP Tryz.func252 (ag.put (aC (by kernel_rfl)) (ag.no _) Wc))
def acS (a0 : List (Ty.T (.int .i64))) (a1 : Int) : Option (AV × Sig) := cond (ll a0 a1 0 ((a0).length : Int) 0 0) (some (.one (.int .i64 (Ip a0 a1 0 ((a0).length : Int) 0).2.2.1), [])) (cond (ll a0 a1 0 ((a0).length : Int) 0 1) (some (.one (.int .i64 (-1)), [])) (none))
def Mc (a0 : List (Ty.T (.int .i64))) (a1 : Int) : Int := cond (ll a0 a1 0 ((a0).length : Int) 0 0) ((Ip a0 a1 0 ((a0).length : Int) 0).2.2.1) (cond (ll a0 a1 0 ((a0).length : Int) 0 1) ((-1)) (0))
def d252 (a0 : List (Ty.T (.int .i64))) (a1 : Int) : Bool := cond (ll a0 a1 0 ((a0).length : Int) 0 0) (true) (cond (ll a0 a1 0 ((a0).length : Int) 0 1) (true) (false))
theorem aeP (a0 : List (Ty.T (.int .i64))) (a1 : Int) : acS a0 a1 = cond (d252 a0 a1) (some (f252 (Mc a0 a1))) none := (pC (pS _) (pC (pS _) (pN _)))
def afV : Prim := ⟨[.one (.dat (.sl 3 (.int .i64)) true), oI], fun v => .br (d252 v.1 v.2.1) (.done (f252 (Mc v.1 v.2.1))) .no⟩
theorem YR : PO 252 afV := pK ZN fun v => Eq.trans (b := acS v.1 v.2.1) (by kernel_rfl) (aeP v.1 v.2.1)
def f181 (r : Bool) : AV × Sig := (.one (.bool r), [])
def afx := (E0.p YR)
def YB (a0 : List (Ty.T (.int .i64))) (a1 : Int) : Option (AV × Sig) := cond (d252 a0 a1) (some (.one (.bool (decide ((Mc a0 a1) ≥ (0 : Int)))), [])) (none)
def Nt (a0 : List (Ty.T (.int .i64))) (a1 : Int) : Bool := cond (d252 a0 a1) (decide ((Mc a0 a1) ≥ (0 : Int))) (false)
def d181 (a0 : List (Ty.T (.int .i64))) (a1 : Int) : Bool := cond (d252 a0 a1) (true) (false)
theorem aef (a0 : List (Ty.T (.int .i64))) (a1 : Int) : YB a0 a1 = cond (d181 a0 a1) (some (f181 (Nt a0 a1))) none := (pC (pS _) (pN _))
def ahZ : Prim := ⟨[.one (.dat (.sl 3 (.int .i64)) true), oI], fun v => .br (d181 v.1 v.2.1) (.done (f181 (Nt v.1 v.2.1))) .no⟩
theorem ZM : PO 181 ahZ := pK afx fun v => Eq.trans (b := YB v.1 v.2.1) (by kernel_rfl) (aef v.1 v.2.1)
def f75 (r : Bool) : AV × Sig := (.one (.bool r), [])
def E75 := (E0.p ZM)
def u75 (a0 : List (Ty.T (.int .i64))) (a1 : Int) : Option (AV × Sig) := cond (d181 a0 a1) (some (.one (.bool (Nt a0 a1)), [])) (none)
def v75 (a0 : List (Ty.T (.int .i64))) (a1 : Int) : Bool := cond (d181 a0 a1) ((Nt a0 a1)) (false)
def d75 (a0 : List (Ty.T (.int .i64))) (a1 : Int) : Bool := cond (d181 a0 a1) (true) (false)
theorem o75 (a0 : List (Ty.T (.int .i64))) (a1 : Int) : u75 a0 a1 = cond (d75 a0 a1) (some (f75 (v75 a0 a1))) none := (pC (pS _) (pN _))
def p75 : Prim := ⟨[.one (.dat (.sl 3 (.int .i64)) true), oI], fun v => .br (d75 v.1 v.2.1) (.done (f75 (v75 v.1 v.2.1))) .no⟩
theorem Zr : PO 75 p75 := pK E75 fun v => Eq.trans (b := u75 v.1 v.2.1) (by kernel_rfl) (o75 v.1 v.2.1)
def f253 (r : Bool) : AV × Sig := (.one (.bool r), [])
def ahu := E0
def Zd (a0 : Ty.T aa) (a1 : Int) : Option (AV × Sig) := cond (a0.2.2.2.2.2.2.2.2 != (0 : Int)) (cond (a0.2.2.2.2.2.2.2.1 == (-1 : Int)) (some (.one (.bool true), [])) (some (.one (.bool (decide (a0.2.2.2.2.2.2.2.1 ≥ a1))), []))) (some (.one (.bool false), []))
def LS (a0 : Ty.T aa) (a1 : Int) : Bool := cond (a0.2.2.2.2.2.2.2.2 != (0 : Int)) (cond (a0.2.2.2.2.2.2.2.1 == (-1 : Int)) (true) (decide (a0.2.2.2.2.2.2.2.1 ≥ a1))) (false)
theorem aeY (a0 : Ty.T aa) (a1 : Int) : Zd a0 a1 = some (f253 (LS a0 a1)) := (tC (tC rfl rfl) rfl)
def agi : Prim := ⟨[.agg [.dat aa true], oI], fun v => .done (f253 (LS v.1 v.2.1))⟩
theorem Zk : PO 253 agi := pK ahu fun v => Eq.trans (b := Zd v.1 v.2.1) (by kernel_rfl) (aeY v.1 v.2.1)
def f254 (r : Bool) : AV × Sig := (.one (.bool r), [])
def ae0 := E0
def ZB (a0 : Ty.T aa) (a1 : Ty.T y27) : Option (AV × Sig) := cond (a0.2.2.2.1 != (0 : Int)) (some (.one (.bool true), [])) (cond (a0.2.2.1 == a1.2.1) (some (.one (.bool true), [])) (some (.one (.bool (a0.2.2.1 == a1.2.2.1)), [])))
def Mo (a0 : Ty.T aa) (a1 : Ty.T y27) : Bool := cond (a0.2.2.2.1 != (0 : Int)) (true) (cond (a0.2.2.1 == a1.2.1) (true) ((a0.2.2.1 == a1.2.2.1)))
theorem afs (a0 : Ty.T aa) (a1 : Ty.T y27) : ZB a0 a1 = some (f254 (Mo a0 a1)) := (tC rfl (tC rfl rfl))
def agG : Prim := ⟨[.agg [.dat aa true], .agg [.dat y27 true]], fun v => .done (f254 (Mo v.1 v.2.1))⟩
theorem ac5 : PO 254 agG := pK ae0 fun v => Eq.trans (b := ZB v.1 v.2.1) (by kernel_rfl) (afs v.1 v.2.1)
def f302 (r : (List (Ty.T (.int .i64)))) : AV × Sig := (.one (.sl 4096), [(4096, .arr 3 (.int .i64) r false)])
def Zv := E0
@[reducible] def DF : List SP := .und :: oI :: U2 (.one (.dat (.sl 3 (.int .i64)) false) :: .one (.own 8) :: U4 (.one (.dat (.sl 64 y63) true) :: oI :: oI :: U16 (U4 (U2 (.und :: [])))))
@[reducible] def Ct : List (Nat × GP) := [(8, .arr 3 (.int .i64) false)]
@[reducible] def pH : Type := Int × (List (Ty.T (.int .i64))) × (List (Ty.T y63)) × Int × Int × (List (Ty.T (.int .i64))) × Unit
def uM (v : pH) {Z : Type} (κ : Nat × pH -> Option Z) : Option Z := cond (decide (v.2.2.2.2.1 < v.2.2.2.1)) (if 0 <= v.2.2.2.2.1 then (bq ((v.2.2.1)[(v.2.2.2.2.1).toNat]?) (fun x1 => cond (x1.2.2.2.1 == (2 : Int)) (cond (v.1 == (-1 : Int)) (if (v.2.2.2.2.2.1 ++ [x1.1] : List (Ty.T (.int .i64))).length * 8 <= 140737488351232 then (κ (0, (v.1, v.2.1, v.2.2.1, v.2.2.2.1, IntKind.wrap .i64 (v.2.2.2.2.1 + (1 : Int)), v.2.2.2.2.2.1 ++ [x1.1], ()))) else none) (cond (x1.2.2.1 == v.1) (if (v.2.2.2.2.2.1 ++ [x1.1] : List (Ty.T (.int .i64))).length * 8 <= 140737488351232 then (κ (0, (v.1, v.2.1, v.2.2.1, v.2.2.2.1, IntKind.wrap .i64 (v.2.2.2.2.1 + (1 : Int)), v.2.2.2.2.2.1 ++ [x1.1], ()))) else none) (κ (0, (v.1, v.2.1, v.2.2.1, v.2.2.2.1, IntKind.wrap .i64 (v.2.2.2.2.1 + (1 : Int)), v.2.2.2.2.2.1, ()))))) (κ (0, (v.1, v.2.1, v.2.2.1, v.2.2.2.1, IntKind.wrap .i64 (v.2.2.2.2.1 + (1 : Int)), v.2.2.2.2.2.1, ()))))) else none) (κ (1, (v.1, v.2.1, v.2.2.1, v.2.2.2.1, v.2.2.2.2.1, v.2.2.2.2.2.1, ())))
def vp (v : pH) : Option (Nat × pH) := uM v some
def wV (v : pH) : Nat := v.1.toNat + v.2.1.length + v.2.2.1.length + v.2.2.2.1.toNat + v.2.2.2.2.1.toNat + v.2.2.2.2.2.1.length + 100
def Dz (h0 : Int) (h1 : List (Ty.T (.int .i64))) (h2 : List (Ty.T y63)) (h3 : Int) (h4 : Int) (h5 : List (Ty.T (.int .i64))) (c : Nat) : Bool := iK vp wV (h0, h1, h2, h3, h4, h5, ()) c
def Io (h0 : Int) (h1 : List (Ty.T (.int .i64))) (h2 : List (Ty.T y63)) (h3 : Int) (h4 : Int) (h5 : List (Ty.T (.int .i64))) : pH := iW vp wV (h0, h1, h2, h3, h4, h5, ())
def QK (v : pH) : aR (Ex × St) := bj vp (wV v) v (aB DF Ct) [.exit 0] 0
theorem WM : bg Tryz.prog (aH (pb 4 11) (ae Tryz.f302)) DF Ct QK := au (lt := .none) Zv.ok ai (ag.no _) fun n v K => Eq.trans (b := uM v (cM _ _ _ _ _ K)) (by kernel_rfl) (show uM v _ = (uM v some).bind _ from (bC (bI (bO fun x1 => (bC (bC (bI rfl) (bC (bI rfl) rfl)) rfl))) rfl))
def YW := Zv.l (g := 302) (t := (bW (pb 4 11) (ae Tryz.f302) .none (.sum DF Ct QK))) (aP Tryz.func302 (ag.put (aC (by kernel_rfl)) (ag.no _) WM))
def aa0 (a0 : Ty.T y36) (a1 : Int) : Option (AV × Sig) := cond (Dz a1 [] a0.1 ((a0.1).length : Int) 0 [] 0) (some (.one (.sl 4096), [(4096, .arr 3 (.int .i64) (Io a1 [] a0.1 ((a0.1).length : Int) 0 []).2.2.2.2.2.1 false)])) (none)
def M0 (a0 : Ty.T y36) (a1 : Int) : (List (Ty.T (.int .i64))) := cond (Dz a1 [] a0.1 ((a0.1).length : Int) 0 [] 0) ((Io a1 [] a0.1 ((a0.1).length : Int) 0 []).2.2.2.2.2.1) ([])
def d302 (a0 : Ty.T y36) (a1 : Int) : Bool := cond (Dz a1 [] a0.1 ((a0.1).length : Int) 0 [] 0) (true) (false)
theorem ahO (a0 : Ty.T y36) (a1 : Int) : aa0 a0 a1 = cond (d302 a0 a1) (some (f302 (M0 a0 a1))) none := (pC (pS _) (pN _))
def aeV : Prim := ⟨[.agg [.dat y36 true], oI], fun v => .br (d302 v.1 v.2.1) (.done (f302 (M0 v.1 v.2.1))) .no⟩
theorem abp : PO 302 aeV := pK YW fun v => Eq.trans (b := aa0 v.1 v.2.1) (by kernel_rfl) (ahO v.1 v.2.1)
def f303 (r : Int) : AV × Sig := (.one (.int .i64 r), [])
def Zi := E0
@[reducible] def Cl : List SP := .und :: oI :: U2 (oI :: oI :: U2 (.und :: .one (.dat (.sl 64 y63) true) :: oI :: oI :: U16 (U4 ([]))))
@[reducible] def qA : Type := Int × Int × Int × (List (Ty.T y63)) × Int × Int × Unit
def tq (v : qA) {Z : Type} (κ : Nat × qA -> Option Z) : Option Z := cond (decide (v.2.2.2.2.2.1 < v.2.2.2.2.1)) (if 0 <= v.2.2.2.2.2.1 then (bq ((v.2.2.2.1)[(v.2.2.2.2.2.1).toNat]?) (fun x1 => cond (x1.2.2.2.1 == (2 : Int)) (cond (x1.2.2.1 == v.1) (cond x1.2.2.2.2.2.2.2.2.2.2.2.2 (κ (0, (v.1, v.2.1, IntKind.wrap .i64 (v.2.2.1 + (1 : Int)), v.2.2.2.1, v.2.2.2.2.1, IntKind.wrap .i64 (v.2.2.2.2.2.1 + (1 : Int)), ()))) (κ (0, (v.1, v.2.1, v.2.2.1, v.2.2.2.1, v.2.2.2.2.1, IntKind.wrap .i64 (v.2.2.2.2.2.1 + (1 : Int)), ())))) (κ (0, (v.1, v.2.1, v.2.2.1, v.2.2.2.1, v.2.2.2.2.1, IntKind.wrap .i64 (v.2.2.2.2.2.1 + (1 : Int)), ())))) (κ (0, (v.1, v.2.1, v.2.2.1, v.2.2.2.1, v.2.2.2.2.1, IntKind.wrap .i64 (v.2.2.2.2.2.1 + (1 : Int)), ()))))) else none) (κ (1, (v.1, v.2.1, v.2.2.1, v.2.2.2.1, v.2.2.2.2.1, v.2.2.2.2.2.1, ())))
def vn (v : qA) : Option (Nat × qA) := tq v some
def yl (v : qA) : Nat := v.1.toNat + v.2.1.toNat + v.2.2.1.toNat + v.2.2.2.1.length + v.2.2.2.2.1.toNat + v.2.2.2.2.2.1.toNat + 100
def DU (h0 : Int) (h1 : Int) (h2 : Int) (h3 : List (Ty.T y63)) (h4 : Int) (h5 : Int) (c : Nat) : Bool := iK vn yl (h0, h1, h2, h3, h4, h5, ()) c
def Jw (h0 : Int) (h1 : Int) (h2 : Int) (h3 : List (Ty.T y63)) (h4 : Int) (h5 : Int) : qA := iW vn yl (h0, h1, h2, h3, h4, h5, ())
def QX (v : qA) : aR (Ex × St) := bj vn (yl v) v (aB Cl aG) [.exit 0] 0
theorem Wz : bg Tryz.prog (aH (pb 4 11) (ae Tryz.f303)) Cl aG QX := au (lt := .none) Zi.ok ai (ag.no _) fun n v K => Eq.trans (b := tq v (cM _ _ _ _ _ K)) (by kernel_rfl) (show tq v _ = (tq v some).bind _ from (bC (bI (bO fun x1 => (bC (bC (bC rfl rfl) rfl) rfl))) rfl))
def Zh := Zi.l (g := 303) (t := (bW (pb 4 11) (ae Tryz.f303) .none (.sum Cl aG QX))) (aP Tryz.func303 (ag.put (aC (by kernel_rfl)) (ag.no _) Wz))
def aba (a0 : Ty.T y36) (a1 : Int) : Option (AV × Sig) := cond (DU a1 0 0 a0.1 ((a0.1).length : Int) 0 0) (some (.one (.int .i64 (Jw a1 0 0 a0.1 ((a0.1).length : Int) 0).2.2.1), [])) (none)
def MN (a0 : Ty.T y36) (a1 : Int) : Int := cond (DU a1 0 0 a0.1 ((a0.1).length : Int) 0 0) ((Jw a1 0 0 a0.1 ((a0.1).length : Int) 0).2.2.1) (0)
def d303 (a0 : Ty.T y36) (a1 : Int) : Bool := cond (DU a1 0 0 a0.1 ((a0.1).length : Int) 0 0) (true) (false)
theorem af1 (a0 : Ty.T y36) (a1 : Int) : aba a0 a1 = cond (d303 a0 a1) (some (f303 (MN a0 a1))) none := (pC (pS _) (pN _))
def afh : Prim := ⟨[.agg [.dat y36 true], oI], fun v => .br (d303 v.1 v.2.1) (.done (f303 (MN v.1 v.2.1))) .no⟩
theorem abF : PO 303 afh := pK Zh fun v => Eq.trans (b := aba v.1 v.2.1) (by kernel_rfl) (af1 v.1 v.2.1)
def f255 (r : Bool) : AV × Sig := (.one (.bool r), [])
def aix := ((((E0.p P7).p UL).p abp).p abF)
def acm (a0 : Ty.T y36) (a1 : Int) (a2 : Ty.T a9) : Option (AV × Sig) := cond (!(zJ a2)) (some (.one (.bool false), [])) (cond (!(pn a0 a1)) (some (.one (.bool false), [])) (cond (a2.1 == (1 : Int)) (if 0 <= a1 then (bq ((a0.2.1)[(a1).toNat]?) (fun x1 => some (.one (.bool (decide (x1.1 <= a2.2))), []))) else none) (cond (a2.1 == (2 : Int)) (cond (d302 a0 a1) (some (.one (.bool (decide ((((M0 a0 a1)).length : Int) ≥ a2.2))), [])) (none)) (cond (a2.1 == (3 : Int)) (some (.one (.bool (a0.2.2.1 == a1)), [])) (cond (a2.1 == (4 : Int)) (cond (d303 a0 a1) (some (.one (.bool (decide ((MN a0 a1) ≥ a2.2))), [])) (none)) (some (.one (.bool true), [])))))))
def Il (a0 : Ty.T y36) (a1 : Int) (a2 : Ty.T a9) : Bool := cond (!(zJ a2)) (false) (cond (!(pn a0 a1)) (false) (cond (a2.1 == (1 : Int)) (rR ((a0.2.1)[(a1).toNat]?) false (fun x1 => decide (x1.1 <= a2.2))) (cond (a2.1 == (2 : Int)) (cond (d302 a0 a1) (decide ((((M0 a0 a1)).length : Int) ≥ a2.2)) (false)) (cond (a2.1 == (3 : Int)) ((a0.2.2.1 == a1)) (cond (a2.1 == (4 : Int)) (cond (d303 a0 a1) (decide ((MN a0 a1) ≥ a2.2)) (false)) (true))))))
def d255 (a0 : Ty.T y36) (a1 : Int) (a2 : Ty.T a9) : Bool := cond (!(zJ a2)) (true) (cond (!(pn a0 a1)) (true) (cond (a2.1 == (1 : Int)) (decide (0 <= a1) && (pq ((a0.2.1)[(a1).toNat]?) (fun x1 => true))) (cond (a2.1 == (2 : Int)) (cond (d302 a0 a1) (true) (false)) (cond (a2.1 == (3 : Int)) (true) (cond (a2.1 == (4 : Int)) (cond (d303 a0 a1) (true) (false)) (true))))))
theorem aeH (a0 : Ty.T y36) (a1 : Int) (a2 : Ty.T a9) : acm a0 a1 a2 = cond (d255 a0 a1 a2) (some (f255 (Il a0 a1 a2))) none := (pC (pS _) (pC (pS _) (pC (pI (pO fun x1 => (pS _))) (pC (pC (pS _) (pN _)) (pC (pS _) (pC (pC (pS _) (pN _)) (pS _)))))))
def afA : Prim := ⟨[.agg [.dat y36 true], oI, .agg [.dat a9 true]], fun v => .br (d255 v.1 v.2.1 v.2.2.1) (.done (f255 (Il v.1 v.2.1 v.2.2.1))) .no⟩
theorem aan : PO 255 afA := pK aix fun v => Eq.trans (b := acm v.1 v.2.1 v.2.2.1) (by kernel_rfl) (aeH v.1 v.2.1 v.2.2.1)
def RG (r : Bool) : AV × Sig := (.one (.bool r), [])
def XS := E0
def PX (a0 : Ty.T y63) (a1 : Int) : Option (AV × Sig) := some (.one (.bool (a0.1 == a1)), [])
def D5 (a0 : Ty.T y63) (a1 : Int) : Bool := (a0.1 == a1)
theorem XI (a0 : Ty.T y63) (a1 : Int) : PX a0 a1 = some (RG (D5 a0 a1)) := rfl
def Wb : Prim := ⟨[.agg [.dat y63 true], .one (.ept (.int .i64))], fun v => .done (RG (D5 v.1 v.2.1))⟩
theorem Sz : PO 341 Wb := pK XS fun v => Eq.trans (b := PX v.1 v.2.1) (by kernel_rfl) (XI v.1 v.2.1)
def Nw (r : Int) : AV × Sig := (.one (.int .i64 r), [])
def Q1 := (E0.p Sz)
@[reducible] def uQ : List SP := .one (.dat (.sl 64 y63) true) :: .one (.fnc 341 [(.int .i64)]) :: U2 (oI :: U2 (oI :: oI :: U8 (U2 ([]))))
@[reducible] def iN : Type := (List (Ty.T y63)) × Int × Int × Int × Int × Unit
def lk (v : iN) {Z : Type} (κ : Nat × iN -> Option Z) : Option Z := cond (decide (v.2.2.2.2.1 < v.2.2.2.1)) (if 0 <= v.2.2.2.2.1 then (bq ((v.1)[(v.2.2.2.2.1).toNat]?) (fun x1 => cond (D5 x1 v.2.1) (κ (1, (v.1, v.2.1, v.2.2.2.2.1, v.2.2.2.1, v.2.2.2.2.1, ()))) (κ (0, (v.1, v.2.1, v.2.2.1, v.2.2.2.1, IntKind.wrap .i64 (v.2.2.2.2.1 + (1 : Int)), ()))))) else none) (κ (2, (v.1, v.2.1, v.2.2.1, v.2.2.2.1, v.2.2.2.2.1, ())))
def kC (v : iN) : Option (Nat × iN) := lk v some
def nf (v : iN) : Nat := v.1.length + v.2.1.toNat + v.2.2.1.toNat + v.2.2.2.1.toNat + v.2.2.2.2.1.toNat + 100
def eZ (h0 : List (Ty.T y63)) (h1 : Int) (h2 : Int) (h3 : Int) (h4 : Int) (c : Nat) : Bool := iK kC nf (h0, h1, h2, h3, h4, ()) c
def Ae (h0 : List (Ty.T y63)) (h1 : Int) (h2 : Int) (h3 : Int) (h4 : Int) : iN := iW kC nf (h0, h1, h2, h3, h4, ())
def EK (v : iN) : aR (Ex × St) := bj kC (nf v) v (aB uQ aG) [.ret, .exit 0] 0
theorem RT : bg Tryz.prog (aH (pb 3 5) (ae Tryz.f340)) uQ aG EK := au (lt := .none) Q1.ok ai (ag.no _) fun n v K => Eq.trans (b := lk v (cM _ _ _ _ _ K)) (by kernel_rfl) (show lk v _ = (lk v some).bind _ from (bC (bI (bO fun x1 => (bC rfl rfl))) rfl))
def Ud := Q1.l (g := 340) (t := (bW (pb 3 5) (ae Tryz.f340) .none (.sum uQ aG EK))) (aP Tryz.func340 (ag.put (aC (by kernel_rfl)) (ag.no _) RT))
def Og (a0 : List (Ty.T y63)) (a1_0 : Int) : Option (AV × Sig) := cond (eZ a0 a1_0 0 ((a0).length : Int) 0 0) (some (.one (.int .i64 (Ae a0 a1_0 0 ((a0).length : Int) 0).2.2.1), [])) (cond (eZ a0 a1_0 0 ((a0).length : Int) 0 1) (some (.one (.int .i64 (-1)), [])) (none))
def uL (a0 : List (Ty.T y63)) (a1_0 : Int) : Int := cond (eZ a0 a1_0 0 ((a0).length : Int) 0 0) ((Ae a0 a1_0 0 ((a0).length : Int) 0).2.2.1) (cond (eZ a0 a1_0 0 ((a0).length : Int) 0 1) ((-1)) (0))
def pZ (a0 : List (Ty.T y63)) (a1_0 : Int) : Bool := cond (eZ a0 a1_0 0 ((a0).length : Int) 0 0) (true) (cond (eZ a0 a1_0 0 ((a0).length : Int) 0 1) (true) (false))
theorem XV (a0 : List (Ty.T y63)) (a1_0 : Int) : Og a0 a1_0 = cond (pZ a0 a1_0) (some (Nw (uL a0 a1_0))) none := (pC (pS _) (pC (pS _) (pN _)))
def WN : Prim := ⟨[.one (.dat (.sl 64 y63) true), .one (.fnc 341 [(.int .i64)])], fun v => .br (pZ v.1 v.2.1) (.done (Nw (uL v.1 v.2.1))) .no⟩
theorem TU : PO 340 WN := pK Ud fun v => Eq.trans (b := Og v.1 v.2.1) (by kernel_rfl) (XV v.1 v.2.1)
def f326 (r : Int) : AV × Sig := (.one (.int .i64 r), [])
def aiu := (E0.p TU)
def Y5 (a0 : Ty.T y36) (a1 : Int) : Option (AV × Sig) := cond (pZ a0.1 a1) (some (.one (.int .i64 (uL a0.1 a1)), [])) (none)
def qu (a0 : Ty.T y36) (a1 : Int) : Int := cond (pZ a0.1 a1) ((uL a0.1 a1)) (0)
def d326 (a0 : Ty.T y36) (a1 : Int) : Bool := cond (pZ a0.1 a1) (true) (false)
theorem aip (a0 : Ty.T y36) (a1 : Int) : Y5 a0 a1 = cond (d326 a0 a1) (some (f326 (qu a0 a1))) none := (pC (pS _) (pN _))
def afv : Prim := ⟨[.agg [.dat y36 true], oI], fun v => .br (d326 v.1 v.2.1) (.done (f326 (qu v.1 v.2.1))) .no⟩
theorem UQ : PO 326 afv := pK aiu fun v => Eq.trans (b := Y5 v.1 v.2.1) (by kernel_rfl) (aip v.1 v.2.1)
def f292 (r : Int) : AV × Sig := (.one (.int .i64 r), [])
def agl := ((E0.p P7).p UQ)
def ac4 (a0 : Ty.T y36) (a1 : Ty.T y27) : Option (AV × Sig) := cond (a1.2.2.1 == (0 : Int)) (cond (pn a0 a1.2.2.2.1) (some (.one (.int .i64 a1.2.2.2.1), [])) (some (.one (.int .i64 (-1)), []))) (cond (d326 a0 a1.2.2.1) (cond (decide ((qu a0 a1.2.2.1) < (0 : Int))) (some (.one (.int .i64 (-1)), [])) (if 0 <= (qu a0 a1.2.2.1) then (bq ((a0.1)[(qu a0 a1.2.2.1).toNat]?) (fun x1 => some (.one (.int .i64 x1.2.2.1), []))) else none)) (none))
def tg (a0 : Ty.T y36) (a1 : Ty.T y27) : Int := cond (a1.2.2.1 == (0 : Int)) (cond (pn a0 a1.2.2.2.1) (a1.2.2.2.1) ((-1))) (cond (d326 a0 a1.2.2.1) (cond (decide ((qu a0 a1.2.2.1) < (0 : Int))) ((-1)) (rR ((a0.1)[(qu a0 a1.2.2.1).toNat]?) 0 (fun x1 => x1.2.2.1))) (0))
def d292 (a0 : Ty.T y36) (a1 : Ty.T y27) : Bool := cond (a1.2.2.1 == (0 : Int)) (cond (pn a0 a1.2.2.2.1) (true) (true)) (cond (d326 a0 a1.2.2.1) (cond (decide ((qu a0 a1.2.2.1) < (0 : Int))) (true) (decide (0 <= (qu a0 a1.2.2.1)) && (pq ((a0.1)[(qu a0 a1.2.2.1).toNat]?) (fun x1 => true)))) (false))
theorem ae7 (a0 : Ty.T y36) (a1 : Ty.T y27) : ac4 a0 a1 = cond (d292 a0 a1) (some (f292 (tg a0 a1))) none := (pC (pC (pS _) (pS _)) (pC (pC (pS _) (pI (pO fun x1 => (pS _)))) (pN _)))
def afe : Prim := ⟨[.agg [.dat y36 true], .agg [.dat y27 true]], fun v => .br (d292 v.1 v.2.1) (.done (f292 (tg v.1 v.2.1))) .no⟩
theorem Vd : PO 292 afe := pK agl fun v => Eq.trans (b := ac4 v.1 v.2.1) (by kernel_rfl) (ae7 v.1 v.2.1)
def f304 (r : Bool) : AV × Sig := (.one (.bool r), [])
def aie := (E0.p Vd)
def t304 (a0 : Ty.T y36) (a1 : Int) (a2 : Ty.T bS) (a3 : Ty.T y27) {Z : Type} (κ : Bool -> Option Z) : Option Z := cond (d292 a0 a3) (cond ((tg a0 a3) == (-1 : Int)) (κ false) (cond (a2.2.1 == (1 : Int)) (cond ((tg a0 a3) != a1) (κ false) (cond (a2.2.1 == (2 : Int)) (cond ((tg a0 a3) == a1) (κ false) (cond (a2.2.2.2.2.1 == (0 : Int)) (κ true) (κ (a2.2.2.2.2.1 == a3.2.2.1)))) (cond (a2.2.2.2.2.1 == (0 : Int)) (κ true) (κ (a2.2.2.2.2.1 == a3.2.2.1))))) (cond (a2.2.1 == (2 : Int)) (cond ((tg a0 a3) == a1) (κ false) (cond (a2.2.2.2.2.1 == (0 : Int)) (κ true) (κ (a2.2.2.2.2.1 == a3.2.2.1)))) (cond (a2.2.2.2.2.1 == (0 : Int)) (κ true) (κ (a2.2.2.2.2.1 == a3.2.2.1)))))) (none)
def LI (a0 : Ty.T y36) (a1 : Int) (a2 : Ty.T bS) (a3 : Ty.T y27) : Bool := (t304 a0 a1 a2 a3 some).getD false
def d304 (a0 : Ty.T y36) (a1 : Int) (a2 : Ty.T bS) (a3 : Ty.T y27) : Bool := (t304 a0 a1 a2 a3 some).isSome
def adV : Prim := ⟨[.agg [.dat y36 true], oI, .agg [.dat bS true], .agg [.dat y27 true]], fun v => .br (d304 v.1 v.2.1 v.2.2.1 v.2.2.2.1) (.done (f304 (LI v.1 v.2.1 v.2.2.1 v.2.2.2.1))) .no⟩
theorem abv : PO 304 adV := pK aie fun v => Eq.trans (b := (t304 v.1 v.2.1 v.2.2.1 v.2.2.2.1 (sm f304))) (by kernel_rfl) (ar (show t304 v.1 v.2.1 v.2.2.1 v.2.2.2.1 (sm f304) = (t304 v.1 v.2.1 v.2.2.1 v.2.2.2.1 some).bind _ from by unfold t304; simp only [bb]))
def f329 (r : (Ty.T y63)) : AV × Sig := (.agg (y63.cells false r), [])
def agh := (E0.p UQ)
def Ib (a0 : Ty.T y36) (a1 : Ty.T y27) {Z : Type} (κ : (Ty.T y63) -> Option Z) : Option Z := cond (d326 a0 a1.2.1) (cond (a1.1 != (1 : Int)) (κ (0, 0, 0, 0, 0, 0, 0, 0, 0, 0, 0, false, false)) (cond (decide ((qu a0 a1.2.1) < (0 : Int))) (κ (0, 0, 0, 0, 0, 0, 0, 0, 0, 0, 0, false, false)) (if 0 <= (qu a0 a1.2.1) then (bq ((a0.1)[(qu a0 a1.2.1).toNat]?) (fun x1 => κ x1)) else none))) (none)
def Kh (a0 : Ty.T y36) (a1 : Ty.T y27) : (Ty.T y63) := (Ib a0 a1 some).getD (Ty.zero y63)
def d329 (a0 : Ty.T y36) (a1 : Ty.T y27) : Bool := (Ib a0 a1 some).isSome
def afI : Prim := ⟨[.agg [.dat y36 true], .agg [.dat y27 true]], fun v => .br (d329 v.1 v.2.1) (.done (f329 (Kh v.1 v.2.1))) .no⟩
theorem YN : PO 329 afI := pK agh fun v => Eq.trans (b := (Ib v.1 v.2.1 (sm f329))) (by kernel_rfl) (ar (show Ib v.1 v.2.1 (sm f329) = (Ib v.1 v.2.1 some).bind _ from (bC (bC rfl (bC rfl (bI (bO fun x1 => rfl)))) rfl)))
def f305 (r : Bool) : AV × Sig := (.one (.bool r), [])
def agI := (E0.p YN)
def YC (a0 : Ty.T y36) (a1 : Ty.T bS) (a2 : Ty.T y27) : Option (AV × Sig) := cond (a1.2.2.1 == (0 : Int)) (cond (d329 a0 a2) (some (.one (.bool ((IntKind.wrap .i64 ((BitVec.ofInt (IntKind.bits .i64) (Kh a0 a2).2.2.2.2.2.2.2.1 &&& BitVec.ofInt (IntKind.bits .i64) a1.2.2.2.1).toNat : Int)) == a1.2.2.2.1)), [])) (none)) (cond (a1.2.2.1 == a2.2.1) (cond (d329 a0 a2) (some (.one (.bool ((IntKind.wrap .i64 ((BitVec.ofInt (IntKind.bits .i64) (Kh a0 a2).2.2.2.2.2.2.2.1 &&& BitVec.ofInt (IntKind.bits .i64) a1.2.2.2.1).toNat : Int)) == a1.2.2.2.1)), [])) (none)) (some (.one (.bool false), [])))
def Ie (a0 : Ty.T y36) (a1 : Ty.T bS) (a2 : Ty.T y27) : Bool := cond (a1.2.2.1 == (0 : Int)) (cond (d329 a0 a2) (((IntKind.wrap .i64 ((BitVec.ofInt (IntKind.bits .i64) (Kh a0 a2).2.2.2.2.2.2.2.1 &&& BitVec.ofInt (IntKind.bits .i64) a1.2.2.2.1).toNat : Int)) == a1.2.2.2.1)) (false)) (cond (a1.2.2.1 == a2.2.1) (cond (d329 a0 a2) (((IntKind.wrap .i64 ((BitVec.ofInt (IntKind.bits .i64) (Kh a0 a2).2.2.2.2.2.2.2.1 &&& BitVec.ofInt (IntKind.bits .i64) a1.2.2.2.1).toNat : Int)) == a1.2.2.2.1)) (false)) (false))
def d305 (a0 : Ty.T y36) (a1 : Ty.T bS) (a2 : Ty.T y27) : Bool := cond (a1.2.2.1 == (0 : Int)) (cond (d329 a0 a2) (true) (false)) (cond (a1.2.2.1 == a2.2.1) (cond (d329 a0 a2) (true) (false)) (true))
theorem adP (a0 : Ty.T y36) (a1 : Ty.T bS) (a2 : Ty.T y27) : YC a0 a1 a2 = cond (d305 a0 a1 a2) (some (f305 (Ie a0 a1 a2))) none := (pC (pC (pS _) (pN _)) (pC (pC (pS _) (pN _)) (pS _)))
def ahk : Prim := ⟨[.agg [.dat y36 true], .agg [.dat bS true], .agg [.dat y27 true]], fun v => .br (d305 v.1 v.2.1 v.2.2.1) (.done (f305 (Ie v.1 v.2.1 v.2.2.1))) .no⟩
theorem acQ : PO 305 ahk := pK agI fun v => Eq.trans (b := YC v.1 v.2.1 v.2.2.1) (by kernel_rfl) (adP v.1 v.2.1 v.2.2.1)
def f256 (r : Bool) : AV × Sig := (.one (.bool r), [])
def agY := ((((E0.p UJ).p abv).p acQ).p PS)
def aaa (a0 : Ty.T y36) (a1 : Int) (a2 : Ty.T bS) (a3 : Ty.T y27) : Option (AV × Sig) := cond (yq a2) (cond (v53 a3) (cond (a2.1 == a3.1) (cond (d304 a0 a1 a2 a3) (cond (LI a0 a1 a2 a3) (cond (d305 a0 a2 a3) (cond (Ie a0 a2 a3) (cond (decide (a3.2.2.2.2.1 ≥ a2.2.2.2.2.2.1)) (cond (a2.2.2.2.2.2.2 == (0 : Int)) (some (.one (.bool true), [])) (some (.one (.bool (a2.2.2.2.2.2.2 == a3.2.2.2.2.2.1)), []))) (some (.one (.bool false), []))) (some (.one (.bool false), []))) (none)) (some (.one (.bool false), []))) (none)) (some (.one (.bool false), []))) (some (.one (.bool false), []))) (some (.one (.bool false), []))
def MM (a0 : Ty.T y36) (a1 : Int) (a2 : Ty.T bS) (a3 : Ty.T y27) : Bool := cond (yq a2) (cond (v53 a3) (cond (a2.1 == a3.1) (cond (d304 a0 a1 a2 a3) (cond (LI a0 a1 a2 a3) (cond (d305 a0 a2 a3) (cond (Ie a0 a2 a3) (cond (decide (a3.2.2.2.2.1 ≥ a2.2.2.2.2.2.1)) (cond (a2.2.2.2.2.2.2 == (0 : Int)) (true) ((a2.2.2.2.2.2.2 == a3.2.2.2.2.2.1))) (false)) (false)) (false)) (false)) (false)) (false)) (false)) (false)
def d256 (a0 : Ty.T y36) (a1 : Int) (a2 : Ty.T bS) (a3 : Ty.T y27) : Bool := cond (yq a2) (cond (v53 a3) (cond (a2.1 == a3.1) (cond (d304 a0 a1 a2 a3) (cond (LI a0 a1 a2 a3) (cond (d305 a0 a2 a3) (cond (Ie a0 a2 a3) (cond (decide (a3.2.2.2.2.1 ≥ a2.2.2.2.2.2.1)) (cond (a2.2.2.2.2.2.2 == (0 : Int)) (true) (true)) (true)) (true)) (false)) (true)) (false)) (true)) (true)) (true)
theorem ad0 (a0 : Ty.T y36) (a1 : Int) (a2 : Ty.T bS) (a3 : Ty.T y27) : aaa a0 a1 a2 a3 = cond (d256 a0 a1 a2 a3) (some (f256 (MM a0 a1 a2 a3))) none := (pC (pC (pC (pC (pC (pC (pC (pC (pC (pS _) (pS _)) (pS _)) (pS _)) (pN _)) (pS _)) (pN _)) (pS _)) (pS _)) (pS _))
def agp : Prim := ⟨[.agg [.dat y36 true], oI, .agg [.dat bS true], .agg [.dat y27 true]], fun v => .br (d256 v.1 v.2.1 v.2.2.1 v.2.2.2.1) (.done (f256 (MM v.1 v.2.1 v.2.2.1 v.2.2.2.1))) .no⟩
theorem aay : PO 256 agp := pK agY fun v => Eq.trans (b := aaa v.1 v.2.1 v.2.2.1 v.2.2.2.1) (by kernel_rfl) (ad0 v.1 v.2.1 v.2.2.1 v.2.2.2.1)
def f182 (r : Bool) : AV × Sig := (.one (.bool r), [])
def af9 := (((((E0.p OM).p Zk).p ac5).p aan).p aay)
def ac2 (a0 : Ty.T y36) (a1 : Ty.T aa) (a2 : Ty.T y27) : Option (AV × Sig) := cond (d227 a1) (cond (Ah a1) (cond (LS a1 a0.2.2.2) (cond (Mo a1 a2) (cond (d255 a0 a1.2.1 a1.2.2.2.2.2.1) (cond (Il a0 a1.2.1 a1.2.2.2.2.2.1) (cond (d256 a0 a1.2.1 a1.2.2.2.2.1 a2) (some (.one (.bool (MM a0 a1.2.1 a1.2.2.2.2.1 a2)), [])) (none)) (some (.one (.bool false), []))) (none)) (some (.one (.bool false), []))) (some (.one (.bool false), []))) (some (.one (.bool false), []))) (none)
def Oc (a0 : Ty.T y36) (a1 : Ty.T aa) (a2 : Ty.T y27) : Bool := cond (d227 a1) (cond (Ah a1) (cond (LS a1 a0.2.2.2) (cond (Mo a1 a2) (cond (d255 a0 a1.2.1 a1.2.2.2.2.2.1) (cond (Il a0 a1.2.1 a1.2.2.2.2.2.1) (cond (d256 a0 a1.2.1 a1.2.2.2.2.1 a2) ((MM a0 a1.2.1 a1.2.2.2.2.1 a2)) (false)) (false)) (false)) (false)) (false)) (false)) (false)
def d182 (a0 : Ty.T y36) (a1 : Ty.T aa) (a2 : Ty.T y27) : Bool := cond (d227 a1) (cond (Ah a1) (cond (LS a1 a0.2.2.2) (cond (Mo a1 a2) (cond (d255 a0 a1.2.1 a1.2.2.2.2.2.1) (cond (Il a0 a1.2.1 a1.2.2.2.2.2.1) (cond (d256 a0 a1.2.1 a1.2.2.2.2.1 a2) (true) (false)) (true)) (false)) (true)) (true)) (true)) (false)
theorem ah4 (a0 : Ty.T y36) (a1 : Ty.T aa) (a2 : Ty.T y27) : ac2 a0 a1 a2 = cond (d182 a0 a1 a2) (some (f182 (Oc a0 a1 a2))) none := (pC (pC (pC (pC (pC (pC (pC (pS _) (pN _)) (pS _)) (pN _)) (pS _)) (pS _)) (pS _)) (pN _))
def agL : Prim := ⟨[.agg [.dat y36 true], .agg [.dat aa true], .agg [.dat y27 true]], fun v => .br (d182 v.1 v.2.1 v.2.2.1) (.done (f182 (Oc v.1 v.2.1 v.2.2.1))) .no⟩
theorem acZ : PO 182 agL := pK af9 fun v => Eq.trans (b := ac2 v.1 v.2.1 v.2.2.1) (by kernel_rfl) (ah4 v.1 v.2.1 v.2.2.1)
def f76 (r : (List (Ty.T (.int .i64)))) : AV × Sig := (.one (.sl 4096), [(4096, .arr 3 (.int .i64) r false)])
def E76 := ((E0.p acZ).p Zr)
@[reducible] def J7 : List SP := U2 (.und :: .one (.dat (.sl 3 (.int .i64)) true) :: .one (.ptr 4 0) :: .und :: .one (.ptr 6 0) :: .und :: .one (.dat (.sl 3 (.int .i64)) false) :: .one (.own 13) :: oI :: U2 (.und :: .one (.dat (.sl 109 aa) true) :: oI :: oI :: U32 (U4 (U2 ([])))))
@[reducible] def Iw : List (Nat × GP) := [(4, .box 37 [.dat y36 true]), (6, .box 41 [.dat y27 false]), (13, .arr 3 (.int .i64) false)]
@[reducible] def z9 : Type := (List (Ty.T (.int .i64))) × (List (Ty.T (.int .i64))) × Int × (List (Ty.T aa)) × Int × Int × (Ty.T y36) × (Ty.T y27) × (List (Ty.T (.int .i64))) × Unit
def yS (v : z9) {Z : Type} (κ : Nat × z9 -> Option Z) : Option Z := cond (decide (v.2.2.2.2.2.1 < v.2.2.2.2.1)) (if 0 <= v.2.2.2.2.2.1 then (bq ((v.2.2.2.1)[(v.2.2.2.2.2.1).toNat]?) (fun x1 => cond (d75 v.1 x1.1) (cond (v75 v.1 x1.1) (κ (0, (v.1, v.2.1, v.2.2.1, v.2.2.2.1, v.2.2.2.2.1, IntKind.wrap .i64 (v.2.2.2.2.2.1 + (1 : Int)), v.2.2.2.2.2.2.1, v.2.2.2.2.2.2.2.1, v.2.2.2.2.2.2.2.2.1, ()))) (cond (d182 v.2.2.2.2.2.2.1 x1 v.2.2.2.2.2.2.2.1) (cond (!(Oc v.2.2.2.2.2.2.1 x1 v.2.2.2.2.2.2.2.1)) (κ (0, (v.1, v.2.1, v.2.2.1, v.2.2.2.1, v.2.2.2.2.1, IntKind.wrap .i64 (v.2.2.2.2.2.1 + (1 : Int)), v.2.2.2.2.2.2.1, v.2.2.2.2.2.2.2.1, v.2.2.2.2.2.2.2.2.1, ()))) (cond (((v.2.2.2.2.2.2.2.2.1).length : Int) == (0 : Int)) (if (0 : Int) <= ((v.2.2.2.2.2.2.2.2.1).length : Int) then (cond (x1.2.2.2.1 == x1.2.2.2.1) (if ((((v.2.2.2.2.2.2.2.2.1).drop 0).take 0) ++ [x1.1] : List (Ty.T (.int .i64))).length * 8 <= 140737488351232 then (κ (0, (v.1, v.2.1, x1.2.2.2.1, v.2.2.2.1, v.2.2.2.2.1, IntKind.wrap .i64 (v.2.2.2.2.2.1 + (1 : Int)), v.2.2.2.2.2.2.1, v.2.2.2.2.2.2.2.1, (((v.2.2.2.2.2.2.2.2.1).drop 0).take 0) ++ [x1.1], ()))) else none) (κ (0, (v.1, v.2.1, x1.2.2.2.1, v.2.2.2.1, v.2.2.2.2.1, IntKind.wrap .i64 (v.2.2.2.2.2.1 + (1 : Int)), v.2.2.2.2.2.2.1, v.2.2.2.2.2.2.2.1, v.2.2.2.2.2.2.2.2.1.take 0, ())))) else none) (cond (decide (x1.2.2.2.1 < v.2.2.1)) (if (0 : Int) <= ((v.2.2.2.2.2.2.2.2.1).length : Int) then (cond (x1.2.2.2.1 == x1.2.2.2.1) (if ((((v.2.2.2.2.2.2.2.2.1).drop 0).take 0) ++ [x1.1] : List (Ty.T (.int .i64))).length * 8 <= 140737488351232 then (κ (0, (v.1, v.2.1, x1.2.2.2.1, v.2.2.2.1, v.2.2.2.2.1, IntKind.wrap .i64 (v.2.2.2.2.2.1 + (1 : Int)), v.2.2.2.2.2.2.1, v.2.2.2.2.2.2.2.1, (((v.2.2.2.2.2.2.2.2.1).drop 0).take 0) ++ [x1.1], ()))) else none) (κ (0, (v.1, v.2.1, x1.2.2.2.1, v.2.2.2.1, v.2.2.2.2.1, IntKind.wrap .i64 (v.2.2.2.2.2.1 + (1 : Int)), v.2.2.2.2.2.2.1, v.2.2.2.2.2.2.2.1, v.2.2.2.2.2.2.2.2.1.take 0, ())))) else none) (cond (x1.2.2.2.1 == v.2.2.1) (if (v.2.2.2.2.2.2.2.2.1 ++ [x1.1] : List (Ty.T (.int .i64))).length * 8 <= 140737488351232 then (κ (0, (v.1, v.2.1, v.2.2.1, v.2.2.2.1, v.2.2.2.2.1, IntKind.wrap .i64 (v.2.2.2.2.2.1 + (1 : Int)), v.2.2.2.2.2.2.1, v.2.2.2.2.2.2.2.1, v.2.2.2.2.2.2.2.2.1 ++ [x1.1], ()))) else none) (κ (0, (v.1, v.2.1, v.2.2.1, v.2.2.2.1, v.2.2.2.2.1, IntKind.wrap .i64 (v.2.2.2.2.2.1 + (1 : Int)), v.2.2.2.2.2.2.1, v.2.2.2.2.2.2.2.1, v.2.2.2.2.2.2.2.2.1, ()))))))) (none))) (none))) else none) (κ (1, (v.1, v.2.1, v.2.2.1, v.2.2.2.1, v.2.2.2.2.1, v.2.2.2.2.2.1, v.2.2.2.2.2.2.1, v.2.2.2.2.2.2.2.1, v.2.2.2.2.2.2.2.2.1, ())))
def xm (v : z9) : Option (Nat × z9) := yS v some
def FH (v : z9) : Nat := v.1.length + v.2.1.length + v.2.2.1.toNat + v.2.2.2.1.length + v.2.2.2.2.1.toNat + v.2.2.2.2.2.1.toNat + v.2.2.2.2.2.2.1.1.length + v.2.2.2.2.2.2.1.2.1.length + v.2.2.2.2.2.2.2.2.1.length + 100
def K9 (h0 : List (Ty.T (.int .i64))) (h1 : List (Ty.T (.int .i64))) (h2 : Int) (h3 : List (Ty.T aa)) (h4 : Int) (h5 : Int) (h6 : Ty.T y36) (h7 : Ty.T y27) (h8 : List (Ty.T (.int .i64))) (c : Nat) : Bool := iK xm FH (h0, h1, h2, h3, h4, h5, h6, h7, h8, ()) c
def Oh (h0 : List (Ty.T (.int .i64))) (h1 : List (Ty.T (.int .i64))) (h2 : Int) (h3 : List (Ty.T aa)) (h4 : Int) (h5 : Int) (h6 : Ty.T y36) (h7 : Ty.T y27) (h8 : List (Ty.T (.int .i64))) : z9 := iW xm FH (h0, h1, h2, h3, h4, h5, h6, h7, h8, ())
def Vo (v : z9) : aR (Ex × St) := bj xm (FH v) v (aB J7 Iw) [.exit 0] 0
theorem acM : bg Tryz.prog (aH (pb 5 23) (ae Tryz.f76)) J7 Iw Vo := au (lt := .none) E76.ok ai (ag.no _) fun n v K => Eq.trans (b := yS v (cM _ _ _ _ _ K)) (by kernel_rfl) (show yS v _ = (yS v some).bind _ from (bC (bI (bO fun x1 => (bC (bC rfl (bC (bC rfl (bC (bI (bC (bI rfl) rfl)) (bC (bI (bC (bI rfl) rfl)) (bC (bI rfl) rfl)))) rfl)) rfl))) rfl))
def ae2 := E76.l (g := 76) (t := (bW (pb 5 23) (ae Tryz.f76) .none (.sum J7 Iw Vo))) (aP Tryz.func76 (ag.put (aC (by kernel_rfl)) (ag.no _) acM))
def u76 (a0 : Ty.T y36) (a1 : List (Ty.T aa)) (a2 : Ty.T y27) (a3 : List (Ty.T (.int .i64))) : Option (AV × Sig) := cond (K9 a3 [] 0 a1 ((a1).length : Int) 0 a0 a2 [] 0) (some (.one (.sl 4096), [(4096, .arr 3 (.int .i64) (Oh a3 [] 0 a1 ((a1).length : Int) 0 a0 a2 []).2.2.2.2.2.2.2.2.1 false)])) (none)
def v76 (a0 : Ty.T y36) (a1 : List (Ty.T aa)) (a2 : Ty.T y27) (a3 : List (Ty.T (.int .i64))) : (List (Ty.T (.int .i64))) := cond (K9 a3 [] 0 a1 ((a1).length : Int) 0 a0 a2 [] 0) ((Oh a3 [] 0 a1 ((a1).length : Int) 0 a0 a2 []).2.2.2.2.2.2.2.2.1) ([])
def d76 (a0 : Ty.T y36) (a1 : List (Ty.T aa)) (a2 : Ty.T y27) (a3 : List (Ty.T (.int .i64))) : Bool := cond (K9 a3 [] 0 a1 ((a1).length : Int) 0 a0 a2 [] 0) (true) (false)
theorem o76 (a0 : Ty.T y36) (a1 : List (Ty.T aa)) (a2 : Ty.T y27) (a3 : List (Ty.T (.int .i64))) : u76 a0 a1 a2 a3 = cond (d76 a0 a1 a2 a3) (some (f76 (v76 a0 a1 a2 a3))) none := (pC (pS _) (pN _))
def p76 : Prim := ⟨[.agg [.dat y36 true], .one (.dat (.sl 109 aa) true), .agg [.dat y27 true], .one (.dat (.sl 3 (.int .i64)) true)], fun v => .br (d76 v.1 v.2.1 v.2.2.1 v.2.2.2.1) (.done (f76 (v76 v.1 v.2.1 v.2.2.1 v.2.2.2.1))) .no⟩
theorem acy : PO 76 p76 := pK ae2 fun v => Eq.trans (b := u76 v.1 v.2.1 v.2.2.1 v.2.2.2.1) (by kernel_rfl) (o76 v.1 v.2.1 v.2.2.1 v.2.2.2.1)
def f54 (r : Bool) : AV × Sig := (.one (.bool r), [])
def E54 := E0
def u54 (a0 : Ty.T y27) : Option (AV × Sig) := cond (a0.2.2.2.2.1 == (0 : Int)) (some (.one (.bool (a0.1 != (2 : Int))), [])) (some (.one (.bool false), []))
def v54 (a0 : Ty.T y27) : Bool := cond (a0.2.2.2.2.1 == (0 : Int)) ((a0.1 != (2 : Int))) (false)
theorem o54 (a0 : Ty.T y27) : u54 a0 = some (f54 (v54 a0)) := (tC rfl rfl)
def p54 : Prim := ⟨[.agg [.dat y27 true]], fun v => .done (f54 (v54 v.1))⟩
theorem aaD : PO 54 p54 := pK E54 fun v => Eq.trans (b := u54 v.1) (by kernel_rfl) (o54 v.1)
def f138 (r : Int × (List (Ty.T (.int .i64)))) : AV × Sig := (.tup [(false, ([.int .i64 r.1])), (false, ([.sl 8192]))], [(8192, .arr 3 (.int .i64) r.2 false)])
def agc := (E0.p Pt)
def t138 (a0 : List (Ty.T (.int .i64))) (a1 : Int) {Z : Type} (κ : Int × (List (Ty.T (.int .i64))) -> Option Z) : Option Z := cond (decide (a1 < (2 : Int))) (cond (d135 a0) (κ (0, (fM a0))) (none)) (cond (((a0).length : Int) == (0 : Int)) (cond (d135 a0) (κ (0, (fM a0))) (none)) (bq ((a0)[0]?) (fun x1 => if a1 = 0 then none else (cond (decide ((Int.tmod x1 a1) < (0 : Int))) (if (1 : Int) <= ((a0).length : Int) then (cond (d135 ((a0.take ((a0).length)).drop 1)) (κ (IntKind.wrap .i64 ((Int.tmod x1 a1) + a1), (fM ((a0.take ((a0).length)).drop 1)))) (none)) else none) (if (1 : Int) <= ((a0).length : Int) then (cond (d135 ((a0.take ((a0).length)).drop 1)) (κ (Int.tmod x1 a1, (fM ((a0.take ((a0).length)).drop 1)))) (none)) else none)))))
def Fp (a0 : List (Ty.T (.int .i64))) (a1 : Int) : Int × (List (Ty.T (.int .i64))) := (t138 a0 a1 some).getD (0, [])
def d138 (a0 : List (Ty.T (.int .i64))) (a1 : Int) : Bool := (t138 a0 a1 some).isSome
def agF : Prim := ⟨[.one (.dat (.sl 3 (.int .i64)) true), oI], fun v => .br (d138 v.1 v.2.1) (.done (f138 (Fp v.1 v.2.1))) .no⟩
theorem aaW : PO 138 agF := pK agc fun v => Eq.trans (b := (t138 v.1 v.2.1 (sm f138))) (by kernel_rfl) (ar (show t138 v.1 v.2.1 (sm f138) = (t138 v.1 v.2.1 some).bind _ from by unfold t138; simp only [bb]))
def Jh (r : Int × Bool × (Ty.T y36) × (List (Ty.T y27)) × (List (Ty.T aa)) × (List (Ty.T (.int .i64))) × (List (Ty.T y66))) : AV × Sig := (.tup [(false, ([.int .i64 r.1])), (false, ([.bool r.2.1]))], [(4294967296, .box 165 ([.ptr 4294967297 0 0])), (4294967297, .box 169 ((y36.cells true r.2.2.1) ++ [.sl 17055744] ++ [.sl 17059840] ++ [.sl 17063936] ++ [.sl 17068032] ++ [.fnp 137 [4294967296]] ++ [.fn 139 []])), (17055744, .arr 41 y27 r.2.2.2.1 false), (17059840, .arr 109 aa r.2.2.2.2.1 false), (17063936, .arr 3 (.int .i64) r.2.2.2.2.2.1 false), (17068032, .arr 67 y66 r.2.2.2.2.2.2 false)])
def WB := (E0.p aaW)
def uU (a0 : Int) (a1 : Ty.T y36) (a2 : List (Ty.T y27)) (a3 : List (Ty.T aa)) (a4 : List (Ty.T (.int .i64))) (a5 : List (Ty.T y66)) {Z : Type} (κ : Int × Bool × (Ty.T y36) × (List (Ty.T y27)) × (List (Ty.T aa)) × (List (Ty.T (.int .i64))) × (List (Ty.T y66)) -> Option Z) : Option Z := cond (d138 a4 a0) (κ ((Fp a4 a0).1, true, a1, a2, a3, (Fp a4 a0).2, a5)) (none)
def bJ (a0 : Int) (a1 : Ty.T y36) (a2 : List (Ty.T y27)) (a3 : List (Ty.T aa)) (a4 : List (Ty.T (.int .i64))) (a5 : List (Ty.T y66)) : Int × Bool × (Ty.T y36) × (List (Ty.T y27)) × (List (Ty.T aa)) × (List (Ty.T (.int .i64))) × (List (Ty.T y66)) := (uU a0 a1 a2 a3 a4 a5 some).getD (0, false, (Ty.zero y36), [], [], [], [])
def DG (a0 : Int) (a1 : Ty.T y36) (a2 : List (Ty.T y27)) (a3 : List (Ty.T aa)) (a4 : List (Ty.T (.int .i64))) (a5 : List (Ty.T y66)) : Bool := (uU a0 a1 a2 a3 a4 a5 some).isSome
def W7 : Gen := ⟨[false, false], [oI, .one (.ptr 4294967296 0)], [(4294967296, .box 165 [.ptr 4294967297 0]), (4294967297, .box 169 [.dat y36 true, .own 17055744, .own 17059840, .own 17063936, .own 17068032, .fnp 137 [4294967296], .fnc 139 []]), (17055744, .arr 41 y27 false), (17059840, .arr 109 aa false), (17063936, .arr 3 (.int .i64) false), (17068032, .arr 67 y66 false)], fun v => .br (DG v.1 v.2.1 v.2.2.1 v.2.2.2.1 v.2.2.2.2.1 v.2.2.2.2.2.1) (.done (Jh (bJ v.1 v.2.1 v.2.2.1 v.2.2.2.1 v.2.2.2.2.1 v.2.2.2.2.2.1))) .no⟩
theorem Uv : bw Tryz.prog 137 W7 := bF WB.ok ai (aC (by kernel_rfl)) ⟨Tryz.f137, ae Tryz.f137, by kernel_rfl, by kernel_rfl⟩ fun v => Eq.trans (b := (uU v.1 v.2.1 v.2.2.1 v.2.2.2.1 v.2.2.2.2.1 v.2.2.2.2.2.1 (sm Jh))) (by kernel_rfl) (ar (show uU v.1 v.2.1 v.2.2.1 v.2.2.2.1 v.2.2.2.2.1 v.2.2.2.2.2.1 (sm Jh) = (uU v.1 v.2.1 v.2.2.1 v.2.2.2.1 v.2.2.2.2.1 v.2.2.2.2.2.1 some).bind _ from (bC rfl rfl)))
def Qa (r : Bool) : AV × Sig := (.one (.bool r), [])
def Yn := E0
def RJ (a0 : Ty.T aa) (a1 : Int) : Option (AV × Sig) := some (.one (.bool (a0.1 == a1)), [])
def Dj (a0 : Ty.T aa) (a1 : Int) : Bool := (a0.1 == a1)
theorem Xe (a0 : Ty.T aa) (a1 : Int) : RJ a0 a1 = some (Qa (Dj a0 a1)) := rfl
def W9 : Prim := ⟨[.agg [.dat aa true], .one (.ept (.int .i64))], fun v => .done (Qa (Dj v.1 v.2.1))⟩
theorem Sx : PO 291 W9 := pK Yn fun v => Eq.trans (b := RJ v.1 v.2.1) (by kernel_rfl) (Xe v.1 v.2.1)
def N9 (r : Int) : AV × Sig := (.one (.int .i64 r), [])
def RO := (E0.p Sx)
@[reducible] def uf : List SP := .one (.dat (.sl 109 aa) true) :: .one (.fnc 291 [(.int .i64)]) :: U2 (oI :: U2 (oI :: oI :: U8 (U2 ([]))))
@[reducible] def im : Type := (List (Ty.T aa)) × Int × Int × Int × Int × Unit
def kW (v : im) {Z : Type} (κ : Nat × im -> Option Z) : Option Z := cond (decide (v.2.2.2.2.1 < v.2.2.2.1)) (if 0 <= v.2.2.2.2.1 then (bq ((v.1)[(v.2.2.2.2.1).toNat]?) (fun x1 => cond (Dj x1 v.2.1) (κ (1, (v.1, v.2.1, v.2.2.2.2.1, v.2.2.2.1, v.2.2.2.2.1, ()))) (κ (0, (v.1, v.2.1, v.2.2.1, v.2.2.2.1, IntKind.wrap .i64 (v.2.2.2.2.1 + (1 : Int)), ()))))) else none) (κ (2, (v.1, v.2.1, v.2.2.1, v.2.2.2.1, v.2.2.2.2.1, ())))
def lj (v : im) : Option (Nat × im) := kW v some
def mn (v : im) : Nat := v.1.length + v.2.1.toNat + v.2.2.1.toNat + v.2.2.2.1.toNat + v.2.2.2.2.1.toNat + 100
def e8 (h0 : List (Ty.T aa)) (h1 : Int) (h2 : Int) (h3 : Int) (h4 : Int) (c : Nat) : Bool := iK lj mn (h0, h1, h2, h3, h4, ()) c
def yu (h0 : List (Ty.T aa)) (h1 : Int) (h2 : Int) (h3 : Int) (h4 : Int) : im := iW lj mn (h0, h1, h2, h3, h4, ())
def GM (v : im) : aR (Ex × St) := bj lj (mn v) v (aB uf aG) [.ret, .exit 0] 0
theorem NC : bg Tryz.prog (aH (pb 3 5) (ae Tryz.f290)) uf aG GM := au (lt := .none) RO.ok ai (ag.no _) fun n v K => Eq.trans (b := kW v (cM _ _ _ _ _ K)) (by kernel_rfl) (show kW v _ = (kW v some).bind _ from (bC (bI (bO fun x1 => (bC rfl rfl))) rfl))
def Td := RO.l (g := 290) (t := (bW (pb 3 5) (ae Tryz.f290) .none (.sum uf aG GM))) (aP Tryz.func290 (ag.put (aC (by kernel_rfl)) (ag.no _) NC))
def Rr (a0 : List (Ty.T aa)) (a1_0 : Int) : Option (AV × Sig) := cond (e8 a0 a1_0 0 ((a0).length : Int) 0 0) (some (.one (.int .i64 (yu a0 a1_0 0 ((a0).length : Int) 0).2.2.1), [])) (cond (e8 a0 a1_0 0 ((a0).length : Int) 0 1) (some (.one (.int .i64 (-1)), [])) (none))
def sP (a0 : List (Ty.T aa)) (a1_0 : Int) : Int := cond (e8 a0 a1_0 0 ((a0).length : Int) 0 0) ((yu a0 a1_0 0 ((a0).length : Int) 0).2.2.1) (cond (e8 a0 a1_0 0 ((a0).length : Int) 0 1) ((-1)) (0))
def qg (a0 : List (Ty.T aa)) (a1_0 : Int) : Bool := cond (e8 a0 a1_0 0 ((a0).length : Int) 0 0) (true) (cond (e8 a0 a1_0 0 ((a0).length : Int) 0 1) (true) (false))
theorem Xv (a0 : List (Ty.T aa)) (a1_0 : Int) : Rr a0 a1_0 = cond (qg a0 a1_0) (some (N9 (sP a0 a1_0))) none := (pC (pS _) (pC (pS _) (pN _)))
def WA : Prim := ⟨[.one (.dat (.sl 109 aa) true), .one (.fnc 291 [(.int .i64)])], fun v => .br (qg v.1 v.2.1) (.done (N9 (sP v.1 v.2.1))) .no⟩
theorem T4 : PO 290 WA := pK Td fun v => Eq.trans (b := Rr v.1 v.2.1) (by kernel_rfl) (Xv v.1 v.2.1)
def f229 (r : Int) : AV × Sig := (.one (.int .i64 r), [])
def ah7 := (E0.p T4)
def aco (a0 : List (Ty.T aa)) (a1 : Int) : Option (AV × Sig) := cond (qg a0 a1) (some (.one (.int .i64 (sP a0 a1)), [])) (none)
def Ag (a0 : List (Ty.T aa)) (a1 : Int) : Int := cond (qg a0 a1) ((sP a0 a1)) (0)
def d229 (a0 : List (Ty.T aa)) (a1 : Int) : Bool := cond (qg a0 a1) (true) (false)
theorem adu (a0 : List (Ty.T aa)) (a1 : Int) : aco a0 a1 = cond (d229 a0 a1) (some (f229 (Ag a0 a1))) none := (pC (pS _) (pN _))
def ahQ : Prim := ⟨[.one (.dat (.sl 109 aa) true), oI], fun v => .br (d229 v.1 v.2.1) (.done (f229 (Ag v.1 v.2.1))) .no⟩
theorem VA : PO 229 ahQ := pK ah7 fun v => Eq.trans (b := aco v.1 v.2.1) (by kernel_rfl) (adu v.1 v.2.1)
def f192 (r : Int) : AV × Sig := (.one (.int .i64 r), [])
def aex := E0
def aa5 (a0 : Int) (a1 : Int) : Option (AV × Sig) := some (.one (.int .i64 (if (if a1 < a0 then a1 else a0) > (0 : Int) then if a1 < a0 then a1 else a0 else 0)), [])
def kP (a0 : Int) (a1 : Int) : Int := if (if a1 < a0 then a1 else a0) > (0 : Int) then if a1 < a0 then a1 else a0 else 0
theorem adZ (a0 : Int) (a1 : Int) : aa5 a0 a1 = some (f192 (kP a0 a1)) := rfl
def ah0 : Prim := ⟨[oI, oI], fun v => .done (f192 (kP v.1 v.2.1))⟩
theorem Hq : PO 192 ah0 := pK aex fun v => Eq.trans (b := aa5 v.1 v.2.1) (by kernel_rfl) (adZ v.1 v.2.1)
def f323 (r : (Ty.T y27)) : AV × Sig := (.agg (y27.cells false r), [])
def ags := (E0.p Hq)
def abW (a0 : Ty.T y27) (a1 : Int) : Option (AV × Sig) := some (.agg [.int .i64 a0.1, .int .i64 a0.2.1, .int .i64 a0.2.2.1, .int .i64 a0.2.2.2.1, .int .i64 (kP a1 2147483647), .int .i64 a0.2.2.2.2.2.1, .bool a0.2.2.2.2.2.2], [])
def HQ (a0 : Ty.T y27) (a1 : Int) : (Ty.T y27) := (a0.1, a0.2.1, a0.2.2.1, a0.2.2.2.1, (kP a1 2147483647), a0.2.2.2.2.2)
theorem aiJ (a0 : Ty.T y27) (a1 : Int) : abW a0 a1 = some (f323 (HQ a0 a1)) := rfl
def aem : Prim := ⟨[.agg [.dat y27 true], oI], fun v => .done (f323 (HQ v.1 v.2.1))⟩
theorem aaq : PO 323 aem := pK ags fun v => Eq.trans (b := abW v.1 v.2.1) (by kernel_rfl) (aiJ v.1 v.2.1)
def f220 (r : Int) : AV × Sig := (.one (.int .i64 r), [])
def afX := (E0.p Bw)
def YD (a0 : Int) (a1 : Int) : Option (AV × Sig) := some (.one (.int .i64 (fD (IntKind.wrap .i64 ((fD a0) + (fD a1))))), [])
def Mz (a0 : Int) (a1 : Int) : Int := (fD (IntKind.wrap .i64 ((fD a0) + (fD a1))))
theorem af8 (a0 : Int) (a1 : Int) : YD a0 a1 = some (f220 (Mz a0 a1)) := rfl
def adU : Prim := ⟨[oI, oI], fun v => .done (f220 (Mz v.1 v.2.1))⟩
theorem ZJ : PO 220 adU := pK afX fun v => Eq.trans (b := YD v.1 v.2.1) (by kernel_rfl) (af8 v.1 v.2.1)
def f338 (r : Int) : AV × Sig := (.one (.int .i64 r), [])
def agP := (E0.p Bw)
def aaw (a0 : Int) : Option (AV × Sig) := some (.one (.int .i64 (fD (IntKind.wrap .i64 ((2 : Int) * (fD a0))))), [])
def Mn (a0 : Int) : Int := (fD (IntKind.wrap .i64 ((2 : Int) * (fD a0))))
theorem aio (a0 : Int) : aaw a0 = some (f338 (Mn a0)) := rfl
def adW : Prim := ⟨[oI], fun v => .done (f338 (Mn v.1))⟩
theorem acB : PO 338 adW := pK agP fun v => Eq.trans (b := aaw v.1) (by kernel_rfl) (aio v.1)
def f339 (r : Int) : AV × Sig := (.one (.int .i64 r), [])
def agR := (E0.p Bw)
def YG (a0 : Int) : Option (AV × Sig) := some (.one (.int .i64 (IntKind.wrap .i64 ((fD a0).tdiv (2 : Int)))), [])
def Mb (a0 : Int) : Int := IntKind.wrap .i64 ((fD a0).tdiv (2 : Int))
theorem ahh (a0 : Int) : YG a0 = some (f339 (Mb a0)) := rfl
def afT : Prim := ⟨[oI], fun v => .done (f339 (Mb v.1))⟩
theorem ab3 : PO 339 afT := pK agR fun v => Eq.trans (b := YG v.1) (by kernel_rfl) (ahh v.1)
def f324 (r : Int) : AV × Sig := (.one (.int .i64 r), [])
def afD := ((((E0.p Hq).p ZJ).p acB).p ab3)
def aak (a0 : Ty.T bp) (a1 : Int) : Option (AV × Sig) := cond (a0.1 == (1 : Int)) (some (.one (.int .i64 0), [])) (cond (a0.1 == (3 : Int)) (some (.one (.int .i64 (Mz (kP a1 2147483647) a0.2.1)), [])) (cond (a0.1 == (4 : Int)) (some (.one (.int .i64 (Mn (kP a1 2147483647))), [])) (cond (a0.1 == (5 : Int)) (some (.one (.int .i64 (Mb (kP a1 2147483647))), [])) (some (.one (.int .i64 (kP a1 2147483647)), [])))))
def Jq (a0 : Ty.T bp) (a1 : Int) : Int := cond (a0.1 == (1 : Int)) (0) (cond (a0.1 == (3 : Int)) ((Mz (kP a1 2147483647) a0.2.1)) (cond (a0.1 == (4 : Int)) ((Mn (kP a1 2147483647))) (cond (a0.1 == (5 : Int)) ((Mb (kP a1 2147483647))) ((kP a1 2147483647)))))
theorem aeL (a0 : Ty.T bp) (a1 : Int) : aak a0 a1 = some (f324 (Jq a0 a1)) := (tC rfl (tC rfl (tC rfl (tC rfl rfl))))
def ahC : Prim := ⟨[.agg [.dat bp true], oI], fun v => .done (f324 (Jq v.1 v.2.1))⟩
theorem ab0 : PO 324 ahC := pK afD fun v => Eq.trans (b := aak v.1 v.2.1) (by kernel_rfl) (aeL v.1 v.2.1)
def f325 (r : (List (Ty.T y27))) : AV × Sig := (.one (.sl 4096), [(4096, .arr 41 y27 r false)])
def aaV := (E0.p Hq)
@[reducible] def Dl : List SP := U2 (.und :: .one (.ptr 3 0) :: .one (.dat (.sl 41 y27) false) :: .one (.own 8) :: U8 (.one (.dat (.sl 41 y27) true) :: oI :: oI :: U16 ([])))
@[reducible] def Dx : List (Nat × GP) := [(3, .box 41 [.dat y27 false]), (8, .arr 41 y27 false)]
@[reducible] def qX : Type := (List (Ty.T y27)) × (List (Ty.T y27)) × Int × Int × (Ty.T y27) × (List (Ty.T y27)) × Unit
def tZ (v : qX) {Z : Type} (κ : Nat × qX -> Option Z) : Option Z := cond (decide (v.2.2.2.1 < v.2.2.1)) (if 0 <= v.2.2.2.1 then (bq ((v.2.1)[(v.2.2.2.1).toNat]?) (fun x1 => cond (x1.2.2.2.2.1 == (-1 : Int)) (if (v.2.2.2.2.2.1 ++ [(x1.1, x1.2.1, x1.2.2.1, x1.2.2.2.1, (kP v.2.2.2.2.1.2.2.2.2.1 2147483647), x1.2.2.2.2.2)] : List (Ty.T y27)).length * 56 <= 140737488351232 then (κ (0, (v.1, v.2.1, v.2.2.1, IntKind.wrap .i64 (v.2.2.2.1 + (1 : Int)), v.2.2.2.2.1, v.2.2.2.2.2.1 ++ [(x1.1, x1.2.1, x1.2.2.1, x1.2.2.2.1, (kP v.2.2.2.2.1.2.2.2.2.1 2147483647), x1.2.2.2.2.2)], ()))) else none) (if (v.2.2.2.2.2.1 ++ [x1] : List (Ty.T y27)).length * 56 <= 140737488351232 then (κ (0, (v.1, v.2.1, v.2.2.1, IntKind.wrap .i64 (v.2.2.2.1 + (1 : Int)), v.2.2.2.2.1, v.2.2.2.2.2.1 ++ [x1], ()))) else none))) else none) (κ (1, (v.1, v.2.1, v.2.2.1, v.2.2.2.1, v.2.2.2.2.1, v.2.2.2.2.2.1, ())))
def ta (v : qX) : Option (Nat × qX) := tZ v some
def xQ (v : qX) : Nat := v.1.length + v.2.1.length + v.2.2.1.toNat + v.2.2.2.1.toNat + v.2.2.2.2.2.1.length + 100
def DT (h0 : List (Ty.T y27)) (h1 : List (Ty.T y27)) (h2 : Int) (h3 : Int) (h4 : Ty.T y27) (h5 : List (Ty.T y27)) (c : Nat) : Bool := iK ta xQ (h0, h1, h2, h3, h4, h5, ()) c
def IM (h0 : List (Ty.T y27)) (h1 : List (Ty.T y27)) (h2 : Int) (h3 : Int) (h4 : Ty.T y27) (h5 : List (Ty.T y27)) : qX := iW ta xQ (h0, h1, h2, h3, h4, h5, ())
def Nj (v : qX) : aR (Ex × St) := bj ta (xQ v) v (aB Dl Dx) [.exit 0] 0
theorem Yr : bg Tryz.prog (aH (pb 5 23) (ae Tryz.f325)) Dl Dx Nj := au (lt := .none) aaV.ok ai (ag.no _) fun n v K => Eq.trans (b := tZ v (cM _ _ _ _ _ K)) (by kernel_rfl) (show tZ v _ = (tZ v some).bind _ from (bC (bI (bO fun x1 => (bC (bI rfl) (bI rfl)))) rfl))
def acx := aaV.l (g := 325) (t := (bW (pb 5 23) (ae Tryz.f325) .none (.sum Dl Dx Nj))) (aP Tryz.func325 (ag.put (aC (by kernel_rfl)) (ag.no _) Yr))
def acL (a0 : Ty.T bp) (a1 : Ty.T y27) : Option (AV × Sig) := cond (a0.1 != (9 : Int)) (some (.one (.sl 4096), [(4096, .arr 41 y27 [] false)])) (cond (DT [] a0.2.2.2.2.2.2 ((a0.2.2.2.2.2.2).length : Int) 0 a1 [] 0) (some (.one (.sl 4096), [(4096, .arr 41 y27 (IM [] a0.2.2.2.2.2.2 ((a0.2.2.2.2.2.2).length : Int) 0 a1 []).2.2.2.2.2.1 false)])) (none))
def Al (a0 : Ty.T bp) (a1 : Ty.T y27) : (List (Ty.T y27)) := cond (a0.1 != (9 : Int)) ([]) (cond (DT [] a0.2.2.2.2.2.2 ((a0.2.2.2.2.2.2).length : Int) 0 a1 [] 0) ((IM [] a0.2.2.2.2.2.2 ((a0.2.2.2.2.2.2).length : Int) 0 a1 []).2.2.2.2.2.1) ([]))
def d325 (a0 : Ty.T bp) (a1 : Ty.T y27) : Bool := cond (a0.1 != (9 : Int)) (true) (cond (DT [] a0.2.2.2.2.2.2 ((a0.2.2.2.2.2.2).length : Int) 0 a1 [] 0) (true) (false))
theorem ahR (a0 : Ty.T bp) (a1 : Ty.T y27) : acL a0 a1 = cond (d325 a0 a1) (some (f325 (Al a0 a1))) none := (pC (pS _) (pC (pS _) (pN _)))
def aeX : Prim := ⟨[.agg [.dat bp true], .agg [.dat y27 true]], fun v => .br (d325 v.1 v.2.1) (.done (f325 (Al v.1 v.2.1))) .no⟩
theorem Zx : PO 325 aeX := pK acx fun v => Eq.trans (b := acL v.1 v.2.1) (by kernel_rfl) (ahR v.1 v.2.1)
end
end Go.Proofs.YtahlaccdpmddbaaGreat.Vm
