/- Contracts. No condition. -/
import Derived.Test.YtahlaccdpmddbaaGreatVmCFnUsedP0
import Derived.Test.YtahlaccdpmddbaaGreatVmLibThree
namespace Go.Proofs.YtahlaccdpmddbaaGreat.Vm
open Go Go.Proofs.YtahlaccdpmddbaaGreat.Lib
noncomputable section
set_option maxRecDepth 100000
set_option linter.unusedVariables false
def IF (r : (Ty.T af) × (List (Ty.T aa))) : AV × Sig := (.one (.sl 33554432), [(4294967296, .box 222 ((af.cells true r.1))), (33554432, .arr 109 aa r.2 false)])
def R4 := ((E0.g dm).g DD)
@[reducible] def tk : List SP := .one (.ptr 4294967296 0) :: U2 (.one (.ptr 3 0) :: .one (.dat (.sl 109 aa) false) :: .one (.own 8) :: oI :: oI :: U16 (U4 ([])))
@[reducible] def uC : List (Nat × GP) := [(4294967296, .box 222 [.dat af true]), (3, .box 37 [.dat y36 false]), (8, .arr 109 aa false)]
@[reducible] def ep : Type := (List (Ty.T aa)) × Int × Int × (Ty.T af) × (Ty.T y36) × (List (Ty.T aa)) × Unit
def bA (v : ep) := (aq v.2.2.2.2.1 (IntKind.wrap .i64 ((IntKind.wrap .i64 (v.2.1 + (1 : Int))) + (ab 2 v.2.2.2.1).1)) (ab 2 v.2.2.2.1).2)
def ou (v : ep) {Z : Type} (κ : Nat × ep -> Option Z) : Option Z := cond (decide (v.2.2.1 > (0 : Int))) (cond (bD 2 v.2.2.2.1) (cond (q5 v.2.2.2.2.1 (IntKind.wrap .i64 ((IntKind.wrap .i64 (v.2.1 + (1 : Int))) + (ab 2 v.2.2.2.1).1)) (ab 2 v.2.2.2.1).2) (if (v.2.2.2.2.2.1 ++ [((bA v).1.1, (bA v).1.2.1, (bA v).1.2.2.1, (bA v).1.2.2.2.1, (bA v).1.2.2.2.2.1, (bA v).1.2.2.2.2.2.1, ((bA v).1.2.2.2.2.2.2.1, (bA v).1.2.2.2.2.2.2.2.1, (bA v).1.2.2.2.2.2.2.2.2.1, (bA v).1.2.2.2.2.2.2.2.2.2.1, (bA v).1.2.2.2.2.2.2.2.2.2.2.1, (bA v).1.2.2.2.2.2.2.2.2.2.2.2, (bA v).2.2.2), (bA v).2.1)] : List (Ty.T aa)).length * 192 <= 140737488351232 then (κ (0, (v.1, IntKind.wrap .i64 ((IntKind.wrap .i64 (v.2.1 + (1 : Int))) + (ab 2 v.2.2.2.1).1), IntKind.wrap .i64 (v.2.2.1 - (1 : Int)), (bA v).2.2.1, v.2.2.2.2.1, v.2.2.2.2.2.1 ++ [((bA v).1.1, (bA v).1.2.1, (bA v).1.2.2.1, (bA v).1.2.2.2.1, (bA v).1.2.2.2.2.1, (bA v).1.2.2.2.2.2.1, ((bA v).1.2.2.2.2.2.2.1, (bA v).1.2.2.2.2.2.2.2.1, (bA v).1.2.2.2.2.2.2.2.2.1, (bA v).1.2.2.2.2.2.2.2.2.2.1, (bA v).1.2.2.2.2.2.2.2.2.2.2.1, (bA v).1.2.2.2.2.2.2.2.2.2.2.2, (bA v).2.2.2), (bA v).2.1)], ()))) else none) (none)) (none)) (κ (1, (v.1, v.2.1, v.2.2.1, v.2.2.2.1, v.2.2.2.2.1, v.2.2.2.2.2.1, ())))
def nX (v : ep) : Option (Nat × ep) := ou v some
def ni (v : ep) : Nat := v.1.length + v.2.1.toNat + v.2.2.1.toNat + v.2.2.2.1.1.length + v.2.2.2.2.1.1.length + v.2.2.2.2.1.2.1.length + v.2.2.2.2.2.1.length + 100
def yX (h0 : List (Ty.T aa)) (h1 : Int) (h2 : Int) (h3 : Ty.T af) (h4 : Ty.T y36) (h5 : List (Ty.T aa)) (c : Nat) : Bool := iK nX ni (h0, h1, h2, h3, h4, h5, ()) c
def kO (h0 : List (Ty.T aa)) (h1 : Int) (h2 : Int) (h3 : Ty.T af) (h4 : Ty.T y36) (h5 : List (Ty.T aa)) : ep := iW nX ni (h0, h1, h2, h3, h4, h5, ())
def Fa (v : ep) : aR (Ex × St) := bj nX (ni v) v (aB tk uC) [.exit 0] 0
theorem Ns : bg Tryz.prog (aH (pb 5 23) (ae Tryz.f183)) tk uC Fa := au (lt := .none) R4.ok ai (ag.no _) fun n v K => Eq.trans (b := ou v (cM _ _ _ _ _ K)) (by kernel_rfl) (show ou v _ = (ou v some).bind _ from (bC (bC (bC (bI rfl) rfl) rfl) rfl))
def SD := R4.l (g := 183) (t := (bW (pb 5 23) (ae Tryz.f183) .none (.sum tk uC Fa))) (aP Tryz.func183 (ag.put (aC (by kernel_rfl)) (ag.no _) Ns))
def qG (a0 : Ty.T y36) (a1 : Ty.T af) {Z : Type} (κ : (Ty.T af) × (List (Ty.T aa)) -> Option Z) : Option Z := cond (bD 5 a1) (cond (yX [] 0 (ab 5 a1).1 (ab 5 a1).2 a0 [] 0) (κ ((kO [] 0 (ab 5 a1).1 (ab 5 a1).2 a0 []).2.2.2.1, (kO [] 0 (ab 5 a1).1 (ab 5 a1).2 a0 []).2.2.2.2.2.1)) (none)) (none)
def bX (a0 : Ty.T y36) (a1 : Ty.T af) : (Ty.T af) × (List (Ty.T aa)) := (qG a0 a1 some).getD ((Ty.zero af), [])
def z8 (a0 : Ty.T y36) (a1 : Ty.T af) : Bool := (qG a0 a1 some).isSome
def Xq : Gen := ⟨[false, false], [.one (.ptr 4294967296 0), .agg [.dat y36 false]], [(4294967296, .box 222 [.dat af true])], fun v => .br (z8 v.1 v.2.1) (.done (IF (bX v.1 v.2.1))) .no⟩
theorem Li : bw Tryz.prog 183 Xq := bF SD.ok ai (aC (by kernel_rfl)) ⟨Tryz.f183, ae Tryz.f183, by kernel_rfl, by kernel_rfl⟩ fun v => Eq.trans (b := (qG v.1 v.2.1 (sm IF))) (by kernel_rfl) (ar (show qG v.1 v.2.1 (sm IF) = (qG v.1 v.2.1 some).bind _ from (bC (bC rfl rfl) rfl)))
def f297 (r : Bool) : AV × Sig := (.one (.bool r), [])
def aht := (E0.p nF)
def t297 (a0 : Ty.T bS) {Z : Type} (κ : Bool -> Z) : Z := cond (!(bx a0.1 1 6)) (κ false) (cond (!(bx a0.2.1 0 2)) (κ false) (cond (!(bx a0.2.2.2.2.1 0 99)) (κ false) (cond (!(bx a0.2.2.2.2.2.1 0 2147483647)) (κ false) (cond (!(bx a0.2.2.1 0 99)) (κ false) (cond (!(bx a0.2.2.2.1 0 63)) (κ false) (cond (!(bx a0.2.2.2.2.2.2 0 4)) (κ false) (cond (a0.1 != (1 : Int)) (cond (a0.2.2.1 != (0 : Int)) (κ false) (cond (a0.2.2.2.1 != (0 : Int)) (κ false) (cond (a0.1 != (2 : Int)) (cond (a0.2.2.2.2.2.2 != (0 : Int)) (κ false) (cond (a0.1 != (3 : Int)) (cond (a0.1 != (4 : Int)) (κ true) (κ (a0.2.2.2.2.1 == (0 : Int)))) (κ (a0.2.2.2.2.1 == (0 : Int))))) (cond (a0.1 != (3 : Int)) (cond (a0.1 != (4 : Int)) (κ true) (κ (a0.2.2.2.2.1 == (0 : Int)))) (κ (a0.2.2.2.2.1 == (0 : Int))))))) (cond (a0.1 != (2 : Int)) (cond (a0.2.2.2.2.2.2 != (0 : Int)) (κ false) (cond (a0.1 != (3 : Int)) (cond (a0.1 != (4 : Int)) (κ true) (κ (a0.2.2.2.2.1 == (0 : Int)))) (κ (a0.2.2.2.2.1 == (0 : Int))))) (cond (a0.1 != (3 : Int)) (cond (a0.1 != (4 : Int)) (κ true) (κ (a0.2.2.2.2.1 == (0 : Int)))) (κ (a0.2.2.2.2.1 == (0 : Int))))))))))))
def wa (a0 : Ty.T bS) : Bool := t297 a0 fun r => r
def aeq : Prim := ⟨[.agg [.dat bS true]], fun v => .done (f297 (wa v.1))⟩
theorem UW : PO 297 aeq := pK aht fun v => Eq.trans (b := (t297 v.1 (sm f297))) (by kernel_rfl) (show t297 v.1 (sm f297) = some (f297 (t297 v.1 fun r => r)) from (tC rfl (tC rfl (tC rfl (tC rfl (tC rfl (tC rfl (tC rfl (tC (tC rfl (tC rfl (tC (tC rfl (tC (tC rfl rfl) rfl)) (tC (tC rfl rfl) rfl)))) (tC (tC rfl (tC (tC rfl rfl) rfl)) (tC (tC rfl rfl) rfl)))))))))))
def f298 (r : Bool) : AV × Sig := (.one (.bool r), [])
def aim := (E0.p nF)
def t298 (a0 : Ty.T a9) {Z : Type} (κ : Bool -> Z) : Z := cond (a0.1 == (0 : Int)) (cond (a0.1 == (0 : Int)) (κ (a0.2 == (0 : Int))) (cond (a0.1 == (1 : Int)) (κ (bx a0.2 (-2147483647) 2147483647)) (cond (a0.1 == (2 : Int)) (κ (bx a0.2 0 8)) (cond (a0.1 == (4 : Int)) (κ (bx a0.2 0 8)) (κ false))))) (cond (a0.1 == (3 : Int)) (κ (a0.2 == (0 : Int))) (cond (a0.1 == (1 : Int)) (κ (bx a0.2 (-2147483647) 2147483647)) (cond (a0.1 == (2 : Int)) (κ (bx a0.2 0 8)) (cond (a0.1 == (4 : Int)) (κ (bx a0.2 0 8)) (κ false)))))
def yU (a0 : Ty.T a9) : Bool := t298 a0 fun r => r
def af7 : Prim := ⟨[.agg [.dat a9 true]], fun v => .done (f298 (yU v.1))⟩
theorem UP : PO 298 af7 := pK aim fun v => Eq.trans (b := (t298 v.1 (sm f298))) (by kernel_rfl) (show t298 v.1 (sm f298) = some (f298 (t298 v.1 fun r => r)) from (tC (tC rfl (tC rfl (tC rfl (tC rfl rfl)))) (tC rfl (tC rfl (tC rfl (tC rfl rfl))))))
def f327 (r : Bool) : AV × Sig := (.one (.bool r), [])
def ahd := E0
def aaL (a0 : Ty.T bp) : Option (AV × Sig) := cond (a0.2.2.1 == (0 : Int)) (cond (a0.2.2.2.1 == (-1 : Int)) (cond (a0.2.2.2.2.1 == (0 : Int)) (cond (!a0.2.2.2.2.2.1) (some (.one (.bool (((a0.2.2.2.2.2.2).length : Int) == (0 : Int))), [])) (some (.one (.bool false), []))) (some (.one (.bool false), []))) (some (.one (.bool false), []))) (some (.one (.bool false), []))
def Mf (a0 : Ty.T bp) : Bool := cond (a0.2.2.1 == (0 : Int)) (cond (a0.2.2.2.1 == (-1 : Int)) (cond (a0.2.2.2.2.1 == (0 : Int)) (cond (!a0.2.2.2.2.2.1) ((((a0.2.2.2.2.2.2).length : Int) == (0 : Int))) (false)) (false)) (false)) (false)
theorem adY (a0 : Ty.T bp) : aaL a0 = some (f327 (Mf a0)) := (tC (tC (tC (tC rfl rfl) rfl) rfl) rfl)
def aid : Prim := ⟨[.agg [.dat bp true]], fun v => .done (f327 (Mf v.1))⟩
theorem ZX : PO 327 aid := pK ahd fun v => Eq.trans (b := aaL v.1) (by kernel_rfl) (adY v.1)
def f157 (r : Bool) : AV × Sig := (.one (.bool r), [])
def adi := (E0.p nF)
def t157 (a0 : Ty.T y27) {Z : Type} (κ : Bool -> Z) : Z := cond (bx a0.2.2.1 1 99) (cond (a0.2.2.1 == (0 : Int)) (cond (!(bx a0.2.2.2.2.1 0 2147483647)) (κ false) (cond (a0.1 == (1 : Int)) (cond (bx a0.2.1 1 99) (cond (a0.2.2.2.1 == (-1 : Int)) (cond (a0.2.2.2.2.2.1 == (0 : Int)) (κ (!a0.2.2.2.2.2.2)) (κ false)) (cond (bx a0.2.2.2.1 0 2) (cond (a0.2.2.2.2.2.1 == (0 : Int)) (κ (!a0.2.2.2.2.2.2)) (κ false)) (κ false))) (κ false)) (cond (a0.1 == (2 : Int)) (cond (a0.2.1 == (0 : Int)) (cond (a0.2.2.2.1 == (-1 : Int)) (cond (bx a0.2.2.2.2.2.1 1 4) (cond (decide (a0.2.2.2.2.1 <= (99 : Int))) (cond (a0.2.2.2.2.2.1 == (2 : Int)) (κ true) (cond (a0.2.2.2.2.1 == (0 : Int)) (κ (!a0.2.2.2.2.2.2)) (κ false))) (κ false)) (κ false)) (κ false)) (κ false)) (cond (a0.1 == (3 : Int)) (cond (a0.1 == (3 : Int)) (cond (a0.2.1 == (0 : Int)) (cond (bx a0.2.2.2.1 0 2) (cond (a0.2.2.2.2.2.1 == (0 : Int)) (κ (!a0.2.2.2.2.2.2)) (κ false)) (κ false)) (κ false)) (cond (a0.1 == (5 : Int)) (cond (a0.1 == (5 : Int)) (cond (a0.2.1 == (0 : Int)) (cond (a0.2.2.2.1 == (-1 : Int)) (cond (a0.2.2.2.2.2.1 == (0 : Int)) (κ (!a0.2.2.2.2.2.2)) (κ false)) (κ false)) (κ false)) (κ false)) (cond (a0.1 == (6 : Int)) (cond (a0.2.1 == (0 : Int)) (cond (a0.2.2.2.1 == (-1 : Int)) (cond (a0.2.2.2.2.2.1 == (0 : Int)) (κ (!a0.2.2.2.2.2.2)) (κ false)) (κ false)) (κ false)) (κ false)))) (cond (a0.1 == (4 : Int)) (cond (a0.2.1 == (0 : Int)) (cond (bx a0.2.2.2.1 0 2) (cond (a0.2.2.2.2.2.1 == (0 : Int)) (κ (!a0.2.2.2.2.2.2)) (κ false)) (κ false)) (κ false)) (cond (a0.1 == (5 : Int)) (cond (a0.1 == (5 : Int)) (cond (a0.2.1 == (0 : Int)) (cond (a0.2.2.2.1 == (-1 : Int)) (cond (a0.2.2.2.2.2.1 == (0 : Int)) (κ (!a0.2.2.2.2.2.2)) (κ false)) (κ false)) (κ false)) (κ false)) (cond (a0.1 == (6 : Int)) (cond (a0.2.1 == (0 : Int)) (cond (a0.2.2.2.1 == (-1 : Int)) (cond (a0.2.2.2.2.2.1 == (0 : Int)) (κ (!a0.2.2.2.2.2.2)) (κ false)) (κ false)) (κ false)) (κ false)))))))) (cond (!(bx a0.2.2.2.2.1 0 2147483647)) (κ false) (cond (a0.1 == (1 : Int)) (cond (bx a0.2.1 1 99) (cond (a0.2.2.2.1 == (-1 : Int)) (cond (a0.2.2.2.2.2.1 == (0 : Int)) (κ (!a0.2.2.2.2.2.2)) (κ false)) (κ false)) (κ false)) (cond (a0.1 == (2 : Int)) (cond (a0.2.1 == (0 : Int)) (cond (a0.2.2.2.1 == (-1 : Int)) (cond (bx a0.2.2.2.2.2.1 1 4) (cond (decide (a0.2.2.2.2.1 <= (99 : Int))) (cond (a0.2.2.2.2.2.1 == (2 : Int)) (κ true) (cond (a0.2.2.2.2.1 == (0 : Int)) (κ (!a0.2.2.2.2.2.2)) (κ false))) (κ false)) (κ false)) (κ false)) (κ false)) (cond (a0.1 == (3 : Int)) (cond (a0.1 == (3 : Int)) (cond (a0.2.1 == (0 : Int)) (κ false) (κ false)) (cond (a0.1 == (5 : Int)) (cond (a0.1 == (5 : Int)) (cond (a0.2.1 == (0 : Int)) (cond (a0.2.2.2.1 == (-1 : Int)) (cond (a0.2.2.2.2.2.1 == (0 : Int)) (κ (!a0.2.2.2.2.2.2)) (κ false)) (κ false)) (κ false)) (κ false)) (cond (a0.1 == (6 : Int)) (cond (a0.2.1 == (0 : Int)) (cond (a0.2.2.2.1 == (-1 : Int)) (cond (a0.2.2.2.2.2.1 == (0 : Int)) (κ (!a0.2.2.2.2.2.2)) (κ false)) (κ false)) (κ false)) (κ false)))) (cond (a0.1 == (4 : Int)) (cond (a0.2.1 == (0 : Int)) (κ false) (κ false)) (cond (a0.1 == (5 : Int)) (cond (a0.1 == (5 : Int)) (cond (a0.2.1 == (0 : Int)) (cond (a0.2.2.2.1 == (-1 : Int)) (cond (a0.2.2.2.2.2.1 == (0 : Int)) (κ (!a0.2.2.2.2.2.2)) (κ false)) (κ false)) (κ false)) (κ false)) (cond (a0.1 == (6 : Int)) (cond (a0.2.1 == (0 : Int)) (cond (a0.2.2.2.1 == (-1 : Int)) (cond (a0.2.2.2.2.2.1 == (0 : Int)) (κ (!a0.2.2.2.2.2.2)) (κ false)) (κ false)) (κ false)) (κ false))))))))) (cond (a0.2.2.1 == (0 : Int)) (cond (!(bx a0.2.2.2.2.1 0 2147483647)) (κ false) (cond (a0.1 == (1 : Int)) (cond (bx a0.2.1 1 99) (cond (bx a0.2.2.2.1 0 2) (cond (a0.2.2.2.2.2.1 == (0 : Int)) (κ (!a0.2.2.2.2.2.2)) (κ false)) (κ false)) (κ false)) (cond (a0.1 == (2 : Int)) (cond (a0.2.1 == (0 : Int)) (κ false) (κ false)) (cond (a0.1 == (3 : Int)) (cond (a0.1 == (3 : Int)) (cond (a0.2.1 == (0 : Int)) (cond (bx a0.2.2.2.1 0 2) (cond (a0.2.2.2.2.2.1 == (0 : Int)) (κ (!a0.2.2.2.2.2.2)) (κ false)) (κ false)) (κ false)) (cond (a0.1 == (5 : Int)) (cond (a0.1 == (5 : Int)) (cond (a0.2.1 == (0 : Int)) (κ false) (κ false)) (κ false)) (cond (a0.1 == (6 : Int)) (cond (a0.2.1 == (0 : Int)) (κ false) (κ false)) (κ false)))) (cond (a0.1 == (4 : Int)) (cond (a0.2.1 == (0 : Int)) (cond (bx a0.2.2.2.1 0 2) (cond (a0.2.2.2.2.2.1 == (0 : Int)) (κ (!a0.2.2.2.2.2.2)) (κ false)) (κ false)) (κ false)) (cond (a0.1 == (5 : Int)) (cond (a0.1 == (5 : Int)) (cond (a0.2.1 == (0 : Int)) (κ false) (κ false)) (κ false)) (cond (a0.1 == (6 : Int)) (cond (a0.2.1 == (0 : Int)) (κ false) (κ false)) (κ false)))))))) (cond (!(bx a0.2.2.2.2.1 0 2147483647)) (κ false) (cond (a0.1 == (1 : Int)) (cond (bx a0.2.1 1 99) (κ false) (κ false)) (cond (a0.1 == (2 : Int)) (cond (a0.2.1 == (0 : Int)) (κ false) (κ false)) (cond (a0.1 == (3 : Int)) (cond (a0.1 == (3 : Int)) (cond (a0.2.1 == (0 : Int)) (κ false) (κ false)) (cond (a0.1 == (5 : Int)) (cond (a0.1 == (5 : Int)) (cond (a0.2.1 == (0 : Int)) (κ false) (κ false)) (κ false)) (cond (a0.1 == (6 : Int)) (cond (a0.2.1 == (0 : Int)) (κ false) (κ false)) (κ false)))) (cond (a0.1 == (4 : Int)) (cond (a0.2.1 == (0 : Int)) (κ false) (κ false)) (cond (a0.1 == (5 : Int)) (cond (a0.1 == (5 : Int)) (cond (a0.2.1 == (0 : Int)) (κ false) (κ false)) (κ false)) (cond (a0.1 == (6 : Int)) (cond (a0.2.1 == (0 : Int)) (κ false) (κ false)) (κ false)))))))))
def dX (a0 : Ty.T y27) : Bool := t157 a0 fun r => r
def aiy : Prim := ⟨[.agg [.dat y27 true]], fun v => .done (f157 (dX v.1))⟩
theorem Ln : PO 157 aiy := pK adi fun v => Eq.trans (b := (t157 v.1 (sm f157))) (by kernel_rfl) (show t157 v.1 (sm f157) = some (f157 (t157 v.1 fun r => r)) from (tC (tC (tC rfl (tC (tC (tC (tC rfl rfl) (tC (tC rfl rfl) rfl)) rfl) (tC (tC (tC (tC (tC (tC rfl (tC rfl rfl)) rfl) rfl) rfl) rfl) (tC (tC (tC (tC (tC rfl rfl) rfl) rfl) (tC (tC (tC (tC (tC rfl rfl) rfl) rfl) rfl) (tC (tC (tC (tC rfl rfl) rfl) rfl) rfl))) (tC (tC (tC (tC rfl rfl) rfl) rfl) (tC (tC (tC (tC (tC rfl rfl) rfl) rfl) rfl) (tC (tC (tC (tC rfl rfl) rfl) rfl) rfl))))))) (tC rfl (tC (tC (tC (tC rfl rfl) rfl) rfl) (tC (tC (tC (tC (tC (tC rfl (tC rfl rfl)) rfl) rfl) rfl) rfl) (tC (tC (tC rfl rfl) (tC (tC (tC (tC (tC rfl rfl) rfl) rfl) rfl) (tC (tC (tC (tC rfl rfl) rfl) rfl) rfl))) (tC (tC rfl rfl) (tC (tC (tC (tC (tC rfl rfl) rfl) rfl) rfl) (tC (tC (tC (tC rfl rfl) rfl) rfl) rfl)))))))) (tC (tC rfl (tC (tC (tC (tC rfl rfl) rfl) rfl) (tC (tC rfl rfl) (tC (tC (tC (tC (tC rfl rfl) rfl) rfl) (tC (tC (tC rfl rfl) rfl) (tC (tC rfl rfl) rfl))) (tC (tC (tC (tC rfl rfl) rfl) rfl) (tC (tC (tC rfl rfl) rfl) (tC (tC rfl rfl) rfl))))))) (tC rfl (tC (tC rfl rfl) (tC (tC rfl rfl) (tC (tC (tC rfl rfl) (tC (tC (tC rfl rfl) rfl) (tC (tC rfl rfl) rfl))) (tC (tC rfl rfl) (tC (tC (tC rfl rfl) rfl) (tC (tC rfl rfl) rfl))))))))))
def f328 (r : Bool) : AV × Sig := (.one (.bool r), [])
def ahM := (E0.p Ln)
def acX (a0 : Ty.T y27) : Option (AV × Sig) := cond (a0.2.2.2.2.1 == (-1 : Int)) (cond (a0.1 != (2 : Int)) (some (.one (.bool (dX (a0.1, a0.2.1, a0.2.2.1, a0.2.2.2.1, 0, a0.2.2.2.2.2))), [])) (some (.one (.bool (dX a0)), []))) (some (.one (.bool (dX a0)), []))
def mi (a0 : Ty.T y27) : Bool := cond (a0.2.2.2.2.1 == (-1 : Int)) (cond (a0.1 != (2 : Int)) ((dX (a0.1, a0.2.1, a0.2.2.1, a0.2.2.2.1, 0, a0.2.2.2.2.2))) ((dX a0))) ((dX a0))
theorem ae5 (a0 : Ty.T y27) : acX a0 = some (f328 (mi a0)) := (tC (tC rfl rfl) rfl)
def ahD : Prim := ⟨[.agg [.dat y27 true]], fun v => .done (f328 (mi v.1))⟩
theorem abU : PO 328 ahD := pK ahM fun v => Eq.trans (b := acX v.1) (by kernel_rfl) (ae5 v.1)
def f299 (r : Bool) : AV × Sig := (.one (.bool r), [])
def CS := (((E0.p nF).p ZX).p abU)
@[reducible] def wz : List SP := .und :: .one (.ptr 1 0) :: .one (.dat .bool true) :: U2 (oI :: .one (.dat .bool true) :: U64 (U64 (U32 (U2 (.und :: [])))))
@[reducible] def bR : List (Nat × GP) := [(1, .box 107 [.dat bp true])]
@[reducible] def mD : Type := Bool × Int × Bool × (Ty.T bp) × Unit
def Cn (v : mD) (r : Bool) : Ex × St := (.normal, aB wz bR (v.1, v.2.1, r, v.2.2.2.1, ()))
def tu (v : mD) {Z : Type} (κ : Bool -> Z) : Z := cond v.2.2.1 (κ v.2.2.1) (cond (v.2.1 == (2 : Int)) (κ (v.2.1 == (2 : Int))) (cond (v.2.1 == (4 : Int)) (κ (v.2.1 == (4 : Int))) (κ (v.2.1 == (5 : Int)))))
def Dw (v : mD) : Bool := tu v id
def Ny (v : mD) : aR (Ex × St) := .done (Cn v (Dw v))
theorem Yi : a7 Tryz.prog (aA (pb 5 21) (ae Tryz.f299)) wz bR Ny := aS (lt := .none) (sx := wz) (gx := bR) CS.ok ai (ag.no _) fun v => Eq.trans (b := tu v (sm (Cn v))) (by kernel_rfl) (show tu v (sm (Cn v)) = some (Cn v (tu v id)) from (tC rfl (tC rfl (tC rfl rfl))))
@[reducible] def eA : List SP := .und :: .one (.ptr 1 0) :: .one (.dat .bool true) :: U64 (U64 (U32 (U4 (U2 (.und :: [])))))
@[reducible] def bY : Type := Bool × (Ty.T bp) × Unit
@[reducible] def ez : List SP := U2 (.one (.dat .bool true) :: U64 (U64 (U32 (U4 (U2 (.und :: []))))))
def BY (v : bY) (r : Bool) : Ex × St := (.normal, aB ez aG (r, ()))
def tw (v : bY) {Z : Type} (κ : Bool -> Z) : Z := cond (Mf v.2.1) (κ (v.2.1.2.1 == (0 : Int))) (κ false)
def Eo (v : bY) : Bool := tw v id
def Rm (v : bY) : aR (Ex × St) := .done (BY v (Eo v))
theorem Yc : a7 Tryz.prog (aA (pb 6 13) (ae Tryz.f299)) eA bR Rm := aS (lt := .none) (sx := ez) (gx := aG) CS.ok ai (ag.no _) fun v => Eq.trans (b := tw v (sm (BY v))) (by kernel_rfl) (show tw v (sm (BY v)) = some (BY v (tw v id)) from (tC rfl rfl))
def DC (v : bY) (r : Bool) : Ex × St := (.normal, aB ez aG (r, ()))
def vl (v : bY) {Z : Type} (κ : Bool -> Z) : Z := cond (Mf v.2.1) (κ (bx v.2.1.2.1 1 2147483647)) (κ false)
def Cd (v : bY) : Bool := vl v id
def Od (v : bY) : aR (Ex × St) := .done (DC v (Cd v))
theorem V9 : a7 Tryz.prog (aA (pb 8 61) (ae Tryz.f299)) eA bR Od := aS (lt := .none) (sx := ez) (gx := aG) CS.ok ai (ag.no _) fun v => Eq.trans (b := vl v (sm (DC v))) (by kernel_rfl) (show vl v (sm (DC v)) = some (DC v (vl v id)) from (tC rfl rfl))
def DO (v : bY) (r : Bool) : Ex × St := (.normal, aB ez aG (r, ()))
def ua (v : bY) {Z : Type} (κ : Bool -> Z) : Z := cond (v.2.1.2.1 == (0 : Int)) (cond (v.2.1.2.2.2.2.1 == (0 : Int)) (cond (!v.2.1.2.2.2.2.2.1) (cond (((v.2.1.2.2.2.2.2.2).length : Int) == (0 : Int)) (cond (bx v.2.1.2.2.1 1 99) (cond (v.2.1.2.2.2.1 == (-1 : Int)) (κ true) (cond (v.2.1.2.2.1 == (0 : Int)) (κ (bx v.2.1.2.2.2.1 0 2)) (κ false))) (cond (v.2.1.2.2.1 == (0 : Int)) (κ (bx v.2.1.2.2.2.1 0 2)) (κ false))) (κ false)) (κ false)) (κ false)) (κ false)
def DR (v : bY) : Bool := ua v id
def PV (v : bY) : aR (Ex × St) := .done (DO v (DR v))
theorem VY : a7 Tryz.prog (aA (pb 10 253) (ae Tryz.f299)) eA bR PV := aS (lt := .none) (sx := ez) (gx := aG) CS.ok ai (ag.no _) fun v => Eq.trans (b := ua v (sm (DO v))) (by kernel_rfl) (show ua v (sm (DO v)) = some (DO v (ua v id)) from (tC (tC (tC (tC (tC (tC rfl (tC rfl rfl)) (tC rfl rfl)) rfl) rfl) rfl) rfl))
def Da (v : bY) (r : Bool) : Ex × St := (.normal, aB ez aG (r, ()))
def uB (v : bY) {Z : Type} (κ : Bool -> Z) : Z := cond (v.2.1.2.1 == (0 : Int)) (cond (v.2.1.2.2.1 == (0 : Int)) (cond (v.2.1.2.2.2.1 == (-1 : Int)) (cond (!v.2.1.2.2.2.2.2.1) (cond (((v.2.1.2.2.2.2.2.2).length : Int) == (0 : Int)) (κ (bx v.2.1.2.2.2.2.1 1 4)) (κ false)) (κ false)) (κ false)) (κ false)) (κ false)
def CQ (v : bY) : Bool := uB v id
def Ou (v : bY) : aR (Ex × St) := .done (Da v (CQ v))
theorem Yw : a7 Tryz.prog (aA (pb 12 1021) (ae Tryz.f299)) eA bR Ou := aS (lt := .none) (sx := ez) (gx := aG) CS.ok ai (ag.no _) fun v => Eq.trans (b := uB v (sm (Da v))) (by kernel_rfl) (show uB v (sm (Da v)) = some (Da v (uB v id)) from (tC (tC (tC (tC (tC rfl rfl) rfl) rfl) rfl) rfl))
def Ch (v : bY) (r : Bool) : Ex × St := (.normal, aB ez aG (r, ()))
def s6 (v : bY) {Z : Type} (κ : Bool -> Z) : Z := cond (bx v.2.1.2.1 0 99) (cond (v.2.1.2.2.1 == (0 : Int)) (cond (v.2.1.2.2.2.1 == (-1 : Int)) (cond (v.2.1.2.2.2.2.1 == (0 : Int)) (κ (((v.2.1.2.2.2.2.2.2).length : Int) == (0 : Int))) (κ false)) (κ false)) (κ false)) (κ false)
def Er (v : bY) : Bool := s6 v id
def Oz (v : bY) : aR (Ex × St) := .done (Ch v (Er v))
theorem Xc : a7 Tryz.prog (aA (pb 14 4093) (ae Tryz.f299)) eA bR Oz := aS (lt := .none) (sx := ez) (gx := aG) CS.ok ai (ag.no _) fun v => Eq.trans (b := s6 v (sm (Ch v))) (by kernel_rfl) (show s6 v (sm (Ch v)) = some (Ch v (s6 v id)) from (tC (tC (tC (tC rfl rfl) rfl) rfl) rfl))
@[reducible] def B5 : List SP := .und :: .one (.ptr 1 0) :: .one (.dat .bool true) :: oI :: U64 (U64 (U32 (U4 (U2 ([])))))
@[reducible] def qb : Type := Bool × Int × (Ty.T bp) × Unit
def vt (v : qb) {Z : Type} (κ : Nat × qb -> Option Z) : Option Z := cond (decide (v.2.1 < ((v.2.2.1.2.2.2.2.2.2).length : Int))) (if 0 <= v.2.1 then (bq ((v.2.2.1.2.2.2.2.2.2)[(v.2.1).toNat]?) (fun x1 => cond (!(mi x1)) (κ (1, (false, v.2.1, v.2.2.1, ()))) (κ (0, (v.1, IntKind.wrap .i64 (v.2.1 + (1 : Int)), v.2.2.1, ()))))) else none) (κ (2, (v.1, v.2.1, v.2.2.1, ())))
def uW (v : qb) : Option (Nat × qb) := vt v some
def yg (v : qb) : Nat := v.2.1.toNat + v.2.2.1.2.2.2.2.2.2.length + 100
def xl (h0 : Bool) (h1 : Int) (h2 : Ty.T bp) (c : Nat) : Bool := iK uW yg (h0, h1, h2, ()) c
def xA (h0 : Bool) (h1 : Int) (h2 : Ty.T bp) : qb := iW uW yg (h0, h1, h2, ())
def Ra (v : qb) : aR (Ex × St) := bj uW (yg v) v (aB B5 bR) [.ret, .exit 1] 0
theorem V7 : bg Tryz.prog (aH (pb 17 81917) (ae Tryz.f299)) B5 bR Ra := au (lt := .none) CS.ok ai (ag.no _) fun n v K => Eq.trans (b := vt v (cM _ _ _ _ _ K)) (by kernel_rfl) (show vt v _ = (vt v some).bind _ from (bC (bI (bO fun x1 => (bC rfl rfl))) rfl))
def D7 (v : bY) (r : Bool) : Ex × St := (.normal, aB ez aG (r, ()))
def uh (v : bY) {Z : Type} (κ : Bool -> Z) : Z := cond (v.2.1.2.1 == (0 : Int)) (cond (v.2.1.2.2.1 == (0 : Int)) (cond (v.2.1.2.2.2.1 == (-1 : Int)) (cond (v.2.1.2.2.2.2.1 == (0 : Int)) (cond (!v.2.1.2.2.2.2.2.1) (κ (bx ((v.2.1.2.2.2.2.2.2).length : Int) 1 3)) (κ false)) (κ false)) (κ false)) (κ false)) (κ false)
def C1 (v : bY) : Bool := uh v id
def Qz (v : bY) : aR (Ex × St) := .done (D7 v (C1 v))
theorem VQ : a7 Tryz.prog (aA (pb 17 49149) (ae Tryz.f299)) eA bR Qz := aS (lt := .none) (sx := ez) (gx := aG) CS.ok ai (ag.no _) fun v => Eq.trans (b := uh v (sm (D7 v))) (by kernel_rfl) (show uh v (sm (D7 v)) = some (D7 v (uh v id)) from (tC (tC (tC (tC (tC rfl rfl) rfl) rfl) rfl) rfl))
def abT := CS.l (g := 299) (t := (aM (pb 17 49149) (ae Tryz.f299) (aM (pb 17 81917) (ae Tryz.f299) (aM (pb 14 4093) (ae Tryz.f299) (aM (pb 12 1021) (ae Tryz.f299) (aM (pb 10 253) (ae Tryz.f299) (aM (pb 8 61) (ae Tryz.f299) (aM (pb 6 13) (ae Tryz.f299) (aM (pb 5 21) (ae Tryz.f299) .none (.sum wz bR Ny)) (.sum eA bR Rm)) (.sum eA bR Od)) (.sum eA bR PV)) (.sum eA bR Ou)) (.sum eA bR Oz)) (.sum B5 bR Ra)) (.sum eA bR Qz))) (aP Tryz.func299 (ag.ct (aC (by kernel_rfl)) (ag.wb (by kernel_rfl) (aC (by kernel_rfl)) (ag.ct (aC (by kernel_rfl)) (ag.ct (aC (by kernel_rfl)) (ag.ct (aC (by kernel_rfl)) (ag.ct (aC (by kernel_rfl)) (ag.ct (aC (by kernel_rfl)) (ag.ct (aC (by kernel_rfl)) (ag.no _) Yi) Yc) V9) VY) Yw) Xc) V7) VQ))
def t299 (a0 : Ty.T bp) {Z : Type} (κ : Bool -> Option Z) : Option Z := cond (Dw (false, a0.1, (a0.1 == (1 : Int)), a0, ())) (κ (Eo (false, a0, ()))) (cond (a0.1 == (3 : Int)) (κ (Cd (false, a0, ()))) (cond (a0.1 == (6 : Int)) (κ (DR (false, a0, ()))) (cond (a0.1 == (7 : Int)) (κ (CQ (false, a0, ()))) (cond (a0.1 == (8 : Int)) (κ (Er (false, a0, ()))) (cond (a0.1 == (9 : Int)) (cond (xl false 0 a0 0) (κ (xA false 0 a0).1) (cond (xl false 0 a0 1) (κ (C1 ((xA false 0 a0).1, (xA false 0 a0).2.2.1, ()))) (none))) (κ false))))))
def Ao (a0 : Ty.T bp) : Bool := (t299 a0 some).getD false
def d299 (a0 : Ty.T bp) : Bool := (t299 a0 some).isSome
def aih : Prim := ⟨[.agg [.dat bp true]], fun v => .br (d299 v.1) (.done (f299 (Ao v.1))) .no⟩
theorem ab2 : PO 299 aih := pK abT fun v => Eq.trans (b := (t299 v.1 (sm f299))) (by kernel_rfl) (ar (show t299 v.1 (sm f299) = (t299 v.1 some).bind _ from by unfold t299; simp only [bb]))
def f242 (r : Bool) : AV × Sig := (.one (.bool r), [])
def afC := (((((E0.p nF).p Rt).p UW).p UP).p ab2)
def t242 (a0 : Ty.T aa) {Z : Type} (κ : Bool -> Option Z) : Option Z := cond (!(bx a0.1 1 99)) (κ false) (cond (!(bx a0.2.1 0 2)) (κ false) (cond (!(bx a0.2.2.1 0 99)) (κ false) (cond (!(bx a0.2.2.2.1 0 4)) (κ false) (cond (!(bx a0.2.2.2.2.2.2.2.1 (-1) 9999)) (κ false) (cond (!(bx a0.2.2.2.2.2.2.2.2 (-1) 2147483647)) (κ false) (cond (a0.2.2.2.1 == (0 : Int)) (cond (a0.2.2.1 == (0 : Int)) (κ false) (cond (a0.2.2.2.2.2.2.1.1 == (2 : Int)) (cond (decide (a0.2.2.2.2.2.2.2.2 < (0 : Int))) (κ false) (cond (wa a0.2.2.2.2.1) (cond (yU a0.2.2.2.2.2.1) (cond (d299 a0.2.2.2.2.2.2.1) (cond (Ao a0.2.2.2.2.2.2.1) (κ (ml a0.2.2.2.2.2.2.1 a0.2.2.2.2.1.1)) (κ false)) (none)) (κ false)) (κ false))) (cond (wa a0.2.2.2.2.1) (cond (yU a0.2.2.2.2.2.1) (cond (d299 a0.2.2.2.2.2.2.1) (cond (Ao a0.2.2.2.2.2.2.1) (κ (ml a0.2.2.2.2.2.2.1 a0.2.2.2.2.1.1)) (κ false)) (none)) (κ false)) (κ false)))) (cond (a0.2.2.2.2.2.2.1.1 == (2 : Int)) (cond (decide (a0.2.2.2.2.2.2.2.2 < (0 : Int))) (κ false) (cond (wa a0.2.2.2.2.1) (cond (yU a0.2.2.2.2.2.1) (cond (d299 a0.2.2.2.2.2.2.1) (cond (Ao a0.2.2.2.2.2.2.1) (κ (ml a0.2.2.2.2.2.2.1 a0.2.2.2.2.1.1)) (κ false)) (none)) (κ false)) (κ false))) (cond (wa a0.2.2.2.2.1) (cond (yU a0.2.2.2.2.2.1) (cond (d299 a0.2.2.2.2.2.2.1) (cond (Ao a0.2.2.2.2.2.2.1) (κ (ml a0.2.2.2.2.2.2.1 a0.2.2.2.2.1.1)) (κ false)) (none)) (κ false)) (κ false)))))))))
def ek (a0 : Ty.T aa) : Bool := (t242 a0 some).getD false
def d242 (a0 : Ty.T aa) : Bool := (t242 a0 some).isSome
def afj : Prim := ⟨[.agg [.dat aa true]], fun v => .br (d242 v.1) (.done (f242 (ek v.1))) .no⟩
theorem Rh : PO 242 afj := pK afC fun v => Eq.trans (b := (t242 v.1 (sm f242))) (by kernel_rfl) (ar (show t242 v.1 (sm f242) = (t242 v.1 some).bind _ from by unfold t242; simp only [bb]))
def f309 (r : Bool) : AV × Sig := (.one (.bool r), [])
def agA := E0
def aaO (a0 : Ty.T aa) (a1 : Int) : Option (AV × Sig) := cond (a0.2.2.2.2.2.2.2.2 != (0 : Int)) (cond (a0.2.2.2.2.2.2.2.1 == (-1 : Int)) (some (.one (.bool true), [])) (some (.one (.bool (decide (a0.2.2.2.2.2.2.2.1 ≥ a1))), []))) (some (.one (.bool false), []))
def Fi (a0 : Ty.T aa) (a1 : Int) : Bool := cond (a0.2.2.2.2.2.2.2.2 != (0 : Int)) (cond (a0.2.2.2.2.2.2.2.1 == (-1 : Int)) (true) (decide (a0.2.2.2.2.2.2.2.1 ≥ a1))) (false)
theorem aeZ (a0 : Ty.T aa) (a1 : Int) : aaO a0 a1 = some (f309 (Fi a0 a1)) := (tC (tC rfl rfl) rfl)
def aeh : Prim := ⟨[.agg [.dat aa true], oI], fun v => .done (f309 (Fi v.1 v.2.1))⟩
theorem abk : PO 309 aeh := pK agA fun v => Eq.trans (b := aaO v.1 v.2.1) (by kernel_rfl) (aeZ v.1 v.2.1)
def f310 (r : Bool) : AV × Sig := (.one (.bool r), [])
def ag3 := E0
def aal (a0 : Ty.T aa) (a1 : Ty.T y27) : Option (AV × Sig) := cond (a0.2.2.2.1 != (0 : Int)) (some (.one (.bool true), [])) (cond (a0.2.2.1 == a1.2.1) (some (.one (.bool true), [])) (some (.one (.bool (a0.2.2.1 == a1.2.2.1)), [])))
def M7 (a0 : Ty.T aa) (a1 : Ty.T y27) : Bool := cond (a0.2.2.2.1 != (0 : Int)) (true) (cond (a0.2.2.1 == a1.2.1) (true) ((a0.2.2.1 == a1.2.2.1)))
theorem aeF (a0 : Ty.T aa) (a1 : Ty.T y27) : aal a0 a1 = some (f310 (M7 a0 a1)) := (tC rfl (tC rfl rfl))
def ago : Prim := ⟨[.agg [.dat aa true], .agg [.dat y27 true]], fun v => .done (f310 (M7 v.1 v.2.1))⟩
theorem abw : PO 310 ago := pK ag3 fun v => Eq.trans (b := aal v.1 v.2.1) (by kernel_rfl) (aeF v.1 v.2.1)
def f331 (r : Int) : AV × Sig := (.one (.int .i64 r), [])
def YM := E0
@[reducible] def BZ : List SP := .und :: oI :: .one (.ptr 2 0) :: .und :: oI :: oI :: oI :: U16 (U8 (U2 (.und :: [])))
@[reducible] def gM : List (Nat × GP) := [(2, .box 37 [.dat y36 true])]
@[reducible] def fC : Type := Int × Int × Int × Int × (Ty.T y36) × Unit
def vf (v : fC) {Z : Type} (κ : Nat × fC -> Option Z) : Option Z := cond (decide (v.2.2.2.1 < ((v.2.2.2.2.1.1).length : Int))) (if 0 <= v.2.2.2.1 then (bq ((v.2.2.2.2.1.1)[(v.2.2.2.1).toNat]?) (fun x1 => cond (x1.2.2.2.1 == (2 : Int)) (if 0 <= v.2.2.2.1 then (bq ((v.2.2.2.2.1.1)[(v.2.2.2.1).toNat]?) (fun x2 => cond (x2.2.2.1 == v.1) (κ (0, (v.1, v.2.1, IntKind.wrap .i64 (v.2.2.1 + (1 : Int)), IntKind.wrap .i64 (v.2.2.2.1 + (1 : Int)), v.2.2.2.2.1, ()))) (κ (0, (v.1, v.2.1, v.2.2.1, IntKind.wrap .i64 (v.2.2.2.1 + (1 : Int)), v.2.2.2.2.1, ()))))) else none) (κ (0, (v.1, v.2.1, v.2.2.1, IntKind.wrap .i64 (v.2.2.2.1 + (1 : Int)), v.2.2.2.2.1, ()))))) else none) (κ (1, (v.1, v.2.1, v.2.2.1, v.2.2.2.1, v.2.2.2.2.1, ())))
def uJ (v : fC) : Option (Nat × fC) := vf v some
def zC (v : fC) : Nat := v.1.toNat + v.2.1.toNat + v.2.2.1.toNat + v.2.2.2.1.toNat + v.2.2.2.2.1.1.length + v.2.2.2.2.1.2.1.length + 100
def DA (h0 : Int) (h1 : Int) (h2 : Int) (h3 : Int) (h4 : Ty.T y36) (c : Nat) : Bool := iK uJ zC (h0, h1, h2, h3, h4, ()) c
def I8 (h0 : Int) (h1 : Int) (h2 : Int) (h3 : Int) (h4 : Ty.T y36) : fC := iW uJ zC (h0, h1, h2, h3, h4, ())
def Ob (v : fC) : aR (Ex × St) := bj uJ (zC v) v (aB BZ gM) [.exit 0] 0
theorem X0 : bg Tryz.prog (aH (pb 4 11) (ae Tryz.f331)) BZ gM Ob := au (lt := .none) YM.ok ai (ag.no _) fun n v K => Eq.trans (b := vf v (cM _ _ _ _ _ K)) (by kernel_rfl) (show vf v _ = (vf v some).bind _ from (bC (bI (bO fun x1 => (bC (bI (bO fun x2 => (bC rfl rfl))) rfl))) rfl))
def abO := YM.l (g := 331) (t := (bW (pb 4 11) (ae Tryz.f331) .none (.sum BZ gM Ob))) (aP Tryz.func331 (ag.put (aC (by kernel_rfl)) (ag.no _) X0))
def aas (a0 : Ty.T y36) (a1 : Int) : Option (AV × Sig) := cond (DA a1 0 0 0 a0 0) (some (.one (.int .i64 (I8 a1 0 0 0 a0).2.2.1), [])) (none)
def OK (a0 : Ty.T y36) (a1 : Int) : Int := cond (DA a1 0 0 0 a0 0) ((I8 a1 0 0 0 a0).2.2.1) (0)
def d331 (a0 : Ty.T y36) (a1 : Int) : Bool := cond (DA a1 0 0 0 a0 0) (true) (false)
theorem adL (a0 : Ty.T y36) (a1 : Int) : aas a0 a1 = cond (d331 a0 a1) (some (f331 (OK a0 a1))) none := (pC (pS _) (pN _))
def afz : Prim := ⟨[.agg [.dat y36 true], oI], fun v => .br (d331 v.1 v.2.1) (.done (f331 (OK v.1 v.2.1))) .no⟩
theorem acd : PO 331 afz := pK abO fun v => Eq.trans (b := aas v.1 v.2.1) (by kernel_rfl) (adL v.1 v.2.1)
def f332 (r : Int) : AV × Sig := (.one (.int .i64 r), [])
def acp := E0
@[reducible] def CC : List SP := .und :: oI :: .one (.ptr 2 0) :: .und :: oI :: oI :: oI :: U32 (U2 (.und :: []))
def uN (v : fC) {Z : Type} (κ : Nat × fC -> Option Z) : Option Z := cond (decide (v.2.2.2.1 < ((v.2.2.2.2.1.1).length : Int))) (if 0 <= v.2.2.2.1 then (bq ((v.2.2.2.2.1.1)[(v.2.2.2.1).toNat]?) (fun x1 => cond (x1.2.2.2.1 == (2 : Int)) (if 0 <= v.2.2.2.1 then (bq ((v.2.2.2.2.1.1)[(v.2.2.2.1).toNat]?) (fun x2 => cond (x2.2.2.1 == v.1) (if 0 <= v.2.2.2.1 then (bq ((v.2.2.2.2.1.1)[(v.2.2.2.1).toNat]?) (fun x3 => cond x3.2.2.2.2.2.2.2.2.2.2.2.2 (κ (0, (v.1, v.2.1, IntKind.wrap .i64 (v.2.2.1 + (1 : Int)), IntKind.wrap .i64 (v.2.2.2.1 + (1 : Int)), v.2.2.2.2.1, ()))) (κ (0, (v.1, v.2.1, v.2.2.1, IntKind.wrap .i64 (v.2.2.2.1 + (1 : Int)), v.2.2.2.2.1, ()))))) else none) (κ (0, (v.1, v.2.1, v.2.2.1, IntKind.wrap .i64 (v.2.2.2.1 + (1 : Int)), v.2.2.2.2.1, ()))))) else none) (κ (0, (v.1, v.2.1, v.2.2.1, IntKind.wrap .i64 (v.2.2.2.1 + (1 : Int)), v.2.2.2.2.1, ()))))) else none) (κ (1, (v.1, v.2.1, v.2.2.1, v.2.2.2.1, v.2.2.2.2.1, ())))
def uO (v : fC) : Option (Nat × fC) := uN v some
def zj (v : fC) : Nat := v.1.toNat + v.2.1.toNat + v.2.2.1.toNat + v.2.2.2.1.toNat + v.2.2.2.2.1.1.length + v.2.2.2.2.1.2.1.length + 100
def D8 (h0 : Int) (h1 : Int) (h2 : Int) (h3 : Int) (h4 : Ty.T y36) (c : Nat) : Bool := iK uO zj (h0, h1, h2, h3, h4, ()) c
def Jy (h0 : Int) (h1 : Int) (h2 : Int) (h3 : Int) (h4 : Ty.T y36) : fC := iW uO zj (h0, h1, h2, h3, h4, ())
def OF (v : fC) : aR (Ex × St) := bj uO (zj v) v (aB CC gM) [.exit 0] 0
theorem XP : bg Tryz.prog (aH (pb 4 11) (ae Tryz.f332)) CC gM OF := au (lt := .none) acp.ok ai (ag.no _) fun n v K => Eq.trans (b := uN v (cM _ _ _ _ _ K)) (by kernel_rfl) (show uN v _ = (uN v some).bind _ from (bC (bI (bO fun x1 => (bC (bI (bO fun x2 => (bC (bI (bO fun x3 => (bC rfl rfl))) rfl))) rfl))) rfl))
def acJ := acp.l (g := 332) (t := (bW (pb 4 11) (ae Tryz.f332) .none (.sum CC gM OF))) (aP Tryz.func332 (ag.put (aC (by kernel_rfl)) (ag.no _) XP))
def Zn (a0 : Ty.T y36) (a1 : Int) : Option (AV × Sig) := cond (D8 a1 0 0 0 a0 0) (some (.one (.int .i64 (Jy a1 0 0 0 a0).2.2.1), [])) (none)
def RU (a0 : Ty.T y36) (a1 : Int) : Int := cond (D8 a1 0 0 0 a0 0) ((Jy a1 0 0 0 a0).2.2.1) (0)
def d332 (a0 : Ty.T y36) (a1 : Int) : Bool := cond (D8 a1 0 0 0 a0 0) (true) (false)
theorem ahU (a0 : Ty.T y36) (a1 : Int) : Zn a0 a1 = cond (d332 a0 a1) (some (f332 (RU a0 a1))) none := (pC (pS _) (pN _))
def agz : Prim := ⟨[.agg [.dat y36 true], oI], fun v => .br (d332 v.1 v.2.1) (.done (f332 (RU v.1 v.2.1))) .no⟩
theorem ZC : PO 332 agz := pK acJ fun v => Eq.trans (b := Zn v.1 v.2.1) (by kernel_rfl) (ahU v.1 v.2.1)
def f311 (r : Bool) : AV × Sig := (.one (.bool r), [])
def afm := ((((E0.p nF).p UP).p acd).p ZC)
def t311 (a0 : Ty.T y36) (a1 : Int) (a2 : Ty.T a9) {Z : Type} (κ : Bool -> Option Z) : Option Z := cond (!(yU a2)) (κ false) (cond (!(bx a1 0 (IntKind.wrap .i64 (((a0.2.1).length : Int) - (1 : Int))))) (κ false) (cond (a2.1 == (1 : Int)) (if 0 <= a1 then (bq ((a0.2.1)[(a1).toNat]?) (fun x1 => κ (decide (x1.1 <= a2.2)))) else none) (cond (a2.1 == (2 : Int)) (cond (d331 a0 a1) (κ (decide ((OK a0 a1) ≥ a2.2))) (none)) (cond (a2.1 == (3 : Int)) (κ (a0.2.2.1 == a1)) (cond (a2.1 == (4 : Int)) (cond (d332 a0 a1) (κ (decide ((RU a0 a1) ≥ a2.2))) (none)) (κ true))))))
def M5 (a0 : Ty.T y36) (a1 : Int) (a2 : Ty.T a9) : Bool := (t311 a0 a1 a2 some).getD false
def d311 (a0 : Ty.T y36) (a1 : Int) (a2 : Ty.T a9) : Bool := (t311 a0 a1 a2 some).isSome
def afP : Prim := ⟨[.agg [.dat y36 true], oI, .agg [.dat a9 true]], fun v => .br (d311 v.1 v.2.1 v.2.2.1) (.done (f311 (M5 v.1 v.2.1 v.2.2.1))) .no⟩
theorem aax : PO 311 afP := pK afm fun v => Eq.trans (b := (t311 v.1 v.2.1 v.2.2.1 (sm f311))) (by kernel_rfl) (ar (show t311 v.1 v.2.1 v.2.2.1 (sm f311) = (t311 v.1 v.2.1 v.2.2.1 some).bind _ from by unfold t311; simp only [bb]))
def f279 (r : Int) : AV × Sig := (.one (.int .i64 r), [])
def abh := E0
@[reducible] def B9 : List SP := .und :: oI :: .one (.ptr 2 0) :: .und :: oI :: oI :: U16 ([])
@[reducible] def pT : Type := Int × Int × Int × (Ty.T y36) × Unit
def vg (v : pT) {Z : Type} (κ : Nat × pT -> Option Z) : Option Z := cond (decide (v.2.2.1 < ((v.2.2.2.1.1).length : Int))) (if 0 <= v.2.2.1 then (bq ((v.2.2.2.1.1)[(v.2.2.1).toNat]?) (fun x1 => cond (x1.1 == v.1) (κ (1, (v.1, v.2.2.1, v.2.2.1, v.2.2.2.1, ()))) (κ (0, (v.1, v.2.1, IntKind.wrap .i64 (v.2.2.1 + (1 : Int)), v.2.2.2.1, ()))))) else none) (κ (2, (v.1, v.2.1, v.2.2.1, v.2.2.2.1, ())))
def sW (v : pT) : Option (Nat × pT) := vg v some
def yn (v : pT) : Nat := v.1.toNat + v.2.1.toNat + v.2.2.1.toNat + v.2.2.2.1.1.length + v.2.2.2.1.2.1.length + 100
def lx (h0 : Int) (h1 : Int) (h2 : Int) (h3 : Ty.T y36) (c : Nat) : Bool := iK sW yn (h0, h1, h2, h3, ()) c
def HZ (h0 : Int) (h1 : Int) (h2 : Int) (h3 : Ty.T y36) : pT := iW sW yn (h0, h1, h2, h3, ())
def PI (v : pT) : aR (Ex × St) := bj sW (yn v) v (aB B9 gM) [.ret, .exit 0] 0
theorem Wi : bg Tryz.prog (aH (pb 3 5) (ae Tryz.f279)) B9 gM PI := au (lt := .none) abh.ok ai (ag.no _) fun n v K => Eq.trans (b := vg v (cM _ _ _ _ _ K)) (by kernel_rfl) (show vg v _ = (vg v some).bind _ from (bC (bI (bO fun x1 => (bC rfl rfl))) rfl))
def abr := abh.l (g := 279) (t := (bW (pb 3 5) (ae Tryz.f279) .none (.sum B9 gM PI))) (aP Tryz.func279 (ag.put (aC (by kernel_rfl)) (ag.no _) Wi))
def aca (a0 : Ty.T y36) (a1 : Int) : Option (AV × Sig) := cond (lx a1 0 0 a0 0) (some (.one (.int .i64 (HZ a1 0 0 a0).2.1), [])) (cond (lx a1 0 0 a0 1) (some (.one (.int .i64 (-1)), [])) (none))
def lX (a0 : Ty.T y36) (a1 : Int) : Int := cond (lx a1 0 0 a0 0) ((HZ a1 0 0 a0).2.1) (cond (lx a1 0 0 a0 1) ((-1)) (0))
def d279 (a0 : Ty.T y36) (a1 : Int) : Bool := cond (lx a1 0 0 a0 0) (true) (cond (lx a1 0 0 a0 1) (true) (false))
theorem agZ (a0 : Ty.T y36) (a1 : Int) : aca a0 a1 = cond (d279 a0 a1) (some (f279 (lX a0 a1))) none := (pC (pS _) (pC (pS _) (pN _)))
def aeS : Prim := ⟨[.agg [.dat y36 true], oI], fun v => .br (d279 v.1 v.2.1) (.done (f279 (lX v.1 v.2.1))) .no⟩
theorem Vr : PO 279 aeS := pK abr fun v => Eq.trans (b := aca v.1 v.2.1) (by kernel_rfl) (agZ v.1 v.2.1)
def f270 (r : Int) : AV × Sig := (.one (.int .i64 r), [])
def ahH := ((E0.p nF).p Vr)
def ab9 (a0 : Ty.T y36) (a1 : Ty.T y27) : Option (AV × Sig) := cond (a1.2.2.1 == (0 : Int)) (cond (!(bx a1.2.2.2.1 0 (IntKind.wrap .i64 (((a0.2.1).length : Int) - (1 : Int))))) (some (.one (.int .i64 (-1)), [])) (some (.one (.int .i64 a1.2.2.2.1), []))) (cond (d279 a0 a1.2.2.1) (cond (decide ((lX a0 a1.2.2.1) < (0 : Int))) (some (.one (.int .i64 (-1)), [])) (if 0 <= (lX a0 a1.2.2.1) then (bq ((a0.1)[(lX a0 a1.2.2.1).toNat]?) (fun x1 => some (.one (.int .i64 x1.2.2.1), []))) else none)) (none))
def sB (a0 : Ty.T y36) (a1 : Ty.T y27) : Int := cond (a1.2.2.1 == (0 : Int)) (cond (!(bx a1.2.2.2.1 0 (IntKind.wrap .i64 (((a0.2.1).length : Int) - (1 : Int))))) ((-1)) (a1.2.2.2.1)) (cond (d279 a0 a1.2.2.1) (cond (decide ((lX a0 a1.2.2.1) < (0 : Int))) ((-1)) (rR ((a0.1)[(lX a0 a1.2.2.1).toNat]?) 0 (fun x1 => x1.2.2.1))) (0))
def d270 (a0 : Ty.T y36) (a1 : Ty.T y27) : Bool := cond (a1.2.2.1 == (0 : Int)) (cond (!(bx a1.2.2.2.1 0 (IntKind.wrap .i64 (((a0.2.1).length : Int) - (1 : Int))))) (true) (true)) (cond (d279 a0 a1.2.2.1) (cond (decide ((lX a0 a1.2.2.1) < (0 : Int))) (true) (decide (0 <= (lX a0 a1.2.2.1)) && (pq ((a0.1)[(lX a0 a1.2.2.1).toNat]?) (fun x1 => true)))) (false))
theorem agd (a0 : Ty.T y36) (a1 : Ty.T y27) : ab9 a0 a1 = cond (d270 a0 a1) (some (f270 (sB a0 a1))) none := (pC (pC (pS _) (pS _)) (pC (pC (pS _) (pI (pO fun x1 => (pS _)))) (pN _)))
def ahX : Prim := ⟨[.agg [.dat y36 true], .agg [.dat y27 true]], fun v => .br (d270 v.1 v.2.1) (.done (f270 (sB v.1 v.2.1))) .no⟩
theorem UK : PO 270 ahX := pK ahH fun v => Eq.trans (b := ab9 v.1 v.2.1) (by kernel_rfl) (agd v.1 v.2.1)
def f333 (r : Bool) : AV × Sig := (.one (.bool r), [])
def ae6 := (E0.p UK)
def Iz (a0 : Ty.T y36) (a1 : Int) (a2 : Ty.T bS) (a3 : Ty.T y27) {Z : Type} (κ : Bool -> Option Z) : Option Z := cond (d270 a0 a3) (cond ((sB a0 a3) == (-1 : Int)) (κ false) (cond (a2.2.1 == (1 : Int)) (cond ((sB a0 a3) != a1) (κ false) (cond (a2.2.1 == (2 : Int)) (cond ((sB a0 a3) == a1) (κ false) (cond (a2.2.2.2.2.1 == (0 : Int)) (κ true) (κ (a2.2.2.2.2.1 == a3.2.2.1)))) (cond (a2.2.2.2.2.1 == (0 : Int)) (κ true) (κ (a2.2.2.2.2.1 == a3.2.2.1))))) (cond (a2.2.1 == (2 : Int)) (cond ((sB a0 a3) == a1) (κ false) (cond (a2.2.2.2.2.1 == (0 : Int)) (κ true) (κ (a2.2.2.2.2.1 == a3.2.2.1)))) (cond (a2.2.2.2.2.1 == (0 : Int)) (κ true) (κ (a2.2.2.2.2.1 == a3.2.2.1)))))) (none)
def MB (a0 : Ty.T y36) (a1 : Int) (a2 : Ty.T bS) (a3 : Ty.T y27) : Bool := (Iz a0 a1 a2 a3 some).getD false
def d333 (a0 : Ty.T y36) (a1 : Int) (a2 : Ty.T bS) (a3 : Ty.T y27) : Bool := (Iz a0 a1 a2 a3 some).isSome
def ahv : Prim := ⟨[.agg [.dat y36 true], oI, .agg [.dat bS true], .agg [.dat y27 true]], fun v => .br (d333 v.1 v.2.1 v.2.2.1 v.2.2.2.1) (.done (f333 (MB v.1 v.2.1 v.2.2.1 v.2.2.2.1))) .no⟩
theorem acF : PO 333 ahv := pK ae6 fun v => Eq.trans (b := (Iz v.1 v.2.1 v.2.2.1 v.2.2.2.1 (sm f333))) (by kernel_rfl) (ar (show Iz v.1 v.2.1 v.2.2.1 v.2.2.2.1 (sm f333) = (Iz v.1 v.2.1 v.2.2.1 v.2.2.2.1 some).bind _ from by unfold Iz; simp only [bb]))
def f315 (r : (Ty.T y63)) : AV × Sig := (.agg (y63.cells false r), [])
def ahx := (E0.p Vr)
def Gm (a0 : Ty.T y36) (a1 : Ty.T y27) {Z : Type} (κ : (Ty.T y63) -> Option Z) : Option Z := cond (d279 a0 a1.2.1) (cond (a1.1 != (1 : Int)) (κ (0, 0, 0, 0, 0, 0, 0, 0, 0, 0, 0, false, false)) (cond (decide ((lX a0 a1.2.1) < (0 : Int))) (κ (0, 0, 0, 0, 0, 0, 0, 0, 0, 0, 0, false, false)) (if 0 <= (lX a0 a1.2.1) then (bq ((a0.1)[(lX a0 a1.2.1).toNat]?) (fun x1 => κ x1)) else none))) (none)
def IB (a0 : Ty.T y36) (a1 : Ty.T y27) : (Ty.T y63) := (Gm a0 a1 some).getD (Ty.zero y63)
def d315 (a0 : Ty.T y36) (a1 : Ty.T y27) : Bool := (Gm a0 a1 some).isSome
def ah3 : Prim := ⟨[.agg [.dat y36 true], .agg [.dat y27 true]], fun v => .br (d315 v.1 v.2.1) (.done (f315 (IB v.1 v.2.1))) .no⟩
theorem aat : PO 315 ah3 := pK ahx fun v => Eq.trans (b := (Gm v.1 v.2.1 (sm f315))) (by kernel_rfl) (ar (show Gm v.1 v.2.1 (sm f315) = (Gm v.1 v.2.1 some).bind _ from (bC (bC rfl (bC rfl (bI (bO fun x1 => rfl)))) rfl)))
def f334 (r : Bool) : AV × Sig := (.one (.bool r), [])
def aiH := (E0.p aat)
def YZ (a0 : Ty.T y36) (a1 : Ty.T bS) (a2 : Ty.T y27) : Option (AV × Sig) := cond (a1.2.2.1 == (0 : Int)) (cond (d315 a0 a2) (some (.one (.bool ((IntKind.wrap .i64 ((BitVec.ofInt (IntKind.bits .i64) (IB a0 a2).2.2.2.2.2.2.2.1 &&& BitVec.ofInt (IntKind.bits .i64) a1.2.2.2.1).toNat : Int)) == a1.2.2.2.1)), [])) (none)) (cond (a1.2.2.1 == a2.2.1) (cond (d315 a0 a2) (some (.one (.bool ((IntKind.wrap .i64 ((BitVec.ofInt (IntKind.bits .i64) (IB a0 a2).2.2.2.2.2.2.2.1 &&& BitVec.ofInt (IntKind.bits .i64) a1.2.2.2.1).toNat : Int)) == a1.2.2.2.1)), [])) (none)) (some (.one (.bool false), [])))
def Jg (a0 : Ty.T y36) (a1 : Ty.T bS) (a2 : Ty.T y27) : Bool := cond (a1.2.2.1 == (0 : Int)) (cond (d315 a0 a2) (((IntKind.wrap .i64 ((BitVec.ofInt (IntKind.bits .i64) (IB a0 a2).2.2.2.2.2.2.2.1 &&& BitVec.ofInt (IntKind.bits .i64) a1.2.2.2.1).toNat : Int)) == a1.2.2.2.1)) (false)) (cond (a1.2.2.1 == a2.2.1) (cond (d315 a0 a2) (((IntKind.wrap .i64 ((BitVec.ofInt (IntKind.bits .i64) (IB a0 a2).2.2.2.2.2.2.2.1 &&& BitVec.ofInt (IntKind.bits .i64) a1.2.2.2.1).toNat : Int)) == a1.2.2.2.1)) (false)) (false))
def d334 (a0 : Ty.T y36) (a1 : Ty.T bS) (a2 : Ty.T y27) : Bool := cond (a1.2.2.1 == (0 : Int)) (cond (d315 a0 a2) (true) (false)) (cond (a1.2.2.1 == a2.2.1) (cond (d315 a0 a2) (true) (false)) (true))
theorem ahK (a0 : Ty.T y36) (a1 : Ty.T bS) (a2 : Ty.T y27) : YZ a0 a1 a2 = cond (d334 a0 a1 a2) (some (f334 (Jg a0 a1 a2))) none := (pC (pC (pS _) (pN _)) (pC (pC (pS _) (pN _)) (pS _)))
def aej : Prim := ⟨[.agg [.dat y36 true], .agg [.dat bS true], .agg [.dat y27 true]], fun v => .br (d334 v.1 v.2.1 v.2.2.1) (.done (f334 (Jg v.1 v.2.1 v.2.2.1))) .no⟩
theorem aaA : PO 334 aej := pK aiH fun v => Eq.trans (b := YZ v.1 v.2.1 v.2.2.1) (by kernel_rfl) (ahK v.1 v.2.1 v.2.2.1)
def f312 (r : Bool) : AV × Sig := (.one (.bool r), [])
def afy := ((((E0.p Ln).p UW).p acF).p aaA)
def acq (a0 : Ty.T y36) (a1 : Int) (a2 : Ty.T bS) (a3 : Ty.T y27) : Option (AV × Sig) := cond (wa a2) (cond (dX a3) (cond (a2.1 == a3.1) (cond (d333 a0 a1 a2 a3) (cond (MB a0 a1 a2 a3) (cond (d334 a0 a2 a3) (cond (Jg a0 a2 a3) (cond (decide (a3.2.2.2.2.1 ≥ a2.2.2.2.2.2.1)) (cond (a2.2.2.2.2.2.2 == (0 : Int)) (some (.one (.bool true), [])) (some (.one (.bool (a2.2.2.2.2.2.2 == a3.2.2.2.2.2.1)), []))) (some (.one (.bool false), []))) (some (.one (.bool false), []))) (none)) (some (.one (.bool false), []))) (none)) (some (.one (.bool false), []))) (some (.one (.bool false), []))) (some (.one (.bool false), []))
def MG (a0 : Ty.T y36) (a1 : Int) (a2 : Ty.T bS) (a3 : Ty.T y27) : Bool := cond (wa a2) (cond (dX a3) (cond (a2.1 == a3.1) (cond (d333 a0 a1 a2 a3) (cond (MB a0 a1 a2 a3) (cond (d334 a0 a2 a3) (cond (Jg a0 a2 a3) (cond (decide (a3.2.2.2.2.1 ≥ a2.2.2.2.2.2.1)) (cond (a2.2.2.2.2.2.2 == (0 : Int)) (true) ((a2.2.2.2.2.2.2 == a3.2.2.2.2.2.1))) (false)) (false)) (false)) (false)) (false)) (false)) (false)) (false)
def d312 (a0 : Ty.T y36) (a1 : Int) (a2 : Ty.T bS) (a3 : Ty.T y27) : Bool := cond (wa a2) (cond (dX a3) (cond (a2.1 == a3.1) (cond (d333 a0 a1 a2 a3) (cond (MB a0 a1 a2 a3) (cond (d334 a0 a2 a3) (cond (Jg a0 a2 a3) (cond (decide (a3.2.2.2.2.1 ≥ a2.2.2.2.2.2.1)) (cond (a2.2.2.2.2.2.2 == (0 : Int)) (true) (true)) (true)) (true)) (false)) (true)) (false)) (true)) (true)) (true)
theorem aiB (a0 : Ty.T y36) (a1 : Int) (a2 : Ty.T bS) (a3 : Ty.T y27) : acq a0 a1 a2 a3 = cond (d312 a0 a1 a2 a3) (some (f312 (MG a0 a1 a2 a3))) none := (pC (pC (pC (pC (pC (pC (pC (pC (pC (pS _) (pS _)) (pS _)) (pS _)) (pN _)) (pS _)) (pN _)) (pS _)) (pS _)) (pS _))
def afH : Prim := ⟨[.agg [.dat y36 true], oI, .agg [.dat bS true], .agg [.dat y27 true]], fun v => .br (d312 v.1 v.2.1 v.2.2.1 v.2.2.2.1) (.done (f312 (MG v.1 v.2.1 v.2.2.1 v.2.2.2.1))) .no⟩
theorem Zo : PO 312 afH := pK afy fun v => Eq.trans (b := acq v.1 v.2.1 v.2.2.1 v.2.2.2.1) (by kernel_rfl) (aiB v.1 v.2.1 v.2.2.1 v.2.2.2.1)
def f269 (r : Bool) : AV × Sig := (.one (.bool r), [])
def ah9 := (((((E0.p Rh).p abk).p abw).p aax).p Zo)
def Zs (a0 : Ty.T y36) (a1 : Ty.T aa) (a2 : Ty.T y27) : Option (AV × Sig) := cond (d242 a1) (cond (ek a1) (cond (Fi a1 a0.2.2.2) (cond (M7 a1 a2) (cond (d311 a0 a1.2.1 a1.2.2.2.2.2.1) (cond (M5 a0 a1.2.1 a1.2.2.2.2.2.1) (cond (d312 a0 a1.2.1 a1.2.2.2.2.1 a2) (some (.one (.bool (MG a0 a1.2.1 a1.2.2.2.2.1 a2)), [])) (none)) (some (.one (.bool false), []))) (none)) (some (.one (.bool false), []))) (some (.one (.bool false), []))) (some (.one (.bool false), []))) (none)
def gU (a0 : Ty.T y36) (a1 : Ty.T aa) (a2 : Ty.T y27) : Bool := cond (d242 a1) (cond (ek a1) (cond (Fi a1 a0.2.2.2) (cond (M7 a1 a2) (cond (d311 a0 a1.2.1 a1.2.2.2.2.2.1) (cond (M5 a0 a1.2.1 a1.2.2.2.2.2.1) (cond (d312 a0 a1.2.1 a1.2.2.2.2.1 a2) ((MG a0 a1.2.1 a1.2.2.2.2.1 a2)) (false)) (false)) (false)) (false)) (false)) (false)) (false)
def d269 (a0 : Ty.T y36) (a1 : Ty.T aa) (a2 : Ty.T y27) : Bool := cond (d242 a1) (cond (ek a1) (cond (Fi a1 a0.2.2.2) (cond (M7 a1 a2) (cond (d311 a0 a1.2.1 a1.2.2.2.2.2.1) (cond (M5 a0 a1.2.1 a1.2.2.2.2.2.1) (cond (d312 a0 a1.2.1 a1.2.2.2.2.1 a2) (true) (false)) (true)) (false)) (true)) (true)) (true)) (false)
theorem aeu (a0 : Ty.T y36) (a1 : Ty.T aa) (a2 : Ty.T y27) : Zs a0 a1 a2 = cond (d269 a0 a1 a2) (some (f269 (gU a0 a1 a2))) none := (pC (pC (pC (pC (pC (pC (pC (pS _) (pN _)) (pS _)) (pN _)) (pS _)) (pS _)) (pS _)) (pN _))
def agy : Prim := ⟨[.agg [.dat y36 true], .agg [.dat aa true], .agg [.dat y27 true]], fun v => .br (d269 v.1 v.2.1 v.2.2.1) (.done (f269 (gU v.1 v.2.1 v.2.2.1))) .no⟩
theorem Vs : PO 269 agy := pK ah9 fun v => Eq.trans (b := Zs v.1 v.2.1 v.2.2.1) (by kernel_rfl) (aeu v.1 v.2.1 v.2.2.1)
def HW (r : (Ty.T y27) × (Ty.T af)) : AV × Sig := (.agg (y27.cells false r.1), [(4294967296, .box 222 ((af.cells true r.2)))])
def Ki := ((E0.g wj).p Vs)
@[reducible] def uq : List SP := .one (.ptr 4294967296 0) :: .und :: .one (.dat (.sl 109 aa) false) :: .und :: .one (.ptr 4 0) :: .und :: .one (.ptr 6 0) :: .one (.ptr 7 0) :: oI :: oI :: U2 (.und :: oI :: .one (.dat .bool true) :: U16 (U4 ([])))
@[reducible] def hX : List (Nat × GP) := [(4294967296, .box 222 [.dat af true]), (4, .box 37 [.dat y36 false]), (6, .box 41 [.dat y27 false]), (7, .box 41 [.dat y27 false])]
@[reducible] def ja : Type := (List (Ty.T aa)) × Int × Int × Int × Bool × (Ty.T af) × (Ty.T y36) × (Ty.T y27) × (Ty.T y27) × Unit
def m3 (v : ja) {Z : Type} (κ : Nat × ja -> Option Z) : Option Z := cond (decide (v.2.2.1 < ((v.1).length : Int))) (if 0 <= v.2.2.1 then (bq ((v.1)[(v.2.2.1).toNat]?) (fun x1 => cond (d269 v.2.2.2.2.2.2.1 x1 v.2.2.2.2.2.2.2.2.1) (cond (gU v.2.2.2.2.2.2.1 x1 v.2.2.2.2.2.2.2.2.1) (κ (1, (v.1, v.2.1, v.2.2.1, v.2.2.2.1, v.2.2.2.2.1, v.2.2.2.2.2.1, v.2.2.2.2.2.2.1, v.2.2.2.2.2.2.2.2.1, v.2.2.2.2.2.2.2.2.1, ()))) (κ (0, (v.1, v.2.1, IntKind.wrap .i64 (v.2.2.1 + (1 : Int)), v.2.2.2.1, v.2.2.2.2.1, v.2.2.2.2.2.1, v.2.2.2.2.2.2.1, v.2.2.2.2.2.2.2.1, v.2.2.2.2.2.2.2.2.1, ())))) (none))) else none) (κ (2, (v.1, v.2.1, v.2.2.1, v.2.2.2.1, v.2.2.2.2.1, v.2.2.2.2.2.1, v.2.2.2.2.2.2.1, v.2.2.2.2.2.2.2.1, v.2.2.2.2.2.2.2.2.1, ())))
def kp (v : ja) : Option (Nat × ja) := m3 v some
def ku (v : ja) : Nat := v.1.length + v.2.1.toNat + v.2.2.1.toNat + v.2.2.2.1.toNat + v.2.2.2.2.2.1.1.length + v.2.2.2.2.2.2.1.1.length + v.2.2.2.2.2.2.1.2.1.length + 100
def sc (h0 : List (Ty.T aa)) (h1 : Int) (h2 : Int) (h3 : Int) (h4 : Bool) (h5 : Ty.T af) (h6 : Ty.T y36) (h7 : Ty.T y27) (h8 : Ty.T y27) (c : Nat) : Bool := iK kp ku (h0, h1, h2, h3, h4, h5, h6, h7, h8, ()) c
def cW (h0 : List (Ty.T aa)) (h1 : Int) (h2 : Int) (h3 : Int) (h4 : Bool) (h5 : Ty.T af) (h6 : Ty.T y36) (h7 : Ty.T y27) (h8 : Ty.T y27) : ja := iW kp ku (h0, h1, h2, h3, h4, h5, h6, h7, h8, ())
def Hk (v : ja) : aR (Ex × St) := bj kp (ku v) v (aB uq hX) [.ret, .exit 2] 0
theorem PM : bg Tryz.prog (aH [true, false, false, true] (aH (pb 4 11) (ae Tryz.f212))) uq hX Hk := au (lt := .none) Ki.ok ai (ag.no _) fun n v K => Eq.trans (b := m3 v (cM _ _ _ _ _ K)) (by kernel_rfl) (show m3 v _ = (m3 v some).bind _ from (bC (bI (bO fun x1 => (bC (bC rfl rfl) rfl))) rfl))
@[reducible] def tf : List SP := .one (.ptr 4294967296 0) :: .und :: .one (.dat (.sl 109 aa) false) :: .und :: .one (.ptr 4 0) :: .und :: .one (.ptr 6 0) :: .one (.ptr 7 0) :: oI :: U16 (U8 (U2 ([])))
@[reducible] def gh : Type := (List (Ty.T aa)) × Int × (Ty.T af) × (Ty.T y36) × (Ty.T y27) × (Ty.T y27) × Unit
def nn (v : gh) {Z : Type} (κ : Nat × gh -> Option Z) : Option Z := cond (decide (v.2.1 < (5 : Int))) (cond (sc v.1 v.2.1 0 v.2.1 (decide (v.2.1 < (5 : Int))) v.2.2.1 v.2.2.2.1 v.2.2.2.2.1 v.2.2.2.2.2.1 0) (κ (1, ((cW v.1 v.2.1 0 v.2.1 (decide (v.2.1 < (5 : Int))) v.2.2.1 v.2.2.2.1 v.2.2.2.2.1 v.2.2.2.2.2.1).1, (cW v.1 v.2.1 0 v.2.1 (decide (v.2.1 < (5 : Int))) v.2.2.1 v.2.2.2.1 v.2.2.2.2.1 v.2.2.2.2.2.1).2.1, (cW v.1 v.2.1 0 v.2.1 (decide (v.2.1 < (5 : Int))) v.2.2.1 v.2.2.2.1 v.2.2.2.2.1 v.2.2.2.2.2.1).2.2.2.2.2.1, (cW v.1 v.2.1 0 v.2.1 (decide (v.2.1 < (5 : Int))) v.2.2.1 v.2.2.2.1 v.2.2.2.2.1 v.2.2.2.2.2.1).2.2.2.2.2.2.1, (cW v.1 v.2.1 0 v.2.1 (decide (v.2.1 < (5 : Int))) v.2.2.1 v.2.2.2.1 v.2.2.2.2.1 v.2.2.2.2.2.1).2.2.2.2.2.2.2.1, (cW v.1 v.2.1 0 v.2.1 (decide (v.2.1 < (5 : Int))) v.2.2.1 v.2.2.2.1 v.2.2.2.2.1 v.2.2.2.2.2.1).2.2.2.2.2.2.2.2.1, ()))) (cond (sc v.1 v.2.1 0 v.2.1 (decide (v.2.1 < (5 : Int))) v.2.2.1 v.2.2.2.1 v.2.2.2.2.1 v.2.2.2.2.2.1 1) (cond (lu (cW v.1 v.2.1 0 v.2.1 (decide (v.2.1 < (5 : Int))) v.2.2.1 v.2.2.2.1 v.2.2.2.2.1 v.2.2.2.2.2.1).2.2.2.2.2.2.1 (cW v.1 v.2.1 0 v.2.1 (decide (v.2.1 < (5 : Int))) v.2.2.1 v.2.2.2.1 v.2.2.2.2.1 v.2.2.2.2.2.1).2.2.2.2.2.1) (κ (0, ((cW v.1 v.2.1 0 v.2.1 (decide (v.2.1 < (5 : Int))) v.2.2.1 v.2.2.2.1 v.2.2.2.2.1 v.2.2.2.2.2.1).1, IntKind.wrap .i64 ((cW v.1 v.2.1 0 v.2.1 (decide (v.2.1 < (5 : Int))) v.2.2.1 v.2.2.2.1 v.2.2.2.2.1 v.2.2.2.2.2.1).2.1 + (1 : Int)), (al (cW v.1 v.2.1 0 v.2.1 (decide (v.2.1 < (5 : Int))) v.2.2.1 v.2.2.2.1 v.2.2.2.2.1 v.2.2.2.2.2.1).2.2.2.2.2.2.1 (cW v.1 v.2.1 0 v.2.1 (decide (v.2.1 < (5 : Int))) v.2.2.1 v.2.2.2.1 v.2.2.2.2.1 v.2.2.2.2.2.1).2.2.2.2.2.1).2, (cW v.1 v.2.1 0 v.2.1 (decide (v.2.1 < (5 : Int))) v.2.2.1 v.2.2.2.1 v.2.2.2.2.1 v.2.2.2.2.2.1).2.2.2.2.2.2.1, (cW v.1 v.2.1 0 v.2.1 (decide (v.2.1 < (5 : Int))) v.2.2.1 v.2.2.2.1 v.2.2.2.2.1 v.2.2.2.2.2.1).2.2.2.2.2.2.2.1, (al (cW v.1 v.2.1 0 v.2.1 (decide (v.2.1 < (5 : Int))) v.2.2.1 v.2.2.2.1 v.2.2.2.2.1 v.2.2.2.2.2.1).2.2.2.2.2.2.1 (cW v.1 v.2.1 0 v.2.1 (decide (v.2.1 < (5 : Int))) v.2.2.1 v.2.2.2.1 v.2.2.2.2.1 v.2.2.2.2.2.1).2.2.2.2.2.1).1, ()))) (none)) (none))) (κ (2, (v.1, v.2.1, v.2.2.1, v.2.2.2.1, v.2.2.2.2.1, v.2.2.2.2.2.1, ())))
def kz (v : gh) : Option (Nat × gh) := nn v some
def kE (v : gh) : Nat := v.1.length + v.2.1.toNat + v.2.2.1.1.length + v.2.2.2.1.1.length + v.2.2.2.1.2.1.length + 100
def sn (h0 : List (Ty.T aa)) (h1 : Int) (h2 : Ty.T af) (h3 : Ty.T y36) (h4 : Ty.T y27) (h5 : Ty.T y27) (c : Nat) : Bool := iK kz kE (h0, h1, h2, h3, h4, h5, ()) c
def na (h0 : List (Ty.T aa)) (h1 : Int) (h2 : Ty.T af) (h3 : Ty.T y36) (h4 : Ty.T y27) (h5 : Ty.T y27) : gh := iW kz kE (h0, h1, h2, h3, h4, h5, ())
def Ho (v : gh) : aR (Ex × St) := bj kz (kE v) v (aB tf hX) [.ret, .exit 0] 0
theorem Pv : bg Tryz.prog (aH (pb 4 11) (ae Tryz.f212)) tf hX Ho := au (lt := (bW [true, false, false, true] (aH (pb 4 11) (ae Tryz.f212)) .none (.sum uq hX Hk))) Ki.ok ai (ag.put (aC (by kernel_rfl)) (ag.no _) PM) fun n v K => Eq.trans (b := nn v (cM _ _ _ _ _ K)) (by kernel_rfl) (show nn v _ = (nn v some).bind _ from (bC (bC rfl (bC (bC rfl rfl) rfl)) rfl))
def Tz := Ki.l (g := 212) (t := (bW (pb 4 11) (ae Tryz.f212) .none (.sum tf hX Ho))) (aP Tryz.func212 (ag.put (aC (by kernel_rfl)) (ag.no _) Pv))
def qQ (a0 : Ty.T y36) (a1 : List (Ty.T aa)) (a2 : Ty.T af) {Z : Type} (κ : (Ty.T y27) × (Ty.T af) -> Option Z) : Option Z := cond (lu a0 a2) (cond (sn a1 0 (al a0 a2).2 a0 (0, 0, 0, 0, 0, 0, false) (al a0 a2).1 0) (κ ((na a1 0 (al a0 a2).2 a0 (0, 0, 0, 0, 0, 0, false) (al a0 a2).1).2.2.2.2.1, (na a1 0 (al a0 a2).2 a0 (0, 0, 0, 0, 0, 0, false) (al a0 a2).1).2.2.1)) (cond (sn a1 0 (al a0 a2).2 a0 (0, 0, 0, 0, 0, 0, false) (al a0 a2).1 1) (κ ((na a1 0 (al a0 a2).2 a0 (0, 0, 0, 0, 0, 0, false) (al a0 a2).1).2.2.2.2.2.1, (na a1 0 (al a0 a2).2 a0 (0, 0, 0, 0, 0, 0, false) (al a0 a2).1).2.2.1)) (none))) (none)
def p5 (a0 : Ty.T y36) (a1 : List (Ty.T aa)) (a2 : Ty.T af) : (Ty.T y27) × (Ty.T af) := (qQ a0 a1 a2 some).getD ((Ty.zero y27), (Ty.zero af))
def IH (a0 : Ty.T y36) (a1 : List (Ty.T aa)) (a2 : Ty.T af) : Bool := (qQ a0 a1 a2 some).isSome
def Wy : Gen := ⟨[false, false, false], [.one (.ptr 4294967296 0), .agg [.dat y36 false], .one (.dat (.sl 109 aa) false)], [(4294967296, .box 222 [.dat af true])], fun v => .br (IH v.1 v.2.1 v.2.2.1) (.done (HW (p5 v.1 v.2.1 v.2.2.1))) .no⟩
theorem Ui : bw Tryz.prog 212 Wy := bF Tz.ok ai (aC (by kernel_rfl)) ⟨Tryz.f212, ae Tryz.f212, by kernel_rfl, by kernel_rfl⟩ fun v => Eq.trans (b := (qQ v.1 v.2.1 v.2.2.1 (sm HW))) (by kernel_rfl) (ar (show qQ v.1 v.2.1 v.2.2.1 (sm HW) = (qQ v.1 v.2.1 v.2.2.1 some).bind _ from (bC (bC rfl (bC rfl rfl)) rfl)))
def J0 (r : (Ty.T af) × (List (Ty.T (.int .i64)))) : AV × Sig := (.one (.sl 33554432), [(4294967296, .box 222 ((af.cells true r.1))), (33554432, .arr 3 (.int .i64) r.2 false)])
def NQ := ((E0.g dm).g dN)
@[reducible] def ue : List SP := .one (.ptr 4294967296 0) :: .und :: .one (.dat (.sl 3 (.int .i64)) false) :: .one (.own 5) :: oI :: U8 (U4 (U2 ([])))
@[reducible] def sR : List (Nat × GP) := [(4294967296, .box 222 [.dat af true]), (5, .arr 3 (.int .i64) false)]
@[reducible] def ju : Type := (List (Ty.T (.int .i64))) × Int × (Ty.T af) × (List (Ty.T (.int .i64))) × Unit
def my (v : ju) {Z : Type} (κ : Nat × ju -> Option Z) : Option Z := cond (decide (v.2.1 > (0 : Int))) (cond (bu [0, 1, 2, 1, 3, 5, (-1)] v.2.2.1) (if (v.2.2.2.1 ++ [(ah [0, 1, 2, 1, 3, 5, (-1)] v.2.2.1).1] : List (Ty.T (.int .i64))).length * 8 <= 140737488351232 then (κ (0, (v.1, IntKind.wrap .i64 (v.2.1 - (1 : Int)), (ah [0, 1, 2, 1, 3, 5, (-1)] v.2.2.1).2, v.2.2.2.1 ++ [(ah [0, 1, 2, 1, 3, 5, (-1)] v.2.2.1).1], ()))) else none) (none)) (κ (1, (v.1, v.2.1, v.2.2.1, v.2.2.2.1, ())))
def nU (v : ju) : Option (Nat × ju) := my v some
def nd (v : ju) : Nat := v.1.length + v.2.1.toNat + v.2.2.1.1.length + v.2.2.2.1.length + 100
def Fy (h0 : List (Ty.T (.int .i64))) (h1 : Int) (h2 : Ty.T af) (h3 : List (Ty.T (.int .i64))) (c : Nat) : Bool := iK nU nd (h0, h1, h2, h3, ()) c
def rz (h0 : List (Ty.T (.int .i64))) (h1 : Int) (h2 : Ty.T af) (h3 : List (Ty.T (.int .i64))) : ju := iW nU nd (h0, h1, h2, h3, ())
def F7 (v : ju) : aR (Ex × St) := bj nU (nd v) v (aB ue sR) [.exit 0] 0
theorem QE : bg Tryz.prog (aH (pb 4 11) (ae Tryz.f143)) ue sR F7 := au (lt := .none) NQ.ok ai (ag.no _) fun n v K => Eq.trans (b := my v (cM _ _ _ _ _ K)) (by kernel_rfl) (show my v _ = (my v some).bind _ from (bC (bC (bI rfl) rfl) rfl))
def Ua := NQ.l (g := 143) (t := (bW (pb 4 11) (ae Tryz.f143) .none (.sum ue sR F7))) (aP Tryz.func143 (ag.put (aC (by kernel_rfl)) (ag.no _) QE))
def qB (a0 : Ty.T af) {Z : Type} (κ : (Ty.T af) × (List (Ty.T (.int .i64))) -> Option Z) : Option Z := cond (bD 8 a0) (cond (Fy [] (ab 8 a0).1 (ab 8 a0).2 [] 0) (κ ((rz [] (ab 8 a0).1 (ab 8 a0).2 []).2.2.1, (rz [] (ab 8 a0).1 (ab 8 a0).2 []).2.2.2.1)) (none)) (none)
def qw (a0 : Ty.T af) : (Ty.T af) × (List (Ty.T (.int .i64))) := (qB a0 some).getD ((Ty.zero af), [])
def DW (a0 : Ty.T af) : Bool := (qB a0 some).isSome
def WG : Gen := ⟨[false], [.one (.ptr 4294967296 0)], [(4294967296, .box 222 [.dat af true])], fun v => .br (DW v.1) (.done (J0 (qw v.1))) .no⟩
theorem T7 : bw Tryz.prog 143 WG := bF Ua.ok ai (aC (by kernel_rfl)) ⟨Tryz.f143, ae Tryz.f143, by kernel_rfl, by kernel_rfl⟩ fun v => Eq.trans (b := (qB v.1 (sm J0))) (by kernel_rfl) (ar (show qB v.1 (sm J0) = (qB v.1 some).bind _ from (bC (bC rfl rfl) rfl)))
def JS (r : (Ty.T y36) × (List (Ty.T aa)) × (Ty.T y27) × (Ty.T af) × (List (Ty.T (.int .i64)))) : AV × Sig := (.tup [(true, (y36.cells false r.1)), (false, ([.emb 109 aa r.2.1 false])), (true, (y27.cells false r.2.2.1)), (false, ([.sl 33603584]))], [(4294967296, .box 222 ((af.cells true r.2.2.2.1))), (33603584, .arr 3 (.int .i64) r.2.2.2.2 false)])
def Rn := ((((E0.g Kw).g T7).g Li).g Ui)
@[reducible] def AY : List SP := .one (.ptr 4294967296 0) :: .und :: .one (.ptr 2 0) :: .one (.dat (.sl 109 aa) false) :: .one (.ptr 4 0) :: .one (.dat (.sl 3 (.int .i64)) false) :: .one (.ptr 6 0) :: .one (.dat (.sl 109 aa) false) :: .one (.ptr 8 0) :: U8 (U4 (U2 ([])))
@[reducible] def BL : List (Nat × GP) := [(4294967296, .box 222 [.dat af true]), (2, .box 37 [.dat y36 false]), (4, .box 41 [.dat y27 false]), (6, .box 37 [.dat y36 false]), (8, .box 41 [.dat y27 false])]
@[reducible] def nj : Type := (List (Ty.T aa)) × (List (Ty.T (.int .i64))) × (List (Ty.T aa)) × (Ty.T af) × (Ty.T y36) × (Ty.T y27) × (Ty.T y36) × (Ty.T y27) × Unit
@[reducible] def AI : List SP := U2 (.one (.ptr 2 0) :: .one (.dat (.sl 109 aa) false) :: .one (.ptr 4 0) :: .one (.own 33554454) :: U16 (.und :: []))
@[reducible] def BA : List (Nat × GP) := [(2, .box 37 [.dat y36 false]), (4, .box 41 [.dat y27 false]), (4294967296, .box 222 [.dat af true]), (33554454, .arr 3 (.int .i64) false)]
def wJ (v : nj) (r : Unit) : Ex × St := (.normal, aB AI BA (v.2.2.1, v.2.2.2.2.2.2.1, v.2.2.2.2.2.2.2.1, (qw v.2.2.2.1).1, (qw v.2.2.2.1).2, ()))
def km (v : nj) {Z : Type} (κ : Unit -> Option Z) : Option Z := cond (DW v.2.2.2.1) (κ ()) (none)
def OU (v : nj) : Unit := (km v some).getD ()
def rM (v : nj) : Bool := (km v some).isSome
def Fb (v : nj) : aR (Ex × St) := .br (rM v) (.done (wJ v (OU v))) .no
theorem QC : a7 Tryz.prog (aA (pb 5 15) (ae Tryz.f133)) AY BL Fb := bP (by kernel_rfl) (sx := AI) (gx := BA) Rn.ok ai (by kernel_rfl) 6 fun v => Eq.trans (b := List.replicate 6 (km v (sm (wJ v)))) (by kernel_rfl) (congrArg (List.replicate 6) (ar (show km v (sm (wJ v)) = (km v some).bind _ from (bC rfl rfl))))
def Sv := Rn.l (g := 133) (t := (aM (pb 5 15) (ae Tryz.f133) .none (.sum AY BL Fb))) (aP Tryz.func133 (ag.ct (aC (by kernel_rfl)) (ag.no _) QC))
def qn (a0 : Ty.T af) {Z : Type} (κ : (Ty.T y36) × (List (Ty.T aa)) × (Ty.T y27) × (Ty.T af) × (List (Ty.T (.int .i64))) -> Option Z) : Option Z := cond (sM a0) (cond (z8 ((aj a0).2.2.1, (aj a0).2.2.2, (aj a0).1) (aj a0).2.1) (cond (IH ((aj a0).2.2.1, (aj a0).2.2.2, (aj a0).1) (bX ((aj a0).2.2.1, (aj a0).2.2.2, (aj a0).1) (aj a0).2.1).2 (bX ((aj a0).2.2.1, (aj a0).2.2.2, (aj a0).1) (aj a0).2.1).1) (cond (rM ([], [], (bX ((aj a0).2.2.1, (aj a0).2.2.2, (aj a0).1) (aj a0).2.1).2, (p5 ((aj a0).2.2.1, (aj a0).2.2.2, (aj a0).1) (bX ((aj a0).2.2.1, (aj a0).2.2.2, (aj a0).1) (aj a0).2.1).2 (bX ((aj a0).2.2.1, (aj a0).2.2.2, (aj a0).1) (aj a0).2.1).1).2, ([], [], 0, 0), (0, 0, 0, 0, 0, 0, false), ((aj a0).2.2.1, (aj a0).2.2.2, (aj a0).1), (p5 ((aj a0).2.2.1, (aj a0).2.2.2, (aj a0).1) (bX ((aj a0).2.2.1, (aj a0).2.2.2, (aj a0).1) (aj a0).2.1).2 (bX ((aj a0).2.2.1, (aj a0).2.2.2, (aj a0).1) (aj a0).2.1).1).1, ())) (κ (((aj a0).2.2.1, (aj a0).2.2.2, (aj a0).1), (bX ((aj a0).2.2.1, (aj a0).2.2.2, (aj a0).1) (aj a0).2.1).2, (p5 ((aj a0).2.2.1, (aj a0).2.2.2, (aj a0).1) (bX ((aj a0).2.2.1, (aj a0).2.2.2, (aj a0).1) (aj a0).2.1).2 (bX ((aj a0).2.2.1, (aj a0).2.2.2, (aj a0).1) (aj a0).2.1).1).1, (qw (p5 ((aj a0).2.2.1, (aj a0).2.2.2, (aj a0).1) (bX ((aj a0).2.2.1, (aj a0).2.2.2, (aj a0).1) (aj a0).2.1).2 (bX ((aj a0).2.2.1, (aj a0).2.2.2, (aj a0).1) (aj a0).2.1).1).2).1, (qw (p5 ((aj a0).2.2.1, (aj a0).2.2.2, (aj a0).1) (bX ((aj a0).2.2.1, (aj a0).2.2.2, (aj a0).1) (aj a0).2.1).2 (bX ((aj a0).2.2.1, (aj a0).2.2.2, (aj a0).1) (aj a0).2.1).1).2).2)) (none)) (none)) (none)) (none)
def dx (a0 : Ty.T af) : (Ty.T y36) × (List (Ty.T aa)) × (Ty.T y27) × (Ty.T af) × (List (Ty.T (.int .i64))) := (qn a0 some).getD ((Ty.zero y36), [], (Ty.zero y27), (Ty.zero af), [])
def CT (a0 : Ty.T af) : Bool := (qn a0 some).isSome
def Yp : Gen := ⟨[false], [.one (.ptr 4294967296 0)], [(4294967296, .box 222 [.dat af true])], fun v => .br (CT v.1) (.done (JS (dx v.1))) .no⟩
theorem K1 : bw Tryz.prog 133 Yp := bF Sv.ok ai (aC (by kernel_rfl)) ⟨Tryz.f133, ae Tryz.f133, by kernel_rfl, by kernel_rfl⟩ fun v => Eq.trans (b := (qn v.1 (sm JS))) (by kernel_rfl) (ar (show qn v.1 (sm JS) = (qn v.1 some).bind _ from (bC (bC (bC (bC rfl rfl) rfl) rfl) rfl)))
def f41 (r : (Ty.T y36) × (List (Ty.T aa)) × (Ty.T y27) × (List (Ty.T (.int .i64)))) : AV × Sig := (.tup [(true, (y36.cells false r.1)), (false, ([.emb 109 aa r.2.1 false])), (true, (y27.cells false r.2.2.1)), (false, ([.sl 53248]))], [(53248, .arr 3 (.int .i64) r.2.2.2 false)])
def E41 := ((E0.g K1).p HG)
def t41 (a0 : List (Ty.T (.int .u8))) {Z : Type} (κ : (Ty.T y36) × (List (Ty.T aa)) × (Ty.T y27) × (List (Ty.T (.int .i64))) -> Option Z) : Option Z := cond (d116 a0) (cond (CT (cO a0)) (κ ((dx (cO a0)).1, (dx (cO a0)).2.1, (dx (cO a0)).2.2.1, (dx (cO a0)).2.2.2.2)) (none)) (none)
def v41 (a0 : List (Ty.T (.int .u8))) : (Ty.T y36) × (List (Ty.T aa)) × (Ty.T y27) × (List (Ty.T (.int .i64))) := (t41 a0 some).getD ((Ty.zero y36), [], (Ty.zero y27), [])
def d41 (a0 : List (Ty.T (.int .u8))) : Bool := (t41 a0 some).isSome
def p41 : Prim := ⟨[.one (.dat (.sl 5 (.int .u8)) true)], fun v => .br (d41 v.1) (.done (f41 (v41 v.1))) .no⟩
theorem afd : PO 41 p41 := pK E41 fun v => Eq.trans (b := (t41 v.1 (sm f41))) (by kernel_rfl) (ar (show t41 v.1 (sm f41) = (t41 v.1 some).bind _ from (bC (bC rfl rfl) rfl)))
def f165 (r : Bool) : AV × Sig := (.one (.bool r), [])
def ag8 := E0
def YA (a0 : Int) (a1 : Int) (a2 : Int) : Option (AV × Sig) := cond (decide (a0 ≥ a1)) (some (.one (.bool (decide (a0 <= a2))), [])) (some (.one (.bool false), []))
def cJ (a0 : Int) (a1 : Int) (a2 : Int) : Bool := cond (decide (a0 ≥ a1)) (decide (a0 <= a2)) (false)
theorem agU (a0 : Int) (a1 : Int) (a2 : Int) : YA a0 a1 a2 = some (f165 (cJ a0 a1 a2)) := (tC rfl rfl)
def ahm : Prim := ⟨[oI, oI, oI], fun v => .done (f165 (cJ v.1 v.2.1 v.2.2.1))⟩
theorem jU : PO 165 ahm := pK ag8 fun v => Eq.trans (b := YA v.1 v.2.1 v.2.2.1) (by kernel_rfl) (agU v.1 v.2.1 v.2.2.1)
def f159 (r : Bool) : AV × Sig := (.one (.bool r), [])
def aer := (E0.p jU)
def acT (a0 : Int) : Option (AV × Sig) := some (.one (.bool (cJ a0 0 2147483647)), [])
def uT (a0 : Int) : Bool := (cJ a0 0 2147483647)
theorem ad9 (a0 : Int) : acT a0 = some (f159 (uT a0)) := rfl
def afo : Prim := ⟨[oI], fun v => .done (f159 (uT v.1))⟩
theorem K4 : PO 159 afo := pK aer fun v => Eq.trans (b := acT v.1) (by kernel_rfl) (ad9 v.1)
def f160 (r : Bool) : AV × Sig := (.one (.bool r), [])
def ad5 := (E0.p jU)
def Z8 (a0 : Int) : Option (AV × Sig) := some (.one (.bool (cJ a0 1 99)), [])
def nh (a0 : Int) : Bool := (cJ a0 1 99)
theorem afN (a0 : Int) : Z8 a0 = some (f160 (nh a0)) := rfl
def agH : Prim := ⟨[oI], fun v => .done (f160 (nh v.1))⟩
theorem EY : PO 160 agH := pK ad5 fun v => Eq.trans (b := Z8 v.1) (by kernel_rfl) (afN v.1)
def f161 (r : Bool) : AV × Sig := (.one (.bool r), [])
def aeI := (E0.p EY)
def acu (a0 : Ty.T y27) : Option (AV × Sig) := cond (nh a0.2.2.1) (some (.one (.bool (a0.2.2.2.1 == (-1 : Int))), [])) (some (.one (.bool false), []))
def eC (a0 : Ty.T y27) : Bool := cond (nh a0.2.2.1) ((a0.2.2.2.1 == (-1 : Int))) (false)
theorem afE (a0 : Ty.T y27) : acu a0 = some (f161 (eC a0)) := (tC rfl rfl)
def afF : Prim := ⟨[.agg [.dat y27 true]], fun v => .done (f161 (eC v.1))⟩
theorem aaZ : PO 161 afF := pK aeI fun v => Eq.trans (b := acu v.1) (by kernel_rfl) (afE v.1)
def f164 (r : Bool) : AV × Sig := (.one (.bool r), [])
def aiv := (E0.p jU)
def ZV (a0 : Int) : Option (AV × Sig) := some (.one (.bool (cJ a0 0 2)), [])
def qe (a0 : Int) : Bool := (cJ a0 0 2)
theorem adF (a0 : Int) : ZV a0 = some (f164 (qe a0)) := rfl
def agM : Prim := ⟨[oI], fun v => .done (f164 (qe v.1))⟩
theorem Kx : PO 164 agM := pK aiv fun v => Eq.trans (b := ZV v.1) (by kernel_rfl) (adF v.1)
def f162 (r : Bool) : AV × Sig := (.one (.bool r), [])
def ads := (E0.p Kx)
def ZD (a0 : Ty.T y27) : Option (AV × Sig) := cond (a0.2.2.1 == (0 : Int)) (some (.one (.bool (qe a0.2.2.2.1)), [])) (some (.one (.bool false), []))
def qO (a0 : Ty.T y27) : Bool := cond (a0.2.2.1 == (0 : Int)) ((qe a0.2.2.2.1)) (false)
theorem agV (a0 : Ty.T y27) : ZD a0 = some (f162 (qO a0)) := (tC rfl rfl)
def agN : Prim := ⟨[.agg [.dat y27 true]], fun v => .done (f162 (qO v.1))⟩
theorem acv : PO 162 agN := pK ads fun v => Eq.trans (b := ZD v.1) (by kernel_rfl) (agV v.1)
def f163 (r : Bool) : AV × Sig := (.one (.bool r), [])
def ail := (E0.p jU)
def aa4 (a0 : Int) : Option (AV × Sig) := some (.one (.bool (cJ a0 1 4)), [])
def v8 (a0 : Int) : Bool := (cJ a0 1 4)
theorem ahs (a0 : Int) : aa4 a0 = some (f163 (v8 a0)) := rfl
def adM : Prim := ⟨[oI], fun v => .done (f163 (v8 v.1))⟩
theorem PJ : PO 163 adM := pK ail fun v => Eq.trans (b := aa4 v.1) (by kernel_rfl) (ahs v.1)
def f53 (r : Bool) : AV × Sig := (.one (.bool r), [])
def E53 := (((((E0.p K4).p EY).p aaZ).p acv).p PJ)
def t53 (a0 : Ty.T y27) {Z : Type} (κ : Bool -> Z) : Z := cond (!(uT a0.2.2.2.2.1)) (κ false) (cond (a0.1 != (1 : Int)) (cond (a0.2.1 != (0 : Int)) (κ false) (cond (a0.1 != (2 : Int)) (cond (a0.2.2.2.2.2.1 != (0 : Int)) (κ false) (cond a0.2.2.2.2.2.2 (κ false) (cond (a0.1 == (1 : Int)) (cond (nh a0.2.1) (cond (eC a0) (κ true) (κ (qO a0))) (κ false)) (cond (a0.1 == (2 : Int)) (cond (a0.2.2.2.2.2.1 == (2 : Int)) (cond (eC a0) (κ (decide (a0.2.2.2.2.1 <= (99 : Int)))) (κ false)) (cond (eC a0) (cond (v8 a0.2.2.2.2.2.1) (cond (a0.2.2.2.2.1 == (0 : Int)) (κ (!a0.2.2.2.2.2.2)) (κ false)) (κ false)) (κ false))) (cond (a0.1 == (3 : Int)) (cond (a0.1 == (3 : Int)) (κ (qO a0)) (cond (a0.1 == (5 : Int)) (cond (a0.1 == (5 : Int)) (κ (eC a0)) (κ false)) (cond (a0.1 == (6 : Int)) (κ (eC a0)) (κ false)))) (cond (a0.1 == (4 : Int)) (κ (qO a0)) (cond (a0.1 == (5 : Int)) (cond (a0.1 == (5 : Int)) (κ (eC a0)) (κ false)) (cond (a0.1 == (6 : Int)) (κ (eC a0)) (κ false))))))))) (cond (a0.1 == (1 : Int)) (cond (nh a0.2.1) (cond (eC a0) (κ true) (κ (qO a0))) (κ false)) (cond (a0.1 == (2 : Int)) (cond (a0.2.2.2.2.2.1 == (2 : Int)) (cond (eC a0) (κ (decide (a0.2.2.2.2.1 <= (99 : Int)))) (κ false)) (cond (eC a0) (cond (v8 a0.2.2.2.2.2.1) (cond (a0.2.2.2.2.1 == (0 : Int)) (κ (!a0.2.2.2.2.2.2)) (κ false)) (κ false)) (κ false))) (cond (a0.1 == (3 : Int)) (cond (a0.1 == (3 : Int)) (κ (qO a0)) (cond (a0.1 == (5 : Int)) (cond (a0.1 == (5 : Int)) (κ (eC a0)) (κ false)) (cond (a0.1 == (6 : Int)) (κ (eC a0)) (κ false)))) (cond (a0.1 == (4 : Int)) (κ (qO a0)) (cond (a0.1 == (5 : Int)) (cond (a0.1 == (5 : Int)) (κ (eC a0)) (κ false)) (cond (a0.1 == (6 : Int)) (κ (eC a0)) (κ false))))))))) (cond (a0.1 != (2 : Int)) (cond (a0.2.2.2.2.2.1 != (0 : Int)) (κ false) (cond a0.2.2.2.2.2.2 (κ false) (cond (a0.1 == (1 : Int)) (cond (nh a0.2.1) (cond (eC a0) (κ true) (κ (qO a0))) (κ false)) (cond (a0.1 == (2 : Int)) (cond (a0.2.2.2.2.2.1 == (2 : Int)) (cond (eC a0) (κ (decide (a0.2.2.2.2.1 <= (99 : Int)))) (κ false)) (cond (eC a0) (cond (v8 a0.2.2.2.2.2.1) (cond (a0.2.2.2.2.1 == (0 : Int)) (κ (!a0.2.2.2.2.2.2)) (κ false)) (κ false)) (κ false))) (cond (a0.1 == (3 : Int)) (cond (a0.1 == (3 : Int)) (κ (qO a0)) (cond (a0.1 == (5 : Int)) (cond (a0.1 == (5 : Int)) (κ (eC a0)) (κ false)) (cond (a0.1 == (6 : Int)) (κ (eC a0)) (κ false)))) (cond (a0.1 == (4 : Int)) (κ (qO a0)) (cond (a0.1 == (5 : Int)) (cond (a0.1 == (5 : Int)) (κ (eC a0)) (κ false)) (cond (a0.1 == (6 : Int)) (κ (eC a0)) (κ false))))))))) (cond (a0.1 == (1 : Int)) (cond (nh a0.2.1) (cond (eC a0) (κ true) (κ (qO a0))) (κ false)) (cond (a0.1 == (2 : Int)) (cond (a0.2.2.2.2.2.1 == (2 : Int)) (cond (eC a0) (κ (decide (a0.2.2.2.2.1 <= (99 : Int)))) (κ false)) (cond (eC a0) (cond (v8 a0.2.2.2.2.2.1) (cond (a0.2.2.2.2.1 == (0 : Int)) (κ (!a0.2.2.2.2.2.2)) (κ false)) (κ false)) (κ false))) (cond (a0.1 == (3 : Int)) (cond (a0.1 == (3 : Int)) (κ (qO a0)) (cond (a0.1 == (5 : Int)) (cond (a0.1 == (5 : Int)) (κ (eC a0)) (κ false)) (cond (a0.1 == (6 : Int)) (κ (eC a0)) (κ false)))) (cond (a0.1 == (4 : Int)) (κ (qO a0)) (cond (a0.1 == (5 : Int)) (cond (a0.1 == (5 : Int)) (κ (eC a0)) (κ false)) (cond (a0.1 == (6 : Int)) (κ (eC a0)) (κ false)))))))))
def v53 (a0 : Ty.T y27) : Bool := t53 a0 fun r => r
def p53 : Prim := ⟨[.agg [.dat y27 true]], fun v => .done (f53 (v53 v.1))⟩
theorem PS : PO 53 p53 := pK E53 fun v => Eq.trans (b := (t53 v.1 (sm f53))) (by kernel_rfl) (show t53 v.1 (sm f53) = some (f53 (t53 v.1 fun r => r)) from (tC rfl (tC (tC rfl (tC (tC rfl (tC rfl (tC (tC (tC rfl rfl) rfl) (tC (tC (tC rfl rfl) (tC (tC (tC rfl rfl) rfl) rfl)) (tC (tC rfl (tC (tC rfl rfl) (tC rfl rfl))) (tC rfl (tC (tC rfl rfl) (tC rfl rfl)))))))) (tC (tC (tC rfl rfl) rfl) (tC (tC (tC rfl rfl) (tC (tC (tC rfl rfl) rfl) rfl)) (tC (tC rfl (tC (tC rfl rfl) (tC rfl rfl))) (tC rfl (tC (tC rfl rfl) (tC rfl rfl)))))))) (tC (tC rfl (tC rfl (tC (tC (tC rfl rfl) rfl) (tC (tC (tC rfl rfl) (tC (tC (tC rfl rfl) rfl) rfl)) (tC (tC rfl (tC (tC rfl rfl) (tC rfl rfl))) (tC rfl (tC (tC rfl rfl) (tC rfl rfl)))))))) (tC (tC (tC rfl rfl) rfl) (tC (tC (tC rfl rfl) (tC (tC (tC rfl rfl) rfl) rfl)) (tC (tC rfl (tC (tC rfl rfl) (tC rfl rfl))) (tC rfl (tC (tC rfl rfl) (tC rfl rfl))))))))))
def f168 (r : Bool) : AV × Sig := (.one (.bool r), [])
def agj := (E0.p jU)
def aa9 (a0 : Ty.T y36) (a1 : Int) : Option (AV × Sig) := some (.one (.bool (cJ a1 0 (IntKind.wrap .i64 (((a0.2.1).length : Int) - (1 : Int))))), [])
def pn (a0 : Ty.T y36) (a1 : Int) : Bool := (cJ a1 0 (IntKind.wrap .i64 (((a0.2.1).length : Int) - (1 : Int))))
theorem aiw (a0 : Ty.T y36) (a1 : Int) : aa9 a0 a1 = some (f168 (pn a0 a1)) := rfl
def ad8 : Prim := ⟨[.agg [.dat y36 true], oI], fun v => .done (f168 (pn v.1 v.2.1))⟩
theorem P7 : PO 168 ad8 := pK agj fun v => Eq.trans (b := aa9 v.1 v.2.1) (by kernel_rfl) (aiw v.1 v.2.1)
def f169 (r : Bool) : AV × Sig := (.one (.bool r), [])
def ahV := (E0.p jU)
def aaK (a0 : Int) : Option (AV × Sig) := some (.one (.bool (cJ a0 0 9999)), [])
def Mq (a0 : Int) : Bool := (cJ a0 0 9999)
theorem adx (a0 : Int) : aaK a0 = some (f169 (Mq a0)) := rfl
def afJ : Prim := ⟨[oI], fun v => .done (f169 (Mq v.1))⟩
theorem UB : PO 169 afJ := pK ahV fun v => Eq.trans (b := aaK v.1) (by kernel_rfl) (adx v.1)
def f250 (r : Bool) : AV × Sig := (.one (.bool r), [])
def afB := (E0.p jU)
def abP (a0 : Int) : Option (AV × Sig) := some (.one (.bool (cJ a0 0 63)), [])
def LX (a0 : Int) : Bool := (cJ a0 0 63)
theorem agT (a0 : Int) : abP a0 = some (f250 (LX a0)) := rfl
def ahE : Prim := ⟨[oI], fun v => .done (f250 (LX v.1))⟩
theorem Vn : PO 250 ahE := pK afB fun v => Eq.trans (b := abP v.1) (by kernel_rfl) (agT v.1)
def f170 (r : Bool) : AV × Sig := (.one (.bool r), [])
def adG := (((((((E0.p K4).p EY).p PJ).p Kx).p jU).p UB).p Vn)
def t170 (a0 : Ty.T y63) {Z : Type} (κ : Bool -> Z) : Z := cond (!(nh a0.1)) (κ false) (cond (!(qe a0.2.1)) (κ false) (cond (!(qe a0.2.2.1)) (κ false) (cond (!(v8 a0.2.2.2.1)) (κ false) (cond (!(Mq a0.2.2.2.2.1)) (κ false) (cond (!(cJ a0.2.2.2.2.2.1 0 999)) (κ false) (cond (!(cJ a0.2.2.2.2.2.2.1 0 999)) (κ false) (cond (!(LX a0.2.2.2.2.2.2.2.1)) (κ false) (cond (a0.2.2.2.1 != (2 : Int)) (cond (a0.2.2.1 == a0.2.1) (cond (a0.2.2.2.2.2.2.2.2.1 == (0 : Int)) (cond (a0.2.2.2.2.2.2.2.2.2.1 == (0 : Int)) (cond (a0.2.2.2.2.2.2.2.2.2.2.1 == (0 : Int)) (cond (!a0.2.2.2.2.2.2.2.2.2.2.2.1) (κ (!a0.2.2.2.2.2.2.2.2.2.2.2.2)) (κ false)) (κ false)) (κ false)) (κ false)) (κ false)) (cond (uT a0.2.2.2.2.2.2.2.2.1) (cond (uT a0.2.2.2.2.2.2.2.2.2.1) (κ (uT a0.2.2.2.2.2.2.2.2.2.2.1)) (κ false)) (κ false))))))))))
def N8 (a0 : Ty.T y63) : Bool := t170 a0 fun r => r
def afG : Prim := ⟨[.agg [.dat y63 true]], fun v => .done (f170 (N8 v.1))⟩
theorem YK : PO 170 afG := pK adG fun v => Eq.trans (b := (t170 v.1 (sm f170))) (by kernel_rfl) (show t170 v.1 (sm f170) = some (f170 (t170 v.1 fun r => r)) from (tC rfl (tC rfl (tC rfl (tC rfl (tC rfl (tC rfl (tC rfl (tC rfl (tC (tC (tC (tC (tC (tC rfl rfl) rfl) rfl) rfl) rfl) (tC (tC rfl rfl) rfl)))))))))))
def f173 (r : Int) : AV × Sig := (.one (.int .i64 r), [])
def adK := E0
def aai (a0 : Int) : Option (AV × Sig) := some (.one (.int .i64 (if (if (2147483647 : Int) < a0 then 2147483647 else a0) > (-2147483647 : Int) then if (2147483647 : Int) < a0 then 2147483647 else a0 else (-2147483647))), [])
def fD (a0 : Int) : Int := if (if (2147483647 : Int) < a0 then 2147483647 else a0) > (-2147483647 : Int) then if (2147483647 : Int) < a0 then 2147483647 else a0 else (-2147483647)
theorem ae1 (a0 : Int) : aai a0 = some (f173 (fD a0)) := rfl
def afk : Prim := ⟨[oI], fun v => .done (f173 (fD v.1))⟩
theorem Bw : PO 173 afk := pK adK fun v => Eq.trans (b := aai v.1) (by kernel_rfl) (ae1 v.1)
def f172 (r : Bool) : AV × Sig := (.one (.bool r), [])
def aeJ := ((E0.p K4).p Bw)
def abE (a0 : Ty.T cy) : Option (AV × Sig) := cond ((fD a0.1) != a0.1) (some (.one (.bool true), [])) (some (.one (.bool (!(uT a0.2.1))), []))
def MH (a0 : Ty.T cy) : Bool := cond ((fD a0.1) != a0.1) (true) (!(uT a0.2.1))
theorem ae8 (a0 : Ty.T cy) : abE a0 = some (f172 (MH a0)) := (tC rfl rfl)
def afi : Prim := ⟨[.agg [.dat cy true]], fun v => .done (f172 (MH v.1))⟩
theorem YY : PO 172 afi := pK aeJ fun v => Eq.trans (b := abE v.1) (by kernel_rfl) (ae8 v.1)
def RY (r : Int) : AV × Sig := (.one (.int .i64 r), [])
def Pn := (E0.p YY)
@[reducible] def ui : List SP := .one (.dat (.sl 191 cy) true) :: .one (.fnc 172 []) :: U2 (oI :: U2 (oI :: oI :: U8 (U2 ([]))))
@[reducible] def jz : Type := (List (Ty.T cy)) × Int × Int × Int × Unit
def la (v : jz) {Z : Type} (κ : Nat × jz -> Option Z) : Option Z := cond (decide (v.2.2.2.1 < v.2.2.1)) (if 0 <= v.2.2.2.1 then (bq ((v.1)[(v.2.2.2.1).toNat]?) (fun x1 => cond (MH x1) (κ (1, (v.1, v.2.2.2.1, v.2.2.1, v.2.2.2.1, ()))) (κ (0, (v.1, v.2.1, v.2.2.1, IntKind.wrap .i64 (v.2.2.2.1 + (1 : Int)), ()))))) else none) (κ (2, (v.1, v.2.1, v.2.2.1, v.2.2.2.1, ())))
def kQ (v : jz) : Option (Nat × jz) := la v some
def oA (v : jz) : Nat := v.1.length + v.2.1.toNat + v.2.2.1.toNat + v.2.2.2.1.toNat + 100
def fj (h0 : List (Ty.T cy)) (h1 : Int) (h2 : Int) (h3 : Int) (c : Nat) : Bool := iK kQ oA (h0, h1, h2, h3, ()) c
def rk (h0 : List (Ty.T cy)) (h1 : Int) (h2 : Int) (h3 : Int) : jz := iW kQ oA (h0, h1, h2, h3, ())
def Hu (v : jz) : aR (Ex × St) := bj kQ (oA v) v (aB ui aG) [.ret, .exit 0] 0
theorem R2 : bg Tryz.prog (aH (pb 3 5) (ae Tryz.f251)) ui aG Hu := au (lt := .none) Pn.ok ai (ag.no _) fun n v K => Eq.trans (b := la v (cM _ _ _ _ _ K)) (by kernel_rfl) (show la v _ = (la v some).bind _ from (bC (bI (bO fun x1 => (bC rfl rfl))) rfl))
def Tn := Pn.l (g := 251) (t := (bW (pb 3 5) (ae Tryz.f251) .none (.sum ui aG Hu))) (aP Tryz.func251 (ag.put (aC (by kernel_rfl)) (ag.no _) R2))
def PD (a0 : List (Ty.T cy)) : Option (AV × Sig) := cond (fj a0 0 ((a0).length : Int) 0 0) (some (.one (.int .i64 (rk a0 0 ((a0).length : Int) 0).2.1), [])) (cond (fj a0 0 ((a0).length : Int) 0 1) (some (.one (.int .i64 (-1)), [])) (none))
def wF (a0 : List (Ty.T cy)) : Int := cond (fj a0 0 ((a0).length : Int) 0 0) ((rk a0 0 ((a0).length : Int) 0).2.1) (cond (fj a0 0 ((a0).length : Int) 0 1) ((-1)) (0))
def tX (a0 : List (Ty.T cy)) : Bool := cond (fj a0 0 ((a0).length : Int) 0 0) (true) (cond (fj a0 0 ((a0).length : Int) 0 1) (true) (false))
theorem XX (a0 : List (Ty.T cy)) : PD a0 = cond (tX a0) (some (RY (wF a0))) none := (pC (pS _) (pC (pS _) (pN _)))
def Xu : Prim := ⟨[.one (.dat (.sl 191 cy) true), .one (.fnc 172 [])], fun v => .br (tX v.1) (.done (RY (wF v.1))) .no⟩
theorem Uf : PO 251 Xu := pK Tn fun v => Eq.trans (b := PD v.1) (by kernel_rfl) (XX v.1)
def Nq (r : Bool) : AV × Sig := (.one (.bool r), [])
def VO := (E0.p Uf)
def RE (a0 : List (Ty.T cy)) : Option (AV × Sig) := cond (tX a0) (some (.one (.bool (decide ((wF a0) ≥ (0 : Int)))), [])) (none)
def xH (a0 : List (Ty.T cy)) : Bool := cond (tX a0) (decide ((wF a0) ≥ (0 : Int))) (false)
def yT (a0 : List (Ty.T cy)) : Bool := cond (tX a0) (true) (false)
theorem X5 (a0 : List (Ty.T cy)) : RE a0 = cond (yT a0) (some (Nq (xH a0))) none := (pC (pS _) (pN _))
def Wa : Prim := ⟨[.one (.dat (.sl 191 cy) true), .one (.fnc 172 [])], fun v => .br (yT v.1) (.done (Nq (xH v.1))) .no⟩
theorem Uu : PO 171 Wa := pK VO fun v => Eq.trans (b := RE v.1) (by kernel_rfl) (X5 v.1)
def f56 (r : Bool) : AV × Sig := (.one (.bool r), [])
def E56 := (((((E0.p Uu).p jU).p P7).p UB).p YK)
@[reducible] def JQ : List SP := .und :: .one (.ptr 1 0) :: .one (.dat .bool true) :: U16 (U8 (U2 (.und :: .one (.dat (.sl 64 y63) true) :: oI :: oI :: U32 (U16 (.und :: [])))))
@[reducible] def lZ : List (Nat × GP) := [(1, .box 37 [.dat y36 true])]
@[reducible] def yb : Type := Bool × (List (Ty.T y63)) × Int × Int × (Ty.T y36) × Unit
def vA (v : yb) {Z : Type} (κ : Nat × yb -> Option Z) : Option Z := cond (decide (v.2.2.2.1 < v.2.2.1)) (if 0 <= v.2.2.2.1 then (bq ((v.2.1)[(v.2.2.2.1).toNat]?) (fun x1 => cond (!(N8 x1)) (κ (1, (false, v.2.1, v.2.2.1, v.2.2.2.1, v.2.2.2.2.1, ()))) (cond (!(pn v.2.2.2.2.1 x1.2.1)) (κ (1, (false, v.2.1, v.2.2.1, v.2.2.2.1, v.2.2.2.2.1, ()))) (cond (!(pn v.2.2.2.2.1 x1.2.2.1)) (κ (1, (false, v.2.1, v.2.2.1, v.2.2.2.1, v.2.2.2.2.1, ()))) (cond (decide (x1.2.2.2.2.1 > v.2.2.2.2.1.2.2.2)) (κ (1, (false, v.2.1, v.2.2.1, v.2.2.2.1, v.2.2.2.2.1, ()))) (cond (decide (v.2.2.2.1 > (0 : Int))) (if 0 <= (IntKind.wrap .i64 (v.2.2.2.1 - (1 : Int))) then (bq ((v.2.2.2.2.1.1)[(IntKind.wrap .i64 (v.2.2.2.1 - (1 : Int))).toNat]?) (fun x2 => cond (decide (x2.1 ≥ x1.1)) (κ (1, (false, v.2.1, v.2.2.1, v.2.2.2.1, v.2.2.2.2.1, ()))) (κ (0, (v.1, v.2.1, v.2.2.1, IntKind.wrap .i64 (v.2.2.2.1 + (1 : Int)), v.2.2.2.2.1, ()))))) else none) (κ (0, (v.1, v.2.1, v.2.2.1, IntKind.wrap .i64 (v.2.2.2.1 + (1 : Int)), v.2.2.2.2.1, ()))))))))) else none) (κ (2, (v.1, v.2.1, v.2.2.1, v.2.2.2.1, v.2.2.2.2.1, ())))
def py (v : yb) : Option (Nat × yb) := vA v some
def Be (v : yb) : Nat := v.2.1.length + v.2.2.1.toNat + v.2.2.2.1.toNat + v.2.2.2.2.1.1.length + v.2.2.2.2.1.2.1.length + 100
def EL (h0 : Bool) (h1 : List (Ty.T y63)) (h2 : Int) (h3 : Int) (h4 : Ty.T y36) (c : Nat) : Bool := iK py Be (h0, h1, h2, h3, h4, ()) c
def FP (h0 : Bool) (h1 : List (Ty.T y63)) (h2 : Int) (h3 : Int) (h4 : Ty.T y36) : yb := iW py Be (h0, h1, h2, h3, h4, ())
def Vu (v : yb) : aR (Ex × St) := bj py (Be v) v (aB JQ lZ) [.ret, .exit 0] 0
theorem acV : bg Tryz.prog (aH (pb 4 11) (ae Tryz.f56)) JQ lZ Vu := au (lt := .none) E56.ok ai (ag.no _) fun n v K => Eq.trans (b := vA v (cM _ _ _ _ _ K)) (by kernel_rfl) (show vA v _ = (vA v some).bind _ from (bC (bI (bO fun x1 => (bC rfl (bC rfl (bC rfl (bC rfl (bC (bI (bO fun x2 => (bC rfl rfl))) rfl))))))) rfl))
def aec := E56.l (g := 56) (t := (bW (pb 4 11) (ae Tryz.f56) .none (.sum JQ lZ Vu))) (aP Tryz.func56 (ag.put (aC (by kernel_rfl)) (ag.no _) acV))
def t56 (a0 : Ty.T y36) {Z : Type} (κ : Bool -> Option Z) : Option Z := cond (decide (((a0.1).length : Int) > (8 : Int))) (κ false) (cond (!(cJ ((a0.2.1).length : Int) 2 3)) (κ false) (cond (!(pn a0 a0.2.2.1)) (κ false) (cond (!(Mq a0.2.2.2)) (κ false) (cond (EL false a0.1 ((a0.1).length : Int) 0 a0 0) (κ (FP false a0.1 ((a0.1).length : Int) 0 a0).1) (cond (EL false a0.1 ((a0.1).length : Int) 0 a0 1) (cond (yT (FP false a0.1 ((a0.1).length : Int) 0 a0).2.2.2.2.1.2.1) (κ (!(xH (FP false a0.1 ((a0.1).length : Int) 0 a0).2.2.2.2.1.2.1))) (none)) (none))))))
def v56 (a0 : Ty.T y36) : Bool := (t56 a0 some).getD false
def d56 (a0 : Ty.T y36) : Bool := (t56 a0 some).isSome
def p56 : Prim := ⟨[.agg [.dat y36 true]], fun v => .br (d56 v.1) (.done (f56 (v56 v.1))) .no⟩
theorem ahz : PO 56 p56 := pK aec fun v => Eq.trans (b := (t56 v.1 (sm f56))) (by kernel_rfl) (ar (show t56 v.1 (sm f56) = (t56 v.1 some).bind _ from by unfold t56; simp only [bb]))
def f177 (r : List (Ty.T y27)) : AV × Sig := (.one (.sl 4096), [(4096, .arr 41 y27 r false)])
def wD (a0 : List (Ty.T y27)) : List (Ty.T y27) := a0
def d177 (a0 : List (Ty.T y27)) : Bool := decide (List.length a0 * 56 <= 140737488351232)
def aet : Prim := ⟨[.one (.dat (.sl 41 y27) true)], fun v => .br (d177 v.1) (.done (f177 (wD v.1))) .no⟩
theorem OV : PO 177 aet := KZ (t := 55) (tb := 4) (e := 41) hEt Tryz.func177 (by kernel_rfl) (by kernel_rfl) (by kernel_rfl) (by kernel_rfl) rfl rfl (by decide) (by kernel_rfl)
def f226 (r : (Ty.T q1) × (Ty.T a9) × (List (Ty.T y27))) : AV × Sig := (.agg ((q1.cells false r.1) ++ [.sl 81920] ++ (a9.cells false r.2.1)), [(81920, .arr 41 y27 r.2.2 false)])
def aiq := (E0.p OV)
def t226 (a0 : Ty.T aa) {Z : Type} (κ : (Ty.T q1) × (Ty.T a9) × (List (Ty.T y27)) -> Option Z) : Option Z := cond (d177 a0.2.2.2.2.2.2.1.2.2.2.2.2.2) (κ ((a0.1, a0.2.1, a0.2.2.1, a0.2.2.2.1, a0.2.2.2.2.1, a0.2.2.2.2.2.1, a0.2.2.2.2.2.2.1.1, a0.2.2.2.2.2.2.1.2.1, a0.2.2.2.2.2.2.1.2.2.1, a0.2.2.2.2.2.2.1.2.2.2.1, a0.2.2.2.2.2.2.1.2.2.2.2.1, a0.2.2.2.2.2.2.1.2.2.2.2.2.1), a0.2.2.2.2.2.2.2, (wD a0.2.2.2.2.2.2.1.2.2.2.2.2.2))) (none)
def cr (a0 : Ty.T aa) : (Ty.T q1) × (Ty.T a9) × (List (Ty.T y27)) := (t226 a0 some).getD ((Ty.zero q1), (Ty.zero a9), [])
def d226 (a0 : Ty.T aa) : Bool := (t226 a0 some).isSome
def ag1 : Prim := ⟨[.agg [.dat aa true]], fun v => .br (d226 v.1) (.done (f226 (cr v.1))) .no⟩
theorem KW : PO 226 ag1 := pK aiq fun v => Eq.trans (b := (t226 v.1 (sm f226))) (by kernel_rfl) (ar (show t226 v.1 (sm f226) = (t226 v.1 some).bind _ from (bC rfl rfl)))
end
end Go.Proofs.YtahlaccdpmddbaaGreat.Vm
