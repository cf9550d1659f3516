/- Contracts. No condition. -/
import Derived.Test.YtahlaccdpmddbaaGreatVmCFnSaidP0
import Derived.Test.YtahlaccdpmddbaaGreatVmLibThree
namespace Go.Proofs.YtahlaccdpmddbaaGreat.Vm
open Go Go.Proofs.YtahlaccdpmddbaaGreat.Lib
noncomputable section
set_option maxRecDepth 100000
set_option linter.unusedVariables false
def Ma (r : Int) : AV × Sig := (.one (.int .i64 r), [])
def N0 := (E0.p XK)
@[reducible] def r8 : List SP := .one (.dat (.sl 191 aM) true) :: .one (.fnc 172 []) :: U2 (oI :: U2 (oI :: oI :: U8 (U2 ([]))))
@[reducible] def hZ : Type := (List (Ty.T aM)) × Int × Int × Int × Unit
def jS (v : hZ) {Z : Type} (κ : Nat × hZ -> Option Z) : Option Z := cond (decide (v.2.2.2.1 < v.2.2.1)) (if 0 <= v.2.2.2.1 then (bc ((v.1)[(v.2.2.2.1).toNat]?) (fun x1 => cond (Lk x1) (κ (1, (v.1, v.2.2.2.1, v.2.2.1, v.2.2.2.1, ()))) (κ (0, (v.1, v.2.1, v.2.2.1, IntKind.wrap .i64 (v.2.2.2.1 + (1 : Int)), ()))))) else none) (κ (2, (v.1, v.2.1, v.2.2.1, v.2.2.2.1, ())))
def jB (v : hZ) : Option (Nat × hZ) := jS v some
def mg (v : hZ) : Nat := v.1.length + v.2.1.toNat + v.2.2.1.toNat + v.2.2.2.1.toNat + 100
def eZ (h0 : List (Ty.T aM)) (h1 : Int) (h2 : Int) (h3 : Int) (c : Nat) : Bool := iK jB mg (h0, h1, h2, h3, ()) c
def qp (h0 : List (Ty.T aM)) (h1 : Int) (h2 : Int) (h3 : Int) : hZ := iW jB mg (h0, h1, h2, h3, ())
def Eb (v : hZ) : aP (Ex × St) := bz jB (mg v) v (ax r8 au) [.ret, .exit 0] 0
theorem Np : bw Tryz.prog (aO (pb 3 5) (ae Tryz.f251)) r8 au Eb := aE (lt := .none) N0.ok aj (ag.no _) fun n v K => Eq.trans (b := jS v (dt _ _ _ _ _ K)) (by kernel_rfl) (show jS v _ = (jS v some).bind _ from (bC (bI (bO fun x1 => (bC rfl rfl))) rfl))
def Qf := N0.l (g := 251) (t := (cD (pb 3 5) (ae Tryz.f251) .none (.sum r8 au Eb))) (aZ Tryz.func251 (ag.put (az (by kernel_rfl)) (ag.no _) Np))
def OY (a0 : List (Ty.T aM)) : Option (AV × Sig) := cond (eZ a0 0 ((a0).length : Int) 0 0) (some (.one (.int .i64 (qp a0 0 ((a0).length : Int) 0).2.1), [])) (cond (eZ a0 0 ((a0).length : Int) 0 1) (some (.one (.int .i64 (-1)), [])) (none))
def yq (a0 : List (Ty.T aM)) : Int := cond (eZ a0 0 ((a0).length : Int) 0 0) ((qp a0 0 ((a0).length : Int) 0).2.1) (cond (eZ a0 0 ((a0).length : Int) 0 1) ((-1)) (0))
def sq (a0 : List (Ty.T aM)) : Bool := cond (eZ a0 0 ((a0).length : Int) 0 0) (true) (cond (eZ a0 0 ((a0).length : Int) 0 1) (true) (false))
theorem UO (a0 : List (Ty.T aM)) : OY a0 = cond (sq a0) (some (Ma (yq a0))) none := (pC (pS _) (pC (pS _) (pN _)))
def Tk : Prim := ⟨[.one (.dat (.sl 191 aM) true), .one (.fnc 172 [])], fun v => .br (sq v.1) (.done (Ma (yq v.1))) .no⟩
theorem QK : PO 251 Tk := pK Qf fun v => Eq.trans (b := OY v.1) (by kernel_rfl) (UO v.1)
def ME (r : Bool) : AV × Sig := (.one (.bool r), [])
def Sr := (E0.p QK)
def Pb (a0 : List (Ty.T aM)) : Option (AV × Sig) := cond (sq a0) (some (.one (.bool (decide ((yq a0) ≥ (0 : Int)))), [])) (none)
def xh (a0 : List (Ty.T aM)) : Bool := cond (sq a0) (decide ((yq a0) ≥ (0 : Int))) (false)
def wa (a0 : List (Ty.T aM)) : Bool := cond (sq a0) (true) (false)
theorem SW (a0 : List (Ty.T aM)) : Pb a0 = cond (wa a0) (some (ME (xh a0))) none := (pC (pS _) (pN _))
def TQ : Prim := ⟨[.one (.dat (.sl 191 aM) true), .one (.fnc 172 [])], fun v => .br (wa v.1) (.done (ME (xh v.1))) .no⟩
theorem QJ : PO 171 TQ := pK Sr fun v => Eq.trans (b := Pb v.1) (by kernel_rfl) (SW v.1)
def f56 (r : Bool) : AV × Sig := (.one (.bool r), [])
def E56 := (((((E0.p QJ).p iV).p MW).p R0).p Wl)
@[reducible] def Hn : List SP := .und :: .one (.ptr 1 0) :: .one (.dat .bool true) :: U16 (U8 (U2 (.und :: .one (.dat (.sl 64 y63) true) :: oI :: oI :: U32 (U16 (.und :: [])))))
@[reducible] def ln : List (Nat × GP) := [(1, .box 37 [.dat y36 true])]
@[reducible] def xQ : Type := Bool × (List (Ty.T y63)) × Int × Int × (Ty.T y36) × Unit
def tt (v : xQ) {Z : Type} (κ : Nat × xQ -> Option Z) : Option Z := cond (decide (v.2.2.2.1 < v.2.2.1)) (if 0 <= v.2.2.2.1 then (bc ((v.2.1)[(v.2.2.2.1).toNat]?) (fun x1 => cond (!(MU x1)) (κ (1, (false, v.2.1, v.2.2.1, v.2.2.2.1, v.2.2.2.2.1, ()))) (cond (!(nZ v.2.2.2.2.1 x1.2.1)) (κ (1, (false, v.2.1, v.2.2.1, v.2.2.2.1, v.2.2.2.2.1, ()))) (cond (!(nZ v.2.2.2.2.1 x1.2.2.1)) (κ (1, (false, v.2.1, v.2.2.1, v.2.2.2.1, v.2.2.2.2.1, ()))) (cond (decide (x1.2.2.2.2.1 > v.2.2.2.2.1.2.2.2)) (κ (1, (false, v.2.1, v.2.2.1, v.2.2.2.1, v.2.2.2.2.1, ()))) (cond (decide (v.2.2.2.1 > (0 : Int))) (if 0 <= (IntKind.wrap .i64 (v.2.2.2.1 - (1 : Int))) then (bc ((v.2.2.2.2.1.1)[(IntKind.wrap .i64 (v.2.2.2.1 - (1 : Int))).toNat]?) (fun x2 => cond (decide (x2.1 ≥ x1.1)) (κ (1, (false, v.2.1, v.2.2.1, v.2.2.2.1, v.2.2.2.2.1, ()))) (κ (0, (v.1, v.2.1, v.2.2.1, IntKind.wrap .i64 (v.2.2.2.1 + (1 : Int)), v.2.2.2.2.1, ()))))) else none) (κ (0, (v.1, v.2.1, v.2.2.1, IntKind.wrap .i64 (v.2.2.2.1 + (1 : Int)), v.2.2.2.2.1, ()))))))))) else none) (κ (2, (v.1, v.2.1, v.2.2.1, v.2.2.2.1, v.2.2.2.2.1, ())))
def n8 (v : xQ) : Option (Nat × xQ) := tt v some
def Ai (v : xQ) : Nat := v.2.1.length + v.2.2.1.toNat + v.2.2.2.1.toNat + v.2.2.2.2.1.1.length + v.2.2.2.2.1.2.1.length + 100
def Eu (h0 : Bool) (h1 : List (Ty.T y63)) (h2 : Int) (h3 : Int) (h4 : Ty.T y36) (c : Nat) : Bool := iK n8 Ai (h0, h1, h2, h3, h4, ()) c
def FK (h0 : Bool) (h1 : List (Ty.T y63)) (h2 : Int) (h3 : Int) (h4 : Ty.T y36) : xQ := iW n8 Ai (h0, h1, h2, h3, h4, ())
def RP (v : xQ) : aP (Ex × St) := bz n8 (Ai v) v (ax Hn ln) [.ret, .exit 0] 0
theorem V5 : bw Tryz.prog (aO (pb 4 11) (ae Tryz.f56)) Hn ln RP := aE (lt := .none) E56.ok aj (ag.no _) fun n v K => Eq.trans (b := tt v (dt _ _ _ _ _ K)) (by kernel_rfl) (show tt v _ = (tt v some).bind _ from (bC (bI (bO fun x1 => (bC rfl (bC rfl (bC rfl (bC rfl (bC (bI (bO fun x2 => (bC rfl rfl))) rfl))))))) rfl))
def aae := E56.l (g := 56) (t := (cD (pb 4 11) (ae Tryz.f56) .none (.sum Hn ln RP))) (aZ Tryz.func56 (ag.put (az (by kernel_rfl)) (ag.no _) V5))
def t56 (a0 : Ty.T y36) {Z : Type} (κ : Bool -> Option Z) : Option Z := cond (decide (((a0.1).length : Int) > (8 : Int))) (κ false) (cond (!(cu ((a0.2.1).length : Int) 2 3)) (κ false) (cond (!(nZ a0 a0.2.2.1)) (κ false) (cond (!(Kj a0.2.2.2)) (κ false) (cond (Eu false a0.1 ((a0.1).length : Int) 0 a0 0) (κ (FK false a0.1 ((a0.1).length : Int) 0 a0).1) (cond (Eu false a0.1 ((a0.1).length : Int) 0 a0 1) (cond (wa (FK false a0.1 ((a0.1).length : Int) 0 a0).2.2.2.2.1.2.1) (κ (!(xh (FK false a0.1 ((a0.1).length : Int) 0 a0).2.2.2.2.1.2.1))) (none)) (none))))))
def v56 (a0 : Ty.T y36) : Bool := (t56 a0 some).getD false
def d56 (a0 : Ty.T y36) : Bool := (t56 a0 some).isSome
def p56 : Prim := ⟨[.agg [.dat y36 true]], fun v => .br (d56 v.1) (.done (f56 (v56 v.1))) .no⟩
theorem agn : PO 56 p56 := pK aae fun v => Eq.trans (b := (t56 v.1 (sm f56))) (by kernel_rfl) (al (show t56 v.1 (sm f56) = (t56 v.1 some).bind _ from by unfold t56; simp only [bb]))
def f239 (r : Bool) : AV × Sig := (.one (.bool r), [])
def aau := E0
def Xs (a0 : Int) (a1 : Int) (a2 : Int) : Option (AV × Sig) := cond (decide (a0 ≥ a1)) (some (.one (.bool (decide (a0 <= a2))), [])) (some (.one (.bool false), []))
def bt (a0 : Int) (a1 : Int) (a2 : Int) : Bool := cond (decide (a0 ≥ a1)) (decide (a0 <= a2)) (false)
theorem aes (a0 : Int) (a1 : Int) (a2 : Int) : Xs a0 a1 a2 = some (f239 (bt a0 a1 a2)) := (tC rfl rfl)
def acI : Prim := ⟨[oI, oI, oI], fun v => .done (f239 (bt v.1 v.2.1 v.2.2.1))⟩
theorem lr : PO 239 acI := pK aau fun v => Eq.trans (b := Xs v.1 v.2.1 v.2.2.1) (by kernel_rfl) (aes v.1 v.2.1 v.2.2.1)
def f271 (r : Bool) : AV × Sig := (.one (.bool r), [])
def afF := (E0.p lr)
def t271 (a0 : Ty.T bo) (a1 : Int) {Z : Type} (κ : Bool -> Z) : Z := cond (!(bt a1 1 6)) (κ false) (cond (a0.1 == (2 : Int)) (cond (a0.1 == (2 : Int)) (κ (a1 == (1 : Int))) (cond (a0.1 == (3 : Int)) (cond (a0.1 == (3 : Int)) (κ (a1 != (2 : Int))) (cond (a0.1 == (7 : Int)) (cond (a0.1 == (7 : Int)) (κ (a1 == (2 : Int))) (cond (a0.1 == (1 : Int)) (κ true) (κ (a0.1 == (9 : Int))))) (cond (a0.1 == (8 : Int)) (κ (a1 == (2 : Int))) (cond (a0.1 == (1 : Int)) (κ true) (κ (a0.1 == (9 : Int))))))) (cond (a0.1 == (4 : Int)) (cond (a0.1 == (4 : Int)) (κ (a1 != (2 : Int))) (cond (a0.1 == (7 : Int)) (cond (a0.1 == (7 : Int)) (κ (a1 == (2 : Int))) (cond (a0.1 == (1 : Int)) (κ true) (κ (a0.1 == (9 : Int))))) (cond (a0.1 == (8 : Int)) (κ (a1 == (2 : Int))) (cond (a0.1 == (1 : Int)) (κ true) (κ (a0.1 == (9 : Int))))))) (cond (a0.1 == (5 : Int)) (κ (a1 != (2 : Int))) (cond (a0.1 == (7 : Int)) (cond (a0.1 == (7 : Int)) (κ (a1 == (2 : Int))) (cond (a0.1 == (1 : Int)) (κ true) (κ (a0.1 == (9 : Int))))) (cond (a0.1 == (8 : Int)) (κ (a1 == (2 : Int))) (cond (a0.1 == (1 : Int)) (κ true) (κ (a0.1 == (9 : Int)))))))))) (cond (a0.1 == (6 : Int)) (κ (a1 == (1 : Int))) (cond (a0.1 == (3 : Int)) (cond (a0.1 == (3 : Int)) (κ (a1 != (2 : Int))) (cond (a0.1 == (7 : Int)) (cond (a0.1 == (7 : Int)) (κ (a1 == (2 : Int))) (cond (a0.1 == (1 : Int)) (κ true) (κ (a0.1 == (9 : Int))))) (cond (a0.1 == (8 : Int)) (κ (a1 == (2 : Int))) (cond (a0.1 == (1 : Int)) (κ true) (κ (a0.1 == (9 : Int))))))) (cond (a0.1 == (4 : Int)) (cond (a0.1 == (4 : Int)) (κ (a1 != (2 : Int))) (cond (a0.1 == (7 : Int)) (cond (a0.1 == (7 : Int)) (κ (a1 == (2 : Int))) (cond (a0.1 == (1 : Int)) (κ true) (κ (a0.1 == (9 : Int))))) (cond (a0.1 == (8 : Int)) (κ (a1 == (2 : Int))) (cond (a0.1 == (1 : Int)) (κ true) (κ (a0.1 == (9 : Int))))))) (cond (a0.1 == (5 : Int)) (κ (a1 != (2 : Int))) (cond (a0.1 == (7 : Int)) (cond (a0.1 == (7 : Int)) (κ (a1 == (2 : Int))) (cond (a0.1 == (1 : Int)) (κ true) (κ (a0.1 == (9 : Int))))) (cond (a0.1 == (8 : Int)) (κ (a1 == (2 : Int))) (cond (a0.1 == (1 : Int)) (κ true) (κ (a0.1 == (9 : Int)))))))))))
def lF (a0 : Ty.T bo) (a1 : Int) : Bool := t271 a0 a1 fun r => r
def aaz : Prim := ⟨[.agg [.dat bo true], oI], fun v => .done (f271 (lF v.1 v.2.1))⟩
theorem PU : PO 271 aaz := pK afF fun v => Eq.trans (b := (t271 v.1 v.2.1 (sm f271))) (by kernel_rfl) (show t271 v.1 v.2.1 (sm f271) = some (f271 (t271 v.1 v.2.1 fun r => r)) from (tC rfl (tC (tC rfl (tC (tC rfl (tC (tC rfl (tC rfl rfl)) (tC rfl (tC rfl rfl)))) (tC (tC rfl (tC (tC rfl (tC rfl rfl)) (tC rfl (tC rfl rfl)))) (tC rfl (tC (tC rfl (tC rfl rfl)) (tC rfl (tC rfl rfl))))))) (tC rfl (tC (tC rfl (tC (tC rfl (tC rfl rfl)) (tC rfl (tC rfl rfl)))) (tC (tC rfl (tC (tC rfl (tC rfl rfl)) (tC rfl (tC rfl rfl)))) (tC rfl (tC (tC rfl (tC rfl rfl)) (tC rfl (tC rfl rfl))))))))))
def f297 (r : Bool) : AV × Sig := (.one (.bool r), [])
def afH := (E0.p lr)
def t297 (a0 : Ty.T bS) {Z : Type} (κ : Bool -> Z) : Z := cond (!(bt a0.1 1 6)) (κ false) (cond (!(bt a0.2.1 0 2)) (κ false) (cond (!(bt a0.2.2.2.2.1 0 99)) (κ false) (cond (!(bt a0.2.2.2.2.2.1 0 2147483647)) (κ false) (cond (!(bt a0.2.2.1 0 99)) (κ false) (cond (!(bt a0.2.2.2.1 0 63)) (κ false) (cond (!(bt a0.2.2.2.2.2.2 0 4)) (κ false) (cond (a0.1 != (1 : Int)) (cond (a0.2.2.1 != (0 : Int)) (κ false) (cond (a0.2.2.2.1 != (0 : Int)) (κ false) (cond (a0.1 != (2 : Int)) (cond (a0.2.2.2.2.2.2 != (0 : Int)) (κ false) (cond (a0.1 != (3 : Int)) (cond (a0.1 != (4 : Int)) (κ true) (κ (a0.2.2.2.2.1 == (0 : Int)))) (κ (a0.2.2.2.2.1 == (0 : Int))))) (cond (a0.1 != (3 : Int)) (cond (a0.1 != (4 : Int)) (κ true) (κ (a0.2.2.2.2.1 == (0 : Int)))) (κ (a0.2.2.2.2.1 == (0 : Int))))))) (cond (a0.1 != (2 : Int)) (cond (a0.2.2.2.2.2.2 != (0 : Int)) (κ false) (cond (a0.1 != (3 : Int)) (cond (a0.1 != (4 : Int)) (κ true) (κ (a0.2.2.2.2.1 == (0 : Int)))) (κ (a0.2.2.2.2.1 == (0 : Int))))) (cond (a0.1 != (3 : Int)) (cond (a0.1 != (4 : Int)) (κ true) (κ (a0.2.2.2.2.1 == (0 : Int)))) (κ (a0.2.2.2.2.1 == (0 : Int))))))))))))
def tU (a0 : Ty.T bS) : Bool := t297 a0 fun r => r
def ad8 : Prim := ⟨[.agg [.dat bS true]], fun v => .done (f297 (tU v.1))⟩
theorem RW : PO 297 ad8 := pK afH fun v => Eq.trans (b := (t297 v.1 (sm f297))) (by kernel_rfl) (show t297 v.1 (sm f297) = some (f297 (t297 v.1 fun r => r)) from (tC rfl (tC rfl (tC rfl (tC rfl (tC rfl (tC rfl (tC rfl (tC (tC rfl (tC rfl (tC (tC rfl (tC (tC rfl rfl) rfl)) (tC (tC rfl rfl) rfl)))) (tC (tC rfl (tC (tC rfl rfl) rfl)) (tC (tC rfl rfl) rfl)))))))))))
def f298 (r : Bool) : AV × Sig := (.one (.bool r), [])
def aeI := (E0.p lr)
def t298 (a0 : Ty.T aB) {Z : Type} (κ : Bool -> Z) : Z := cond (a0.1 == (0 : Int)) (cond (a0.1 == (0 : Int)) (κ (a0.2 == (0 : Int))) (cond (a0.1 == (1 : Int)) (κ (bt a0.2 (-2147483647) 2147483647)) (cond (a0.1 == (2 : Int)) (κ (bt a0.2 0 8)) (cond (a0.1 == (4 : Int)) (κ (bt a0.2 0 8)) (κ false))))) (cond (a0.1 == (3 : Int)) (κ (a0.2 == (0 : Int))) (cond (a0.1 == (1 : Int)) (κ (bt a0.2 (-2147483647) 2147483647)) (cond (a0.1 == (2 : Int)) (κ (bt a0.2 0 8)) (cond (a0.1 == (4 : Int)) (κ (bt a0.2 0 8)) (κ false)))))
def we (a0 : Ty.T aB) : Bool := t298 a0 fun r => r
def ae8 : Prim := ⟨[.agg [.dat aB true]], fun v => .done (f298 (we v.1))⟩
theorem RN : PO 298 ae8 := pK aeI fun v => Eq.trans (b := (t298 v.1 (sm f298))) (by kernel_rfl) (show t298 v.1 (sm f298) = some (f298 (t298 v.1 fun r => r)) from (tC (tC rfl (tC rfl (tC rfl (tC rfl rfl)))) (tC rfl (tC rfl (tC rfl (tC rfl rfl))))))
def f327 (r : Bool) : AV × Sig := (.one (.bool r), [])
def acB := E0
def Y7 (a0 : Ty.T bo) : Option (AV × Sig) := cond (a0.2.2.1 == (0 : Int)) (cond (a0.2.2.2.1 == (-1 : Int)) (cond (a0.2.2.2.2.1 == (0 : Int)) (cond (!a0.2.2.2.2.2.1) (some (.one (.bool (((a0.2.2.2.2.2.2).length : Int) == (0 : Int))), [])) (some (.one (.bool false), []))) (some (.one (.bool false), []))) (some (.one (.bool false), []))) (some (.one (.bool false), []))
def K2 (a0 : Ty.T bo) : Bool := cond (a0.2.2.1 == (0 : Int)) (cond (a0.2.2.2.1 == (-1 : Int)) (cond (a0.2.2.2.2.1 == (0 : Int)) (cond (!a0.2.2.2.2.2.1) ((((a0.2.2.2.2.2.2).length : Int) == (0 : Int))) (false)) (false)) (false)) (false)
theorem aea (a0 : Ty.T bo) : Y7 a0 = some (f327 (K2 a0)) := (tC (tC (tC (tC rfl rfl) rfl) rfl) rfl)
def aco : Prim := ⟨[.agg [.dat bo true]], fun v => .done (f327 (K2 v.1))⟩
theorem YC : PO 327 aco := pK acB fun v => Eq.trans (b := Y7 v.1) (by kernel_rfl) (aea v.1)
def f157 (r : Bool) : AV × Sig := (.one (.bool r), [])
def acL := (E0.p lr)
def t157 (a0 : Ty.T y27) {Z : Type} (κ : Bool -> Z) : Z := cond (bt a0.2.2.1 1 99) (cond (a0.2.2.1 == (0 : Int)) (cond (!(bt a0.2.2.2.2.1 0 2147483647)) (κ false) (cond (a0.1 == (1 : Int)) (cond (bt a0.2.1 1 99) (cond (a0.2.2.2.1 == (-1 : Int)) (cond (a0.2.2.2.2.2.1 == (0 : Int)) (κ (!a0.2.2.2.2.2.2)) (κ false)) (cond (bt a0.2.2.2.1 0 2) (cond (a0.2.2.2.2.2.1 == (0 : Int)) (κ (!a0.2.2.2.2.2.2)) (κ false)) (κ false))) (κ false)) (cond (a0.1 == (2 : Int)) (cond (a0.2.1 == (0 : Int)) (cond (a0.2.2.2.1 == (-1 : Int)) (cond (bt a0.2.2.2.2.2.1 1 4) (cond (decide (a0.2.2.2.2.1 <= (99 : Int))) (cond (a0.2.2.2.2.2.1 == (2 : Int)) (κ true) (cond (a0.2.2.2.2.1 == (0 : Int)) (κ (!a0.2.2.2.2.2.2)) (κ false))) (κ false)) (κ false)) (κ false)) (κ false)) (cond (a0.1 == (3 : Int)) (cond (a0.1 == (3 : Int)) (cond (a0.2.1 == (0 : Int)) (cond (bt a0.2.2.2.1 0 2) (cond (a0.2.2.2.2.2.1 == (0 : Int)) (κ (!a0.2.2.2.2.2.2)) (κ false)) (κ false)) (κ false)) (cond (a0.1 == (5 : Int)) (cond (a0.1 == (5 : Int)) (cond (a0.2.1 == (0 : Int)) (cond (a0.2.2.2.1 == (-1 : Int)) (cond (a0.2.2.2.2.2.1 == (0 : Int)) (κ (!a0.2.2.2.2.2.2)) (κ false)) (κ false)) (κ false)) (κ false)) (cond (a0.1 == (6 : Int)) (cond (a0.2.1 == (0 : Int)) (cond (a0.2.2.2.1 == (-1 : Int)) (cond (a0.2.2.2.2.2.1 == (0 : Int)) (κ (!a0.2.2.2.2.2.2)) (κ false)) (κ false)) (κ false)) (κ false)))) (cond (a0.1 == (4 : Int)) (cond (a0.2.1 == (0 : Int)) (cond (bt a0.2.2.2.1 0 2) (cond (a0.2.2.2.2.2.1 == (0 : Int)) (κ (!a0.2.2.2.2.2.2)) (κ false)) (κ false)) (κ false)) (cond (a0.1 == (5 : Int)) (cond (a0.1 == (5 : Int)) (cond (a0.2.1 == (0 : Int)) (cond (a0.2.2.2.1 == (-1 : Int)) (cond (a0.2.2.2.2.2.1 == (0 : Int)) (κ (!a0.2.2.2.2.2.2)) (κ false)) (κ false)) (κ false)) (κ false)) (cond (a0.1 == (6 : Int)) (cond (a0.2.1 == (0 : Int)) (cond (a0.2.2.2.1 == (-1 : Int)) (cond (a0.2.2.2.2.2.1 == (0 : Int)) (κ (!a0.2.2.2.2.2.2)) (κ false)) (κ false)) (κ false)) (κ false)))))))) (cond (!(bt a0.2.2.2.2.1 0 2147483647)) (κ false) (cond (a0.1 == (1 : Int)) (cond (bt a0.2.1 1 99) (cond (a0.2.2.2.1 == (-1 : Int)) (cond (a0.2.2.2.2.2.1 == (0 : Int)) (κ (!a0.2.2.2.2.2.2)) (κ false)) (κ false)) (κ false)) (cond (a0.1 == (2 : Int)) (cond (a0.2.1 == (0 : Int)) (cond (a0.2.2.2.1 == (-1 : Int)) (cond (bt a0.2.2.2.2.2.1 1 4) (cond (decide (a0.2.2.2.2.1 <= (99 : Int))) (cond (a0.2.2.2.2.2.1 == (2 : Int)) (κ true) (cond (a0.2.2.2.2.1 == (0 : Int)) (κ (!a0.2.2.2.2.2.2)) (κ false))) (κ false)) (κ false)) (κ false)) (κ false)) (cond (a0.1 == (3 : Int)) (cond (a0.1 == (3 : Int)) (cond (a0.2.1 == (0 : Int)) (κ false) (κ false)) (cond (a0.1 == (5 : Int)) (cond (a0.1 == (5 : Int)) (cond (a0.2.1 == (0 : Int)) (cond (a0.2.2.2.1 == (-1 : Int)) (cond (a0.2.2.2.2.2.1 == (0 : Int)) (κ (!a0.2.2.2.2.2.2)) (κ false)) (κ false)) (κ false)) (κ false)) (cond (a0.1 == (6 : Int)) (cond (a0.2.1 == (0 : Int)) (cond (a0.2.2.2.1 == (-1 : Int)) (cond (a0.2.2.2.2.2.1 == (0 : Int)) (κ (!a0.2.2.2.2.2.2)) (κ false)) (κ false)) (κ false)) (κ false)))) (cond (a0.1 == (4 : Int)) (cond (a0.2.1 == (0 : Int)) (κ false) (κ false)) (cond (a0.1 == (5 : Int)) (cond (a0.1 == (5 : Int)) (cond (a0.2.1 == (0 : Int)) (cond (a0.2.2.2.1 == (-1 : Int)) (cond (a0.2.2.2.2.2.1 == (0 : Int)) (κ (!a0.2.2.2.2.2.2)) (κ false)) (κ false)) (κ false)) (κ false)) (cond (a0.1 == (6 : Int)) (cond (a0.2.1 == (0 : Int)) (cond (a0.2.2.2.1 == (-1 : Int)) (cond (a0.2.2.2.2.2.1 == (0 : Int)) (κ (!a0.2.2.2.2.2.2)) (κ false)) (κ false)) (κ false)) (κ false))))))))) (cond (a0.2.2.1 == (0 : Int)) (cond (!(bt a0.2.2.2.2.1 0 2147483647)) (κ false) (cond (a0.1 == (1 : Int)) (cond (bt a0.2.1 1 99) (cond (bt a0.2.2.2.1 0 2) (cond (a0.2.2.2.2.2.1 == (0 : Int)) (κ (!a0.2.2.2.2.2.2)) (κ false)) (κ false)) (κ false)) (cond (a0.1 == (2 : Int)) (cond (a0.2.1 == (0 : Int)) (κ false) (κ false)) (cond (a0.1 == (3 : Int)) (cond (a0.1 == (3 : Int)) (cond (a0.2.1 == (0 : Int)) (cond (bt a0.2.2.2.1 0 2) (cond (a0.2.2.2.2.2.1 == (0 : Int)) (κ (!a0.2.2.2.2.2.2)) (κ false)) (κ false)) (κ false)) (cond (a0.1 == (5 : Int)) (cond (a0.1 == (5 : Int)) (cond (a0.2.1 == (0 : Int)) (κ false) (κ false)) (κ false)) (cond (a0.1 == (6 : Int)) (cond (a0.2.1 == (0 : Int)) (κ false) (κ false)) (κ false)))) (cond (a0.1 == (4 : Int)) (cond (a0.2.1 == (0 : Int)) (cond (bt a0.2.2.2.1 0 2) (cond (a0.2.2.2.2.2.1 == (0 : Int)) (κ (!a0.2.2.2.2.2.2)) (κ false)) (κ false)) (κ false)) (cond (a0.1 == (5 : Int)) (cond (a0.1 == (5 : Int)) (cond (a0.2.1 == (0 : Int)) (κ false) (κ false)) (κ false)) (cond (a0.1 == (6 : Int)) (cond (a0.2.1 == (0 : Int)) (κ false) (κ false)) (κ false)))))))) (cond (!(bt a0.2.2.2.2.1 0 2147483647)) (κ false) (cond (a0.1 == (1 : Int)) (cond (bt a0.2.1 1 99) (κ false) (κ false)) (cond (a0.1 == (2 : Int)) (cond (a0.2.1 == (0 : Int)) (κ false) (κ false)) (cond (a0.1 == (3 : Int)) (cond (a0.1 == (3 : Int)) (cond (a0.2.1 == (0 : Int)) (κ false) (κ false)) (cond (a0.1 == (5 : Int)) (cond (a0.1 == (5 : Int)) (cond (a0.2.1 == (0 : Int)) (κ false) (κ false)) (κ false)) (cond (a0.1 == (6 : Int)) (cond (a0.2.1 == (0 : Int)) (κ false) (κ false)) (κ false)))) (cond (a0.1 == (4 : Int)) (cond (a0.2.1 == (0 : Int)) (κ false) (κ false)) (cond (a0.1 == (5 : Int)) (cond (a0.1 == (5 : Int)) (cond (a0.2.1 == (0 : Int)) (κ false) (κ false)) (κ false)) (cond (a0.1 == (6 : Int)) (cond (a0.2.1 == (0 : Int)) (κ false) (κ false)) (κ false)))))))))
def c8 (a0 : Ty.T y27) : Bool := t157 a0 fun r => r
def adm : Prim := ⟨[.agg [.dat y27 true]], fun v => .done (f157 (c8 v.1))⟩
theorem wU : PO 157 adm := pK acL fun v => Eq.trans (b := (t157 v.1 (sm f157))) (by kernel_rfl) (show t157 v.1 (sm f157) = some (f157 (t157 v.1 fun r => r)) from (tC (tC (tC rfl (tC (tC (tC (tC rfl rfl) (tC (tC rfl rfl) rfl)) rfl) (tC (tC (tC (tC (tC (tC rfl (tC rfl rfl)) rfl) rfl) rfl) rfl) (tC (tC (tC (tC (tC rfl rfl) rfl) rfl) (tC (tC (tC (tC (tC rfl rfl) rfl) rfl) rfl) (tC (tC (tC (tC rfl rfl) rfl) rfl) rfl))) (tC (tC (tC (tC rfl rfl) rfl) rfl) (tC (tC (tC (tC (tC rfl rfl) rfl) rfl) rfl) (tC (tC (tC (tC rfl rfl) rfl) rfl) rfl))))))) (tC rfl (tC (tC (tC (tC rfl rfl) rfl) rfl) (tC (tC (tC (tC (tC (tC rfl (tC rfl rfl)) rfl) rfl) rfl) rfl) (tC (tC (tC rfl rfl) (tC (tC (tC (tC (tC rfl rfl) rfl) rfl) rfl) (tC (tC (tC (tC rfl rfl) rfl) rfl) rfl))) (tC (tC rfl rfl) (tC (tC (tC (tC (tC rfl rfl) rfl) rfl) rfl) (tC (tC (tC (tC rfl rfl) rfl) rfl) rfl)))))))) (tC (tC rfl (tC (tC (tC (tC rfl rfl) rfl) rfl) (tC (tC rfl rfl) (tC (tC (tC (tC (tC rfl rfl) rfl) rfl) (tC (tC (tC rfl rfl) rfl) (tC (tC rfl rfl) rfl))) (tC (tC (tC (tC rfl rfl) rfl) rfl) (tC (tC (tC rfl rfl) rfl) (tC (tC rfl rfl) rfl))))))) (tC rfl (tC (tC rfl rfl) (tC (tC rfl rfl) (tC (tC (tC rfl rfl) (tC (tC (tC rfl rfl) rfl) (tC (tC rfl rfl) rfl))) (tC (tC rfl rfl) (tC (tC (tC rfl rfl) rfl) (tC (tC rfl rfl) rfl))))))))))
def f328 (r : Bool) : AV × Sig := (.one (.bool r), [])
def ab3 := (E0.p wU)
def XQ (a0 : Ty.T y27) : Option (AV × Sig) := cond (a0.2.2.2.2.1 == (-1 : Int)) (cond (a0.1 != (2 : Int)) (some (.one (.bool (c8 (a0.1, a0.2.1, a0.2.2.1, a0.2.2.2.1, 0, a0.2.2.2.2.2))), [])) (some (.one (.bool (c8 a0)), []))) (some (.one (.bool (c8 a0)), []))
def lA (a0 : Ty.T y27) : Bool := cond (a0.2.2.2.2.1 == (-1 : Int)) (cond (a0.1 != (2 : Int)) ((c8 (a0.1, a0.2.1, a0.2.2.1, a0.2.2.2.1, 0, a0.2.2.2.2.2))) ((c8 a0))) ((c8 a0))
theorem aee (a0 : Ty.T y27) : XQ a0 = some (f328 (lA a0)) := (tC (tC rfl rfl) rfl)
def aak : Prim := ⟨[.agg [.dat y27 true]], fun v => .done (f328 (lA v.1))⟩
theorem VG : PO 328 aak := pK ab3 fun v => Eq.trans (b := XQ v.1) (by kernel_rfl) (aee v.1)
def f299 (r : Bool) : AV × Sig := (.one (.bool r), [])
def CQ := (((E0.p lr).p YC).p VG)
@[reducible] def uN : List SP := .und :: .one (.ptr 1 0) :: .one (.dat .bool true) :: U2 (oI :: .one (.dat .bool true) :: U64 (U64 (U32 (U2 (.und :: [])))))
def A6 (v : lQ) (r : Bool) : Ex × St := (.normal, ax uN bR (v.1, v.2.1, r, v.2.2.2.1, ()))
def rh (v : lQ) {Z : Type} (κ : Bool -> Z) : Z := cond v.2.2.1 (κ v.2.2.1) (cond (v.2.1 == (2 : Int)) (κ (v.2.1 == (2 : Int))) (cond (v.2.1 == (4 : Int)) (κ (v.2.1 == (4 : Int))) (κ (v.2.1 == (5 : Int)))))
def AK (v : lQ) : Bool := rh v id
def Mt (v : lQ) : aP (Ex × St) := .done (A6 v (AK v))
theorem U9 : aK Tryz.prog (aw (pb 5 21) (ae Tryz.f299)) uN bR Mt := aA (lt := .none) (sx := uN) (gx := bR) CQ.ok aj (ag.no _) fun v => Eq.trans (b := rh v (sm (A6 v))) (by kernel_rfl) (show rh v (sm (A6 v)) = some (A6 v (rh v id)) from (tC rfl (tC rfl (tC rfl rfl))))
@[reducible] def er : List SP := .und :: .one (.ptr 1 0) :: .one (.dat .bool true) :: U64 (U64 (U32 (U4 (U2 (.und :: [])))))
@[reducible] def ev : List SP := U2 (.one (.dat .bool true) :: U64 (U64 (U32 (U4 (U2 (.und :: []))))))
def A0 (v : bT) (r : Bool) : Ex × St := (.normal, ax ev au (r, ()))
def rP (v : bT) {Z : Type} (κ : Bool -> Z) : Z := cond (K2 v.2.1) (κ (v.2.1.2.1 == (0 : Int))) (κ false)
def C0 (v : bT) : Bool := rP v id
def Pp (v : bT) : aP (Ex × St) := .done (A0 v (C0 v))
theorem Vh : aK Tryz.prog (aw (pb 6 13) (ae Tryz.f299)) er bR Pp := aA (lt := .none) (sx := ev) (gx := au) CQ.ok aj (ag.no _) fun v => Eq.trans (b := rP v (sm (A0 v))) (by kernel_rfl) (show rP v (sm (A0 v)) = some (A0 v (rP v id)) from (tC rfl rfl))
def C7 (v : bT) (r : Bool) : Ex × St := (.normal, ax ev au (r, ()))
def rT (v : bT) {Z : Type} (κ : Bool -> Z) : Z := cond (K2 v.2.1) (κ (bt v.2.1.2.1 1 2147483647)) (κ false)
def CV (v : bT) : Bool := rT v id
def OC (v : bT) : aP (Ex × St) := .done (C7 v (CV v))
theorem Ud : aK Tryz.prog (aw (pb 8 61) (ae Tryz.f299)) er bR OC := aA (lt := .none) (sx := ev) (gx := au) CQ.ok aj (ag.no _) fun v => Eq.trans (b := rT v (sm (C7 v))) (by kernel_rfl) (show rT v (sm (C7 v)) = some (C7 v (rT v id)) from (tC rfl rfl))
def Br (v : bT) (r : Bool) : Ex × St := (.normal, ax ev au (r, ()))
def te (v : bT) {Z : Type} (κ : Bool -> Z) : Z := cond (v.2.1.2.1 == (0 : Int)) (cond (v.2.1.2.2.2.2.1 == (0 : Int)) (cond (!v.2.1.2.2.2.2.2.1) (cond (((v.2.1.2.2.2.2.2.2).length : Int) == (0 : Int)) (cond (bt v.2.1.2.2.1 1 99) (cond (v.2.1.2.2.2.1 == (-1 : Int)) (κ true) (cond (v.2.1.2.2.1 == (0 : Int)) (κ (bt v.2.1.2.2.2.1 0 2)) (κ false))) (cond (v.2.1.2.2.1 == (0 : Int)) (κ (bt v.2.1.2.2.2.1 0 2)) (κ false))) (κ false)) (κ false)) (κ false)) (κ false)
def Cn (v : bT) : Bool := te v id
def M8 (v : bT) : aP (Ex × St) := .done (Br v (Cn v))
theorem SY : aK Tryz.prog (aw (pb 10 253) (ae Tryz.f299)) er bR M8 := aA (lt := .none) (sx := ev) (gx := au) CQ.ok aj (ag.no _) fun v => Eq.trans (b := te v (sm (Br v))) (by kernel_rfl) (show te v (sm (Br v)) = some (Br v (te v id)) from (tC (tC (tC (tC (tC (tC rfl (tC rfl rfl)) (tC rfl rfl)) rfl) rfl) rfl) rfl))
def Bj (v : bT) (r : Bool) : Ex × St := (.normal, ax ev au (r, ()))
def rM (v : bT) {Z : Type} (κ : Bool -> Z) : Z := cond (v.2.1.2.1 == (0 : Int)) (cond (v.2.1.2.2.1 == (0 : Int)) (cond (v.2.1.2.2.2.1 == (-1 : Int)) (cond (!v.2.1.2.2.2.2.2.1) (cond (((v.2.1.2.2.2.2.2.2).length : Int) == (0 : Int)) (κ (bt v.2.1.2.2.2.2.1 1 4)) (κ false)) (κ false)) (κ false)) (κ false)) (κ false)
def Dh (v : bT) : Bool := rM v id
def OX (v : bT) : aP (Ex × St) := .done (Bj v (Dh v))
theorem S7 : aK Tryz.prog (aw (pb 12 1021) (ae Tryz.f299)) er bR OX := aA (lt := .none) (sx := ev) (gx := au) CQ.ok aj (ag.no _) fun v => Eq.trans (b := rM v (sm (Bj v))) (by kernel_rfl) (show rM v (sm (Bj v)) = some (Bj v (rM v id)) from (tC (tC (tC (tC (tC rfl rfl) rfl) rfl) rfl) rfl))
def CJ (v : bT) (r : Bool) : Ex × St := (.normal, ax ev au (r, ()))
def rl (v : bT) {Z : Type} (κ : Bool -> Z) : Z := cond (bt v.2.1.2.1 0 99) (cond (v.2.1.2.2.1 == (0 : Int)) (cond (v.2.1.2.2.2.1 == (-1 : Int)) (cond (v.2.1.2.2.2.2.1 == (0 : Int)) (κ (((v.2.1.2.2.2.2.2.2).length : Int) == (0 : Int))) (κ false)) (κ false)) (κ false)) (κ false)
def B6 (v : bT) : Bool := rl v id
def Me (v : bT) : aP (Ex × St) := .done (CJ v (B6 v))
theorem Ue : aK Tryz.prog (aw (pb 14 4093) (ae Tryz.f299)) er bR Me := aA (lt := .none) (sx := ev) (gx := au) CQ.ok aj (ag.no _) fun v => Eq.trans (b := rl v (sm (CJ v))) (by kernel_rfl) (show rl v (sm (CJ v)) = some (CJ v (rl v id)) from (tC (tC (tC (tC rfl rfl) rfl) rfl) rfl))
@[reducible] def Be : List SP := .und :: .one (.ptr 1 0) :: .one (.dat .bool true) :: oI :: U64 (U64 (U32 (U4 (U2 ([])))))
@[reducible] def oC : Type := Bool × Int × (Ty.T bo) × Unit
def rr (v : oC) {Z : Type} (κ : Nat × oC -> Option Z) : Option Z := cond (decide (v.2.1 < ((v.2.2.1.2.2.2.2.2.2).length : Int))) (if 0 <= v.2.1 then (bc ((v.2.2.1.2.2.2.2.2.2)[(v.2.1).toNat]?) (fun x1 => cond (!(lA x1)) (κ (1, (false, v.2.1, v.2.2.1, ()))) (κ (0, (v.1, IntKind.wrap .i64 (v.2.1 + (1 : Int)), v.2.2.1, ()))))) else none) (κ (2, (v.1, v.2.1, v.2.2.1, ())))
def rC (v : oC) : Option (Nat × oC) := rr v some
def wB (v : oC) : Nat := v.2.1.toNat + v.2.2.1.2.2.2.2.2.2.length + 100
def w9 (h0 : Bool) (h1 : Int) (h2 : Ty.T bo) (c : Nat) : Bool := iK rC wB (h0, h1, h2, ()) c
def xl (h0 : Bool) (h1 : Int) (h2 : Ty.T bo) : oC := iW rC wB (h0, h1, h2, ())
def NM (v : oC) : aP (Ex × St) := bz rC (wB v) v (ax Be bR) [.ret, .exit 1] 0
theorem Ux : bw Tryz.prog (aO (pb 17 81917) (ae Tryz.f299)) Be bR NM := aE (lt := .none) CQ.ok aj (ag.no _) fun n v K => Eq.trans (b := rr v (dt _ _ _ _ _ K)) (by kernel_rfl) (show rr v _ = (rr v some).bind _ from (bC (bI (bO fun x1 => (bC rfl rfl))) rfl))
def AA (v : bT) (r : Bool) : Ex × St := (.normal, ax ev au (r, ()))
def sJ (v : bT) {Z : Type} (κ : Bool -> Z) : Z := cond (v.2.1.2.1 == (0 : Int)) (cond (v.2.1.2.2.1 == (0 : Int)) (cond (v.2.1.2.2.2.1 == (-1 : Int)) (cond (v.2.1.2.2.2.2.1 == (0 : Int)) (cond (!v.2.1.2.2.2.2.2.1) (κ (bt ((v.2.1.2.2.2.2.2.2).length : Int) 1 3)) (κ false)) (κ false)) (κ false)) (κ false)) (κ false)
def AD (v : bT) : Bool := sJ v id
def LM (v : bT) : aP (Ex × St) := .done (AA v (AD v))
theorem UP : aK Tryz.prog (aw (pb 17 49149) (ae Tryz.f299)) er bR LM := aA (lt := .none) (sx := ev) (gx := au) CQ.ok aj (ag.no _) fun v => Eq.trans (b := sJ v (sm (AA v))) (by kernel_rfl) (show sJ v (sm (AA v)) = some (AA v (sJ v id)) from (tC (tC (tC (tC (tC rfl rfl) rfl) rfl) rfl) rfl))
def Vz := CQ.l (g := 299) (t := (aD (pb 17 49149) (ae Tryz.f299) (aD (pb 17 81917) (ae Tryz.f299) (aD (pb 14 4093) (ae Tryz.f299) (aD (pb 12 1021) (ae Tryz.f299) (aD (pb 10 253) (ae Tryz.f299) (aD (pb 8 61) (ae Tryz.f299) (aD (pb 6 13) (ae Tryz.f299) (aD (pb 5 21) (ae Tryz.f299) .none (.sum uN bR Mt)) (.sum er bR Pp)) (.sum er bR OC)) (.sum er bR M8)) (.sum er bR OX)) (.sum er bR Me)) (.sum Be bR NM)) (.sum er bR LM))) (aZ Tryz.func299 (ag.bP (az (by kernel_rfl)) (ag.wL (by kernel_rfl) (az (by kernel_rfl)) (ag.bP (az (by kernel_rfl)) (ag.bP (az (by kernel_rfl)) (ag.bP (az (by kernel_rfl)) (ag.bP (az (by kernel_rfl)) (ag.bP (az (by kernel_rfl)) (ag.bP (az (by kernel_rfl)) (ag.no _) U9) Vh) Ud) SY) S7) Ue) Ux) UP))
def t299 (a0 : Ty.T bo) {Z : Type} (κ : Bool -> Option Z) : Option Z := cond (AK (false, a0.1, (a0.1 == (1 : Int)), a0, ())) (κ (C0 (false, a0, ()))) (cond (a0.1 == (3 : Int)) (κ (CV (false, a0, ()))) (cond (a0.1 == (6 : Int)) (κ (Cn (false, a0, ()))) (cond (a0.1 == (7 : Int)) (κ (Dh (false, a0, ()))) (cond (a0.1 == (8 : Int)) (κ (B6 (false, a0, ()))) (cond (a0.1 == (9 : Int)) (cond (w9 false 0 a0 0) (κ (xl false 0 a0).1) (cond (w9 false 0 a0 1) (κ (AD ((xl false 0 a0).1, (xl false 0 a0).2.2.1, ()))) (none))) (κ false))))))
def yy (a0 : Ty.T bo) : Bool := (t299 a0 some).getD false
def d299 (a0 : Ty.T bo) : Bool := (t299 a0 some).isSome
def abu : Prim := ⟨[.agg [.dat bo true]], fun v => .br (d299 v.1) (.done (f299 (yy v.1))) .no⟩
theorem X8 : PO 299 abu := pK Vz fun v => Eq.trans (b := (t299 v.1 (sm f299))) (by kernel_rfl) (al (show t299 v.1 (sm f299) = (t299 v.1 some).bind _ from by unfold t299; simp only [bb]))
def f242 (r : Bool) : AV × Sig := (.one (.bool r), [])
def afo := (((((E0.p lr).p PU).p RW).p RN).p X8)
def t242 (a0 : Ty.T aq) {Z : Type} (κ : Bool -> Option Z) : Option Z := cond (!(bt a0.1 1 99)) (κ false) (cond (!(bt a0.2.1 0 2)) (κ false) (cond (!(bt a0.2.2.1 0 99)) (κ false) (cond (!(bt a0.2.2.2.1 0 4)) (κ false) (cond (!(bt a0.2.2.2.2.2.2.2.1 (-1) 9999)) (κ false) (cond (!(bt a0.2.2.2.2.2.2.2.2 (-1) 2147483647)) (κ false) (cond (a0.2.2.2.1 == (0 : Int)) (cond (a0.2.2.1 == (0 : Int)) (κ false) (cond (a0.2.2.2.2.2.2.1.1 == (2 : Int)) (cond (decide (a0.2.2.2.2.2.2.2.2 < (0 : Int))) (κ false) (cond (tU a0.2.2.2.2.1) (cond (we a0.2.2.2.2.2.1) (cond (d299 a0.2.2.2.2.2.2.1) (cond (yy a0.2.2.2.2.2.2.1) (κ (lF a0.2.2.2.2.2.2.1 a0.2.2.2.2.1.1)) (κ false)) (none)) (κ false)) (κ false))) (cond (tU a0.2.2.2.2.1) (cond (we a0.2.2.2.2.2.1) (cond (d299 a0.2.2.2.2.2.2.1) (cond (yy a0.2.2.2.2.2.2.1) (κ (lF a0.2.2.2.2.2.2.1 a0.2.2.2.2.1.1)) (κ false)) (none)) (κ false)) (κ false)))) (cond (a0.2.2.2.2.2.2.1.1 == (2 : Int)) (cond (decide (a0.2.2.2.2.2.2.2.2 < (0 : Int))) (κ false) (cond (tU a0.2.2.2.2.1) (cond (we a0.2.2.2.2.2.1) (cond (d299 a0.2.2.2.2.2.2.1) (cond (yy a0.2.2.2.2.2.2.1) (κ (lF a0.2.2.2.2.2.2.1 a0.2.2.2.2.1.1)) (κ false)) (none)) (κ false)) (κ false))) (cond (tU a0.2.2.2.2.1) (cond (we a0.2.2.2.2.2.1) (cond (d299 a0.2.2.2.2.2.2.1) (cond (yy a0.2.2.2.2.2.2.1) (κ (lF a0.2.2.2.2.2.2.1 a0.2.2.2.2.1.1)) (κ false)) (none)) (κ false)) (κ false)))))))))
def ga (a0 : Ty.T aq) : Bool := (t242 a0 some).getD false
def d242 (a0 : Ty.T aq) : Bool := (t242 a0 some).isSome
def aar : Prim := ⟨[.agg [.dat aq true]], fun v => .br (d242 v.1) (.done (f242 (ga v.1))) .no⟩
theorem PF : PO 242 aar := pK afo fun v => Eq.trans (b := (t242 v.1 (sm f242))) (by kernel_rfl) (al (show t242 v.1 (sm f242) = (t242 v.1 some).bind _ from by unfold t242; simp only [bb]))
def f156 (r : Bool) : AV × Sig := (.one (.bool r), [])
def WU := (E0.p PF)
@[reducible] def A9 : List SP := .one (.dat (.sl 109 aq) true) :: .und :: .one (.dat .bool true) :: oI :: U32 (.und :: [])
@[reducible] def pP : Type := (List (Ty.T aq)) × Bool × Int × Unit
def pQ (v : pP) {Z : Type} (κ : Nat × pP -> Option Z) : Option Z := cond (decide (v.2.2.1 < ((v.1).length : Int))) (if 0 <= v.2.2.1 then (bc ((v.1)[(v.2.2.1).toNat]?) (fun x1 => cond (d242 x1) (cond (!(ga x1)) (κ (1, (v.1, false, v.2.2.1, ()))) (cond (decide (v.2.2.1 > (0 : Int))) (if 0 <= (IntKind.wrap .i64 (v.2.2.1 - (1 : Int))) then (bc ((v.1)[(IntKind.wrap .i64 (v.2.2.1 - (1 : Int))).toNat]?) (fun x2 => if 0 <= v.2.2.1 then (bc ((v.1)[(v.2.2.1).toNat]?) (fun x3 => cond (decide (x2.1 ≥ x3.1)) (κ (1, (v.1, false, v.2.2.1, ()))) (κ (0, (v.1, v.2.1, IntKind.wrap .i64 (v.2.2.1 + (1 : Int)), ()))))) else none)) else none) (κ (0, (v.1, v.2.1, IntKind.wrap .i64 (v.2.2.1 + (1 : Int)), ()))))) (none))) else none) (κ (2, (v.1, v.2.1, v.2.2.1, ())))
def kz (v : pP) : Option (Nat × pP) := pQ v some
def qR (v : pP) : Nat := v.1.length + v.2.2.1.toNat + 100
def kQ (h0 : List (Ty.T aq)) (h1 : Bool) (h2 : Int) (c : Nat) : Bool := iK kz qR (h0, h1, h2, ()) c
def sQ (h0 : List (Ty.T aq)) (h1 : Bool) (h2 : Int) : pP := iW kz qR (h0, h1, h2, ())
def L5 (v : pP) : aP (Ex × St) := bz kz (qR v) v (ax A9 au) [.ret, .exit 0] 0
theorem Tx : bw Tryz.prog (aO (pb 3 5) (ae Tryz.f156)) A9 au L5 := aE (lt := .none) WU.ok aj (ag.no _) fun n v K => Eq.trans (b := pQ v (dt _ _ _ _ _ K)) (by kernel_rfl) (show pQ v _ = (pQ v some).bind _ from (bC (bI (bO fun x1 => (bC (bC rfl (bC (bI (bO fun x2 => (bI (bO fun x3 => (bC rfl rfl))))) rfl)) rfl))) rfl))
def Xf := WU.l (g := 156) (t := (cD (pb 3 5) (ae Tryz.f156) .none (.sum A9 au L5))) (aZ Tryz.func156 (ag.put (az (by kernel_rfl)) (ag.no _) Tx))
def V9 (a0 : List (Ty.T aq)) : Option (AV × Sig) := cond (kQ a0 false 0 0) (some (.one (.bool (sQ a0 false 0).2.1), [])) (cond (kQ a0 false 0 1) (some (.one (.bool (decide ((((sQ a0 false 0).1).length : Int) <= (5 : Int)))), [])) (none))
def Qc (a0 : List (Ty.T aq)) : Bool := cond (kQ a0 false 0 0) ((sQ a0 false 0).2.1) (cond (kQ a0 false 0 1) (decide ((((sQ a0 false 0).1).length : Int) <= (5 : Int))) (false))
def d156 (a0 : List (Ty.T aq)) : Bool := cond (kQ a0 false 0 0) (true) (cond (kQ a0 false 0 1) (true) (false))
theorem aeF (a0 : List (Ty.T aq)) : V9 a0 = cond (d156 a0) (some (f156 (Qc a0))) none := (pC (pS _) (pC (pS _) (pN _)))
def aaQ : Prim := ⟨[.one (.dat (.sl 109 aq) true)], fun v => .br (d156 v.1) (.done (f156 (Qc v.1))) .no⟩
theorem age : PO 156 aaQ := pK Xf fun v => Eq.trans (b := V9 v.1) (by kernel_rfl) (aeF v.1)
def f136 (r : Bool) : AV × Sig := (.one (.bool r), [])
def Xt := (E0.p Mq)
@[reducible] def CG : List SP := .one (.dat (.sl 109 aq) true) :: .und :: .one (.dat .bool true) :: U2 (.one (.dat (.sl 109 aq) true) :: oI :: oI :: U16 (U8 (U2 ([]))))
@[reducible] def oQ : Type := (List (Ty.T aq)) × Bool × (List (Ty.T aq)) × Int × Int × Unit
def oH (v : oQ) {Z : Type} (κ : Nat × oQ -> Option Z) : Option Z := cond (decide (v.2.2.2.2.1 < v.2.2.2.1)) (if 0 <= v.2.2.2.2.1 then (bc ((v.2.2.1)[(v.2.2.2.2.1).toNat]?) (fun x1 => cond (d227 x1) (cond (!(yA x1)) (κ (1, (v.1, false, v.2.2.1, v.2.2.2.1, v.2.2.2.2.1, ()))) (cond (decide (v.2.2.2.2.1 > (0 : Int))) (if 0 <= (IntKind.wrap .i64 (v.2.2.2.2.1 - (1 : Int))) then (bc ((v.1)[(IntKind.wrap .i64 (v.2.2.2.2.1 - (1 : Int))).toNat]?) (fun x2 => cond (decide (x2.1 ≥ x1.1)) (κ (1, (v.1, false, v.2.2.1, v.2.2.2.1, v.2.2.2.2.1, ()))) (κ (0, (v.1, v.2.1, v.2.2.1, v.2.2.2.1, IntKind.wrap .i64 (v.2.2.2.2.1 + (1 : Int)), ()))))) else none) (κ (0, (v.1, v.2.1, v.2.2.1, v.2.2.2.1, IntKind.wrap .i64 (v.2.2.2.2.1 + (1 : Int)), ()))))) (none))) else none) (κ (2, (v.1, v.2.1, v.2.2.1, v.2.2.2.1, v.2.2.2.2.1, ())))
def lj (v : oQ) : Option (Nat × oQ) := oH v some
def sT (v : oQ) : Nat := v.1.length + v.2.2.1.length + v.2.2.2.1.toNat + v.2.2.2.2.1.toNat + 100
def kC (h0 : List (Ty.T aq)) (h1 : Bool) (h2 : List (Ty.T aq)) (h3 : Int) (h4 : Int) (c : Nat) : Bool := iK lj sT (h0, h1, h2, h3, h4, ()) c
def rA (h0 : List (Ty.T aq)) (h1 : Bool) (h2 : List (Ty.T aq)) (h3 : Int) (h4 : Int) : oQ := iW lj sT (h0, h1, h2, h3, h4, ())
def MC (v : oQ) : aP (Ex × St) := bz lj (sT v) v (ax CG au) [.ret, .exit 0] 0
theorem Uh : bw Tryz.prog (aO (pb 3 5) (ae Tryz.f136)) CG au MC := aE (lt := .none) Xt.ok aj (ag.no _) fun n v K => Eq.trans (b := oH v (dt _ _ _ _ _ K)) (by kernel_rfl) (show oH v _ = (oH v some).bind _ from (bC (bI (bO fun x1 => (bC (bC rfl (bC (bI (bO fun x2 => (bC rfl rfl))) rfl)) rfl))) rfl))
def YR := Xt.l (g := 136) (t := (cD (pb 3 5) (ae Tryz.f136) .none (.sum CG au MC))) (aZ Tryz.func136 (ag.put (az (by kernel_rfl)) (ag.no _) Uh))
def Xb (a0 : List (Ty.T aq)) : Option (AV × Sig) := cond (kC a0 false a0 ((a0).length : Int) 0 0) (some (.one (.bool (rA a0 false a0 ((a0).length : Int) 0).2.1), [])) (cond (kC a0 false a0 ((a0).length : Int) 0 1) (some (.one (.bool (decide ((((rA a0 false a0 ((a0).length : Int) 0).1).length : Int) <= (5 : Int)))), [])) (none))
def Rv (a0 : List (Ty.T aq)) : Bool := cond (kC a0 false a0 ((a0).length : Int) 0 0) ((rA a0 false a0 ((a0).length : Int) 0).2.1) (cond (kC a0 false a0 ((a0).length : Int) 0 1) (decide ((((rA a0 false a0 ((a0).length : Int) 0).1).length : Int) <= (5 : Int))) (false))
def d136 (a0 : List (Ty.T aq)) : Bool := cond (kC a0 false a0 ((a0).length : Int) 0 0) (true) (cond (kC a0 false a0 ((a0).length : Int) 0 1) (true) (false))
theorem adJ (a0 : List (Ty.T aq)) : Xb a0 = cond (d136 a0) (some (f136 (Rv a0))) none := (pC (pS _) (pC (pS _) (pN _)))
def adf : Prim := ⟨[.one (.dat (.sl 109 aq) true)], fun v => .br (d136 v.1) (.done (f136 (Rv v.1))) .no⟩
theorem agd : PO 136 adf := pK YR fun v => Eq.trans (b := Xb v.1) (by kernel_rfl) (adJ v.1)
def f300 (r : Bool) : AV × Sig := (.one (.bool r), [])
def XH := E0
@[reducible] def Ca : List SP := .one (.dat (.sl 3 (.int .i64)) true) :: oI :: U2 (.one (.dat .bool true) :: oI :: U8 (U4 ([])))
@[reducible] def pA : Type := (List (Ty.T (.int .i64))) × Int × Bool × Int × Unit
def sG (v : pA) {Z : Type} (κ : Nat × pA -> Option Z) : Option Z := cond (decide (v.2.2.2.1 < ((v.1).length : Int))) (if 0 <= v.2.2.2.1 then (bc ((v.1)[(v.2.2.2.1).toNat]?) (fun x1 => cond (x1 == v.2.1) (κ (1, (v.1, v.2.1, true, v.2.2.2.1, ()))) (κ (0, (v.1, v.2.1, v.2.2.1, IntKind.wrap .i64 (v.2.2.2.1 + (1 : Int)), ()))))) else none) (κ (2, (v.1, v.2.1, v.2.2.1, v.2.2.2.1, ())))
def sk (v : pA) : Option (Nat × pA) := sG v some
def xG (v : pA) : Nat := v.1.length + v.2.1.toNat + v.2.2.2.1.toNat + 100
def kP (h0 : List (Ty.T (.int .i64))) (h1 : Int) (h2 : Bool) (h3 : Int) (c : Nat) : Bool := iK sk xG (h0, h1, h2, h3, ()) c
def HU (h0 : List (Ty.T (.int .i64))) (h1 : Int) (h2 : Bool) (h3 : Int) : pA := iW sk xG (h0, h1, h2, h3, ())
def LU (v : pA) : aP (Ex × St) := bz sk (xG v) v (ax Ca au) [.ret, .exit 0] 0
theorem U6 : bw Tryz.prog (aO (pb 3 5) (ae Tryz.f300)) Ca au LU := aE (lt := .none) XH.ok aj (ag.no _) fun n v K => Eq.trans (b := sG v (dt _ _ _ _ _ K)) (by kernel_rfl) (show sG v _ = (sG v some).bind _ from (bC (bI (bO fun x1 => (bC rfl rfl))) rfl))
def ZS := XH.l (g := 300) (t := (cD (pb 3 5) (ae Tryz.f300) .none (.sum Ca au LU))) (aZ Tryz.func300 (ag.put (az (by kernel_rfl)) (ag.no _) U6))
def Xv (a0 : List (Ty.T (.int .i64))) (a1 : Int) : Option (AV × Sig) := cond (kP a0 a1 false 0 0) (some (.one (.bool (HU a0 a1 false 0).2.2.1), [])) (cond (kP a0 a1 false 0 1) (some (.one (.bool false), [])) (none))
def Oj (a0 : List (Ty.T (.int .i64))) (a1 : Int) : Bool := cond (kP a0 a1 false 0 0) ((HU a0 a1 false 0).2.2.1) (cond (kP a0 a1 false 0 1) (false) (false))
def d300 (a0 : List (Ty.T (.int .i64))) (a1 : Int) : Bool := cond (kP a0 a1 false 0 0) (true) (cond (kP a0 a1 false 0 1) (true) (false))
theorem aah (a0 : List (Ty.T (.int .i64))) (a1 : Int) : Xv a0 a1 = cond (d300 a0 a1) (some (f300 (Oj a0 a1))) none := (pC (pS _) (pC (pS _) (pN _)))
def afi : Prim := ⟨[.one (.dat (.sl 3 (.int .i64)) true), oI], fun v => .br (d300 v.1 v.2.1) (.done (f300 (Oj v.1 v.2.1))) .no⟩
theorem XT : PO 300 afi := pK ZS fun v => Eq.trans (b := Xv v.1 v.2.1) (by kernel_rfl) (aah v.1 v.2.1)
def f252 (r : Int) : AV × Sig := (.one (.int .i64 r), [])
def Zx := E0
@[reducible] def Cf : List SP := .one (.dat (.sl 3 (.int .i64)) true) :: oI :: U2 (oI :: U2 (oI :: oI :: U8 (U2 ([]))))
@[reducible] def oR : Type := (List (Ty.T (.int .i64))) × Int × Int × Int × Int × Unit
def tc (v : oR) {Z : Type} (κ : Nat × oR -> Option Z) : Option Z := cond (decide (v.2.2.2.2.1 < v.2.2.2.1)) (if 0 <= v.2.2.2.2.1 then (bc ((v.1)[(v.2.2.2.2.1).toNat]?) (fun x1 => cond (v.2.1 == x1) (κ (1, (v.1, v.2.1, v.2.2.2.2.1, v.2.2.2.1, v.2.2.2.2.1, ()))) (κ (0, (v.1, v.2.1, v.2.2.1, v.2.2.2.1, IntKind.wrap .i64 (v.2.2.2.2.1 + (1 : Int)), ()))))) else none) (κ (2, (v.1, v.2.1, v.2.2.1, v.2.2.2.1, v.2.2.2.2.1, ())))
def sZ (v : oR) : Option (Nat × oR) := tc v some
def vv (v : oR) : Nat := v.1.length + v.2.1.toNat + v.2.2.1.toNat + v.2.2.2.1.toNat + v.2.2.2.2.1.toNat + 100
def lk (h0 : List (Ty.T (.int .i64))) (h1 : Int) (h2 : Int) (h3 : Int) (h4 : Int) (c : Nat) : Bool := iK sZ vv (h0, h1, h2, h3, h4, ()) c
def Ia (h0 : List (Ty.T (.int .i64))) (h1 : Int) (h2 : Int) (h3 : Int) (h4 : Int) : oR := iW sZ vv (h0, h1, h2, h3, h4, ())
def NQ (v : oR) : aP (Ex × St) := bz sZ (vv v) v (ax Cf au) [.ret, .exit 0] 0
theorem U5 : bw Tryz.prog (aO (pb 3 5) (ae Tryz.f252)) Cf au NQ := aE (lt := .none) Zx.ok aj (ag.no _) fun n v K => Eq.trans (b := tc v (dt _ _ _ _ _ K)) (by kernel_rfl) (show tc v _ = (tc v some).bind _ from (bC (bI (bO fun x1 => (bC rfl rfl))) rfl))
def Yy := Zx.l (g := 252) (t := (cD (pb 3 5) (ae Tryz.f252) .none (.sum Cf au NQ))) (aZ Tryz.func252 (ag.put (az (by kernel_rfl)) (ag.no _) U5))
def ZE (a0 : List (Ty.T (.int .i64))) (a1 : Int) : Option (AV × Sig) := cond (lk a0 a1 0 ((a0).length : Int) 0 0) (some (.one (.int .i64 (Ia a0 a1 0 ((a0).length : Int) 0).2.2.1), [])) (cond (lk a0 a1 0 ((a0).length : Int) 0 1) (some (.one (.int .i64 (-1)), [])) (none))
def KC (a0 : List (Ty.T (.int .i64))) (a1 : Int) : Int := cond (lk a0 a1 0 ((a0).length : Int) 0 0) ((Ia a0 a1 0 ((a0).length : Int) 0).2.2.1) (cond (lk a0 a1 0 ((a0).length : Int) 0 1) ((-1)) (0))
def d252 (a0 : List (Ty.T (.int .i64))) (a1 : Int) : Bool := cond (lk a0 a1 0 ((a0).length : Int) 0 0) (true) (cond (lk a0 a1 0 ((a0).length : Int) 0 1) (true) (false))
theorem afT (a0 : List (Ty.T (.int .i64))) (a1 : Int) : ZE a0 a1 = cond (d252 a0 a1) (some (f252 (KC a0 a1))) none := (pC (pS _) (pC (pS _) (pN _)))
def ac0 : Prim := ⟨[.one (.dat (.sl 3 (.int .i64)) true), oI], fun v => .br (d252 v.1 v.2.1) (.done (f252 (KC v.1 v.2.1))) .no⟩
theorem Yg : PO 252 ac0 := pK Yy fun v => Eq.trans (b := ZE v.1 v.2.1) (by kernel_rfl) (afT v.1 v.2.1)
def f181 (r : Bool) : AV × Sig := (.one (.bool r), [])
def abw := (E0.p Yg)
def XS (a0 : List (Ty.T (.int .i64))) (a1 : Int) : Option (AV × Sig) := cond (d252 a0 a1) (some (.one (.bool (decide ((KC a0 a1) ≥ (0 : Int)))), [])) (none)
def My (a0 : List (Ty.T (.int .i64))) (a1 : Int) : Bool := cond (d252 a0 a1) (decide ((KC a0 a1) ≥ (0 : Int))) (false)
def d181 (a0 : List (Ty.T (.int .i64))) (a1 : Int) : Bool := cond (d252 a0 a1) (true) (false)
theorem aan (a0 : List (Ty.T (.int .i64))) (a1 : Int) : XS a0 a1 = cond (d181 a0 a1) (some (f181 (My a0 a1))) none := (pC (pS _) (pN _))
def aaJ : Prim := ⟨[.one (.dat (.sl 3 (.int .i64)) true), oI], fun v => .br (d181 v.1 v.2.1) (.done (f181 (My v.1 v.2.1))) .no⟩
theorem Yp : PO 181 aaJ := pK abw fun v => Eq.trans (b := XS v.1 v.2.1) (by kernel_rfl) (aan v.1 v.2.1)
def f75 (r : Bool) : AV × Sig := (.one (.bool r), [])
def E75 := (E0.p Yp)
def u75 (a0 : List (Ty.T (.int .i64))) (a1 : Int) : Option (AV × Sig) := cond (d181 a0 a1) (some (.one (.bool (My a0 a1)), [])) (none)
def v75 (a0 : List (Ty.T (.int .i64))) (a1 : Int) : Bool := cond (d181 a0 a1) ((My a0 a1)) (false)
def d75 (a0 : List (Ty.T (.int .i64))) (a1 : Int) : Bool := cond (d181 a0 a1) (true) (false)
theorem o75 (a0 : List (Ty.T (.int .i64))) (a1 : Int) : u75 a0 a1 = cond (d75 a0 a1) (some (f75 (v75 a0 a1))) none := (pC (pS _) (pN _))
def p75 : Prim := ⟨[.one (.dat (.sl 3 (.int .i64)) true), oI], fun v => .br (d75 v.1 v.2.1) (.done (f75 (v75 v.1 v.2.1))) .no⟩
theorem aey : PO 75 p75 := pK E75 fun v => Eq.trans (b := u75 v.1 v.2.1) (by kernel_rfl) (o75 v.1 v.2.1)
def f134 (r : (List (Ty.T aq))) : AV × Sig := (.one (.sl 4096), [(4096, .arr 109 aq r false)])
def VQ := (E0.p M6)
@[reducible] def CD : List SP := U2 (.one (.dat (.sl 109 aq) false) :: .one (.own 6) :: U2 (.und :: .one (.dat (.sl 109 aq) true) :: oI :: oI :: U8 (U2 ([]))))
@[reducible] def Cu : List (Nat × GP) := [(6, .arr 109 aq false)]
@[reducible] def pT : Type := (List (Ty.T aq)) × (List (Ty.T aq)) × Int × Int × (List (Ty.T aq)) × Unit
def rF (v : pT) {Z : Type} (κ : Nat × pT -> Option Z) : Option Z := cond (decide (v.2.2.2.1 < v.2.2.1)) (if 0 <= v.2.2.2.1 then (bc ((v.2.1)[(v.2.2.2.1).toNat]?) (fun x1 => cond (d226 x1) (if (v.2.2.2.2.1 ++ [((cL x1).1.1, (cL x1).1.2.1, (cL x1).1.2.2.1, (cL x1).1.2.2.2.1, (cL x1).1.2.2.2.2.1, (cL x1).1.2.2.2.2.2.1, ((cL x1).1.2.2.2.2.2.2.1, (cL x1).1.2.2.2.2.2.2.2.1, (cL x1).1.2.2.2.2.2.2.2.2.1, (cL x1).1.2.2.2.2.2.2.2.2.2.1, (cL x1).1.2.2.2.2.2.2.2.2.2.2.1, (cL x1).1.2.2.2.2.2.2.2.2.2.2.2, (cL x1).2.2), (cL x1).2.1)] : List (Ty.T aq)).length * 192 <= 140737488351232 then (κ (0, (v.1, v.2.1, v.2.2.1, IntKind.wrap .i64 (v.2.2.2.1 + (1 : Int)), v.2.2.2.2.1 ++ [((cL x1).1.1, (cL x1).1.2.1, (cL x1).1.2.2.1, (cL x1).1.2.2.2.1, (cL x1).1.2.2.2.2.1, (cL x1).1.2.2.2.2.2.1, ((cL x1).1.2.2.2.2.2.2.1, (cL x1).1.2.2.2.2.2.2.2.1, (cL x1).1.2.2.2.2.2.2.2.2.1, (cL x1).1.2.2.2.2.2.2.2.2.2.1, (cL x1).1.2.2.2.2.2.2.2.2.2.2.1, (cL x1).1.2.2.2.2.2.2.2.2.2.2.2, (cL x1).2.2), (cL x1).2.1)], ()))) else none) (none))) else none) (κ (1, (v.1, v.2.1, v.2.2.1, v.2.2.2.1, v.2.2.2.2.1, ())))
def rq (v : pT) : Option (Nat × pT) := rF v some
def wD (v : pT) : Nat := v.1.length + v.2.1.length + v.2.2.1.toNat + v.2.2.2.1.toNat + v.2.2.2.2.1.length + 100
def AY (h0 : List (Ty.T aq)) (h1 : List (Ty.T aq)) (h2 : Int) (h3 : Int) (h4 : List (Ty.T aq)) (c : Nat) : Bool := iK rq wD (h0, h1, h2, h3, h4, ()) c
def HH (h0 : List (Ty.T aq)) (h1 : List (Ty.T aq)) (h2 : Int) (h3 : Int) (h4 : List (Ty.T aq)) : pT := iW rq wD (h0, h1, h2, h3, h4, ())
def Pe (v : pT) : aP (Ex × St) := bz rq (wD v) v (ax CD Cu) [.exit 0] 0
theorem U0 : bw Tryz.prog (aO (pb 4 11) (ae Tryz.f134)) CD Cu Pe := aE (lt := .none) VQ.ok aj (ag.no _) fun n v K => Eq.trans (b := rF v (dt _ _ _ _ _ K)) (by kernel_rfl) (show rF v _ = (rF v some).bind _ from (bC (bI (bO fun x1 => (bC (bI rfl) rfl))) rfl))
def YL := VQ.l (g := 134) (t := (cD (pb 4 11) (ae Tryz.f134) .none (.sum CD Cu Pe))) (aZ Tryz.func134 (ag.put (az (by kernel_rfl)) (ag.no _) U0))
def ZH (a0 : List (Ty.T aq)) : Option (AV × Sig) := cond (AY [] a0 ((a0).length : Int) 0 [] 0) (some (.one (.sl 4096), [(4096, .arr 109 aq (HH [] a0 ((a0).length : Int) 0 []).2.2.2.2.1 false)])) (none)
def Ra (a0 : List (Ty.T aq)) : (List (Ty.T aq)) := cond (AY [] a0 ((a0).length : Int) 0 [] 0) ((HH [] a0 ((a0).length : Int) 0 []).2.2.2.2.1) ([])
def d134 (a0 : List (Ty.T aq)) : Bool := cond (AY [] a0 ((a0).length : Int) 0 [] 0) (true) (false)
theorem aeM (a0 : List (Ty.T aq)) : ZH a0 = cond (d134 a0) (some (f134 (Ra a0))) none := (pC (pS _) (pN _))
def aeY : Prim := ⟨[.one (.dat (.sl 109 aq) true)], fun v => .br (d134 v.1) (.done (f134 (Ra v.1))) .no⟩
theorem agb : PO 134 aeY := pK YL fun v => Eq.trans (b := ZH v.1) (by kernel_rfl) (aeM v.1)
def f296 (r : (Ty.T q1) × (List (Ty.T y27))) : AV × Sig := (.agg ((q1.cells false r.1) ++ [.sl 28672]), [(28672, .arr 41 y27 r.2 false)])
def aa2 := E0
def Xz (a0 : Ty.T bo) : Option (AV × Sig) := if ([] ++ a0.2.2.2.2.2.2 : List (Ty.T y27)).length * 56 <= 140737488351232 then (some (.agg [.int .i64 a0.1, .int .i64 a0.2.1, .int .i64 a0.2.2.1, .int .i64 a0.2.2.2.1, .int .i64 a0.2.2.2.2.1, .bool a0.2.2.2.2.2.1, .sl 28672], [(28672, .arr 41 y27 ([] ++ a0.2.2.2.2.2.2) false)])) else none
def QY (a0 : Ty.T bo) : (Ty.T q1) × (List (Ty.T y27)) := ((a0.1, a0.2.1, a0.2.2.1, a0.2.2.2.1, a0.2.2.2.2.1, a0.2.2.2.2.2.1), [] ++ a0.2.2.2.2.2.2)
def d296 (a0 : Ty.T bo) : Bool := decide (([] ++ a0.2.2.2.2.2.2 : List (Ty.T y27)).length * 56 <= 140737488351232) && (true)
theorem abe (a0 : Ty.T bo) : Xz a0 = cond (d296 a0) (some (f296 (QY a0))) none := (pI (pS _))
def aaI : Prim := ⟨[.agg [.dat bo true]], fun v => .br (d296 v.1) (.done (f296 (QY v.1))) .no⟩
theorem Zs : PO 296 aaI := pK aa2 fun v => Eq.trans (b := Xz v.1) (by kernel_rfl) (abe v.1)
def f238 (r : (Ty.T q0) × (Ty.T aB) × (List (Ty.T y27))) : AV × Sig := (.agg ((q0.cells false r.1) ++ [.sl 81920] ++ (aB.cells false r.2.1)), [(81920, .arr 41 y27 r.2.2 false)])
def ac9 := (E0.p Zs)
def t238 (a0 : Ty.T aq) {Z : Type} (κ : (Ty.T q0) × (Ty.T aB) × (List (Ty.T y27)) -> Option Z) : Option Z := cond (d296 a0.2.2.2.2.2.2.1) (κ ((a0.1, a0.2.1, a0.2.2.1, a0.2.2.2.1, a0.2.2.2.2.1, a0.2.2.2.2.2.1, (QY a0.2.2.2.2.2.2.1).1), a0.2.2.2.2.2.2.2, (QY a0.2.2.2.2.2.2.1).2)) (none)
def dv (a0 : Ty.T aq) : (Ty.T q0) × (Ty.T aB) × (List (Ty.T y27)) := (t238 a0 some).getD ((Ty.zero q0), (Ty.zero aB), [])
def d238 (a0 : Ty.T aq) : Bool := (t238 a0 some).isSome
def afZ : Prim := ⟨[.agg [.dat aq true]], fun v => .br (d238 v.1) (.done (f238 (dv v.1))) .no⟩
theorem PH : PO 238 afZ := pK ac9 fun v => Eq.trans (b := (t238 v.1 (sm f238))) (by kernel_rfl) (al (show t238 v.1 (sm f238) = (t238 v.1 some).bind _ from (bC rfl rfl)))
def f154 (r : (List (Ty.T aq))) : AV × Sig := (.one (.sl 4096), [(4096, .arr 109 aq r false)])
def Y8 := (E0.p PH)
@[reducible] def Cp : List SP := .one (.dat (.sl 109 aq) true) :: .und :: .one (.dat (.sl 109 aq) false) :: .one (.own 5) :: oI :: U16 ([])
@[reducible] def BO : List (Nat × GP) := [(5, .arr 109 aq false)]
@[reducible] def pD : Type := (List (Ty.T aq)) × (List (Ty.T aq)) × Int × (List (Ty.T aq)) × Unit
def rm (v : pD) {Z : Type} (κ : Nat × pD -> Option Z) : Option Z := cond (decide (v.2.2.1 < ((v.1).length : Int))) (if 0 <= v.2.2.1 then (bc ((v.1)[(v.2.2.1).toNat]?) (fun x1 => cond (d238 x1) (if (v.2.2.2.1 ++ [((dv x1).1.1, (dv x1).1.2.1, (dv x1).1.2.2.1, (dv x1).1.2.2.2.1, (dv x1).1.2.2.2.2.1, (dv x1).1.2.2.2.2.2.1, ((dv x1).1.2.2.2.2.2.2.1, (dv x1).1.2.2.2.2.2.2.2.1, (dv x1).1.2.2.2.2.2.2.2.2.1, (dv x1).1.2.2.2.2.2.2.2.2.2.1, (dv x1).1.2.2.2.2.2.2.2.2.2.2.1, (dv x1).1.2.2.2.2.2.2.2.2.2.2.2, (dv x1).2.2), (dv x1).2.1)] : List (Ty.T aq)).length * 192 <= 140737488351232 then (κ (0, (v.1, v.2.1, IntKind.wrap .i64 (v.2.2.1 + (1 : Int)), v.2.2.2.1 ++ [((dv x1).1.1, (dv x1).1.2.1, (dv x1).1.2.2.1, (dv x1).1.2.2.2.1, (dv x1).1.2.2.2.2.1, (dv x1).1.2.2.2.2.2.1, ((dv x1).1.2.2.2.2.2.2.1, (dv x1).1.2.2.2.2.2.2.2.1, (dv x1).1.2.2.2.2.2.2.2.2.1, (dv x1).1.2.2.2.2.2.2.2.2.2.1, (dv x1).1.2.2.2.2.2.2.2.2.2.2.1, (dv x1).1.2.2.2.2.2.2.2.2.2.2.2, (dv x1).2.2), (dv x1).2.1)], ()))) else none) (none))) else none) (κ (1, (v.1, v.2.1, v.2.2.1, v.2.2.2.1, ())))
def sE (v : pD) : Option (Nat × pD) := rm v some
def wR (v : pD) : Nat := v.1.length + v.2.1.length + v.2.2.1.toNat + v.2.2.2.1.length + 100
def AT (h0 : List (Ty.T aq)) (h1 : List (Ty.T aq)) (h2 : Int) (h3 : List (Ty.T aq)) (c : Nat) : Bool := iK sE wR (h0, h1, h2, h3, ()) c
def HK (h0 : List (Ty.T aq)) (h1 : List (Ty.T aq)) (h2 : Int) (h3 : List (Ty.T aq)) : pD := iW sE wR (h0, h1, h2, h3, ())
def Nh (v : pD) : aP (Ex × St) := bz sE (wR v) v (ax Cp BO) [.exit 0] 0
theorem S4 : bw Tryz.prog (aO (pb 4 11) (ae Tryz.f154)) Cp BO Nh := aE (lt := .none) Y8.ok aj (ag.no _) fun n v K => Eq.trans (b := rm v (dt _ _ _ _ _ K)) (by kernel_rfl) (show rm v _ = (rm v some).bind _ from (bC (bI (bO fun x1 => (bC (bI rfl) rfl))) rfl))
def Zt := Y8.l (g := 154) (t := (cD (pb 4 11) (ae Tryz.f154) .none (.sum Cp BO Nh))) (aZ Tryz.func154 (ag.put (az (by kernel_rfl)) (ag.no _) S4))
def Xu (a0 : List (Ty.T aq)) : Option (AV × Sig) := cond (AT a0 [] 0 [] 0) (some (.one (.sl 4096), [(4096, .arr 109 aq (HK a0 [] 0 []).2.2.2.1 false)])) (none)
def QW (a0 : List (Ty.T aq)) : (List (Ty.T aq)) := cond (AT a0 [] 0 [] 0) ((HK a0 [] 0 []).2.2.2.1) ([])
def d154 (a0 : List (Ty.T aq)) : Bool := cond (AT a0 [] 0 [] 0) (true) (false)
theorem aaq (a0 : List (Ty.T aq)) : Xu a0 = cond (d154 a0) (some (f154 (QW a0))) none := (pC (pS _) (pN _))
def ab7 : Prim := ⟨[.one (.dat (.sl 109 aq) true)], fun v => .br (d154 v.1) (.done (f154 (QW v.1))) .no⟩
theorem agh : PO 154 ab7 := pK Zt fun v => Eq.trans (b := Xu v.1) (by kernel_rfl) (aaq v.1)
def f230 (r : Int) : AV × Sig := (.one (.int .i64 r), [])
def adN := (E0.p Sb)
def X5 (a0 : Ty.T y36) (a1 : Ty.T y27) : Option (AV × Sig) := cond (d292 a0 a1) (cond ((sH a0 a1) != (-1 : Int)) (some (.one (.int .i64 (sH a0 a1)), [])) (some (.one (.int .i64 a0.2.2.1), []))) (none)
def P8 (a0 : Ty.T y36) (a1 : Ty.T y27) : Int := cond (d292 a0 a1) (cond ((sH a0 a1) != (-1 : Int)) ((sH a0 a1)) (a0.2.2.1)) (0)
def d230 (a0 : Ty.T y36) (a1 : Ty.T y27) : Bool := cond (d292 a0 a1) (cond ((sH a0 a1) != (-1 : Int)) (true) (true)) (false)
theorem ael (a0 : Ty.T y36) (a1 : Ty.T y27) : X5 a0 a1 = cond (d230 a0 a1) (some (f230 (P8 a0 a1))) none := (pC (pC (pS _) (pS _)) (pN _))
def aeC : Prim := ⟨[.agg [.dat y36 true], .agg [.dat y27 true]], fun v => .br (d230 v.1 v.2.1) (.done (f230 (P8 v.1 v.2.1))) .no⟩
theorem agf : PO 230 aeC := pK adN fun v => Eq.trans (b := X5 v.1 v.2.1) (by kernel_rfl) (ael v.1 v.2.1)
def f309 (r : Bool) : AV × Sig := (.one (.bool r), [])
def aep := E0
def W4 (a0 : Ty.T aq) (a1 : Int) : Option (AV × Sig) := cond (a0.2.2.2.2.2.2.2.2 != (0 : Int)) (cond (a0.2.2.2.2.2.2.2.1 == (-1 : Int)) (some (.one (.bool true), [])) (some (.one (.bool (decide (a0.2.2.2.2.2.2.2.1 ≥ a1))), []))) (some (.one (.bool false), []))
def Lv (a0 : Ty.T aq) (a1 : Int) : Bool := cond (a0.2.2.2.2.2.2.2.2 != (0 : Int)) (cond (a0.2.2.2.2.2.2.2.1 == (-1 : Int)) (true) (decide (a0.2.2.2.2.2.2.2.1 ≥ a1))) (false)
theorem abl (a0 : Ty.T aq) (a1 : Int) : W4 a0 a1 = some (f309 (Lv a0 a1)) := (tC (tC rfl rfl) rfl)
def aed : Prim := ⟨[.agg [.dat aq true], oI], fun v => .done (f309 (Lv v.1 v.2.1))⟩
theorem W9 : PO 309 aed := pK aep fun v => Eq.trans (b := W4 v.1 v.2.1) (by kernel_rfl) (abl v.1 v.2.1)
def f310 (r : Bool) : AV × Sig := (.one (.bool r), [])
def ad3 := E0
def X6 (a0 : Ty.T aq) (a1 : Ty.T y27) : Option (AV × Sig) := cond (a0.2.2.2.1 != (0 : Int)) (some (.one (.bool true), [])) (cond (a0.2.2.1 == a1.2.1) (some (.one (.bool true), [])) (some (.one (.bool (a0.2.2.1 == a1.2.2.1)), [])))
def KB (a0 : Ty.T aq) (a1 : Ty.T y27) : Bool := cond (a0.2.2.2.1 != (0 : Int)) (true) (cond (a0.2.2.1 == a1.2.1) (true) ((a0.2.2.1 == a1.2.2.1)))
theorem ae0 (a0 : Ty.T aq) (a1 : Ty.T y27) : X6 a0 a1 = some (f310 (KB a0 a1)) := (tC rfl (tC rfl rfl))
def abW : Prim := ⟨[.agg [.dat aq true], .agg [.dat y27 true]], fun v => .done (f310 (KB v.1 v.2.1))⟩
theorem Zb : PO 310 abW := pK ad3 fun v => Eq.trans (b := X6 v.1 v.2.1) (by kernel_rfl) (ae0 v.1 v.2.1)
def f331 (r : Int) : AV × Sig := (.one (.int .i64 r), [])
def Vs := E0
@[reducible] def Db : List SP := .und :: oI :: .one (.ptr 2 0) :: .und :: oI :: oI :: oI :: U16 (U8 (U2 (.und :: [])))
@[reducible] def gm : List (Nat × GP) := [(2, .box 37 [.dat y36 true])]
@[reducible] def eM : Type := Int × Int × Int × Int × (Ty.T y36) × Unit
def sv (v : eM) {Z : Type} (κ : Nat × eM -> Option Z) : Option Z := cond (decide (v.2.2.2.1 < ((v.2.2.2.2.1.1).length : Int))) (if 0 <= v.2.2.2.1 then (bc ((v.2.2.2.2.1.1)[(v.2.2.2.1).toNat]?) (fun x1 => cond (x1.2.2.2.1 == (2 : Int)) (if 0 <= v.2.2.2.1 then (bc ((v.2.2.2.2.1.1)[(v.2.2.2.1).toNat]?) (fun x2 => cond (x2.2.2.1 == v.1) (κ (0, (v.1, v.2.1, IntKind.wrap .i64 (v.2.2.1 + (1 : Int)), IntKind.wrap .i64 (v.2.2.2.1 + (1 : Int)), v.2.2.2.2.1, ()))) (κ (0, (v.1, v.2.1, v.2.2.1, IntKind.wrap .i64 (v.2.2.2.1 + (1 : Int)), v.2.2.2.2.1, ()))))) else none) (κ (0, (v.1, v.2.1, v.2.2.1, IntKind.wrap .i64 (v.2.2.2.1 + (1 : Int)), v.2.2.2.2.1, ()))))) else none) (κ (1, (v.1, v.2.1, v.2.2.1, v.2.2.2.1, v.2.2.2.2.1, ())))
def r5 (v : eM) : Option (Nat × eM) := sv v some
def w4 (v : eM) : Nat := v.1.toNat + v.2.1.toNat + v.2.2.1.toNat + v.2.2.2.1.toNat + v.2.2.2.2.1.1.length + v.2.2.2.2.1.2.1.length + 100
def Dl (h0 : Int) (h1 : Int) (h2 : Int) (h3 : Int) (h4 : Ty.T y36) (c : Nat) : Bool := iK r5 w4 (h0, h1, h2, h3, h4, ()) c
def F9 (h0 : Int) (h1 : Int) (h2 : Int) (h3 : Int) (h4 : Ty.T y36) : eM := iW r5 w4 (h0, h1, h2, h3, h4, ())
def OE (v : eM) : aP (Ex × St) := bz r5 (w4 v) v (ax Db gm) [.exit 0] 0
theorem SF : bw Tryz.prog (aO (pb 4 11) (ae Tryz.f331)) Db gm OE := aE (lt := .none) Vs.ok aj (ag.no _) fun n v K => Eq.trans (b := sv v (dt _ _ _ _ _ K)) (by kernel_rfl) (show sv v _ = (sv v some).bind _ from (bC (bI (bO fun x1 => (bC (bI (bO fun x2 => (bC rfl rfl))) rfl))) rfl))
def V7 := Vs.l (g := 331) (t := (cD (pb 4 11) (ae Tryz.f331) .none (.sum Db gm OE))) (aZ Tryz.func331 (ag.put (az (by kernel_rfl)) (ag.no _) SF))
def Xh (a0 : Ty.T y36) (a1 : Int) : Option (AV × Sig) := cond (Dl a1 0 0 0 a0 0) (some (.one (.int .i64 (F9 a1 0 0 0 a0).2.2.1), [])) (none)
def Ot (a0 : Ty.T y36) (a1 : Int) : Int := cond (Dl a1 0 0 0 a0 0) ((F9 a1 0 0 0 a0).2.2.1) (0)
def d331 (a0 : Ty.T y36) (a1 : Int) : Bool := cond (Dl a1 0 0 0 a0 0) (true) (false)
theorem aen (a0 : Ty.T y36) (a1 : Int) : Xh a0 a1 = cond (d331 a0 a1) (some (f331 (Ot a0 a1))) none := (pC (pS _) (pN _))
def aeG : Prim := ⟨[.agg [.dat y36 true], oI], fun v => .br (d331 v.1 v.2.1) (.done (f331 (Ot v.1 v.2.1))) .no⟩
theorem Ym : PO 331 aeG := pK V7 fun v => Eq.trans (b := Xh v.1 v.2.1) (by kernel_rfl) (aen v.1 v.2.1)
def f332 (r : Int) : AV × Sig := (.one (.int .i64 r), [])
def Xm := E0
@[reducible] def CA : List SP := .und :: oI :: .one (.ptr 2 0) :: .und :: oI :: oI :: oI :: U32 (U2 (.und :: []))
def sL (v : eM) {Z : Type} (κ : Nat × eM -> Option Z) : Option Z := cond (decide (v.2.2.2.1 < ((v.2.2.2.2.1.1).length : Int))) (if 0 <= v.2.2.2.1 then (bc ((v.2.2.2.2.1.1)[(v.2.2.2.1).toNat]?) (fun x1 => cond (x1.2.2.2.1 == (2 : Int)) (if 0 <= v.2.2.2.1 then (bc ((v.2.2.2.2.1.1)[(v.2.2.2.1).toNat]?) (fun x2 => cond (x2.2.2.1 == v.1) (if 0 <= v.2.2.2.1 then (bc ((v.2.2.2.2.1.1)[(v.2.2.2.1).toNat]?) (fun x3 => cond x3.2.2.2.2.2.2.2.2.2.2.2.2 (κ (0, (v.1, v.2.1, IntKind.wrap .i64 (v.2.2.1 + (1 : Int)), IntKind.wrap .i64 (v.2.2.2.1 + (1 : Int)), v.2.2.2.2.1, ()))) (κ (0, (v.1, v.2.1, v.2.2.1, IntKind.wrap .i64 (v.2.2.2.1 + (1 : Int)), v.2.2.2.2.1, ()))))) else none) (κ (0, (v.1, v.2.1, v.2.2.1, IntKind.wrap .i64 (v.2.2.2.1 + (1 : Int)), v.2.2.2.2.1, ()))))) else none) (κ (0, (v.1, v.2.1, v.2.2.1, IntKind.wrap .i64 (v.2.2.2.1 + (1 : Int)), v.2.2.2.2.1, ()))))) else none) (κ (1, (v.1, v.2.1, v.2.2.1, v.2.2.2.1, v.2.2.2.2.1, ())))
def r7 (v : eM) : Option (Nat × eM) := sL v some
def wq (v : eM) : Nat := v.1.toNat + v.2.1.toNat + v.2.2.1.toNat + v.2.2.2.1.toNat + v.2.2.2.2.1.1.length + v.2.2.2.2.1.2.1.length + 100
def BG (h0 : Int) (h1 : Int) (h2 : Int) (h3 : Int) (h4 : Ty.T y36) (c : Nat) : Bool := iK r7 wq (h0, h1, h2, h3, h4, ()) c
def GU (h0 : Int) (h1 : Int) (h2 : Int) (h3 : Int) (h4 : Ty.T y36) : eM := iW r7 wq (h0, h1, h2, h3, h4, ())
def NT (v : eM) : aP (Ex × St) := bz r7 (wq v) v (ax CA gm) [.exit 0] 0
theorem UU : bw Tryz.prog (aO (pb 4 11) (ae Tryz.f332)) CA gm NT := aE (lt := .none) Xm.ok aj (ag.no _) fun n v K => Eq.trans (b := sL v (dt _ _ _ _ _ K)) (by kernel_rfl) (show sL v _ = (sL v some).bind _ from (bC (bI (bO fun x1 => (bC (bI (bO fun x2 => (bC (bI (bO fun x3 => (bC rfl rfl))) rfl))) rfl))) rfl))
def Xw := Xm.l (g := 332) (t := (cD (pb 4 11) (ae Tryz.f332) .none (.sum CA gm NT))) (aZ Tryz.func332 (ag.put (az (by kernel_rfl)) (ag.no _) UU))
def ZZ (a0 : Ty.T y36) (a1 : Int) : Option (AV × Sig) := cond (BG a1 0 0 0 a0 0) (some (.one (.int .i64 (GU a1 0 0 0 a0).2.2.1), [])) (none)
def Mk (a0 : Ty.T y36) (a1 : Int) : Int := cond (BG a1 0 0 0 a0 0) ((GU a1 0 0 0 a0).2.2.1) (0)
def d332 (a0 : Ty.T y36) (a1 : Int) : Bool := cond (BG a1 0 0 0 a0 0) (true) (false)
theorem ad7 (a0 : Ty.T y36) (a1 : Int) : ZZ a0 a1 = cond (d332 a0 a1) (some (f332 (Mk a0 a1))) none := (pC (pS _) (pN _))
def aa6 : Prim := ⟨[.agg [.dat y36 true], oI], fun v => .br (d332 v.1 v.2.1) (.done (f332 (Mk v.1 v.2.1))) .no⟩
theorem VZ : PO 332 aa6 := pK Xw fun v => Eq.trans (b := ZZ v.1 v.2.1) (by kernel_rfl) (ad7 v.1 v.2.1)
def f311 (r : Bool) : AV × Sig := (.one (.bool r), [])
def ac5 := ((((E0.p lr).p RN).p Ym).p VZ)
def t311 (a0 : Ty.T y36) (a1 : Int) (a2 : Ty.T aB) {Z : Type} (κ : Bool -> Option Z) : Option Z := cond (!(we a2)) (κ false) (cond (!(bt a1 0 (IntKind.wrap .i64 (((a0.2.1).length : Int) - (1 : Int))))) (κ false) (cond (a2.1 == (1 : Int)) (if 0 <= a1 then (bc ((a0.2.1)[(a1).toNat]?) (fun x1 => κ (decide (x1.1 <= a2.2)))) else none) (cond (a2.1 == (2 : Int)) (cond (d331 a0 a1) (κ (decide ((Ot a0 a1) ≥ a2.2))) (none)) (cond (a2.1 == (3 : Int)) (κ (a0.2.2.1 == a1)) (cond (a2.1 == (4 : Int)) (cond (d332 a0 a1) (κ (decide ((Mk a0 a1) ≥ a2.2))) (none)) (κ true))))))
def La (a0 : Ty.T y36) (a1 : Int) (a2 : Ty.T aB) : Bool := (t311 a0 a1 a2 some).getD false
def d311 (a0 : Ty.T y36) (a1 : Int) (a2 : Ty.T aB) : Bool := (t311 a0 a1 a2 some).isSome
def adR : Prim := ⟨[.agg [.dat y36 true], oI, .agg [.dat aB true]], fun v => .br (d311 v.1 v.2.1 v.2.2.1) (.done (f311 (La v.1 v.2.1 v.2.2.1))) .no⟩
theorem X2 : PO 311 adR := pK ac5 fun v => Eq.trans (b := (t311 v.1 v.2.1 v.2.2.1 (sm f311))) (by kernel_rfl) (al (show t311 v.1 v.2.1 v.2.2.1 (sm f311) = (t311 v.1 v.2.1 v.2.2.1 some).bind _ from by unfold t311; simp only [bb]))
def f279 (r : Int) : AV × Sig := (.one (.int .i64 r), [])
def Xd := E0
@[reducible] def Cc : List SP := .und :: oI :: .one (.ptr 2 0) :: .und :: oI :: oI :: U16 ([])
@[reducible] def pw : Type := Int × Int × Int × (Ty.T y36) × Unit
def q9 (v : pw) {Z : Type} (κ : Nat × pw -> Option Z) : Option Z := cond (decide (v.2.2.1 < ((v.2.2.2.1.1).length : Int))) (if 0 <= v.2.2.1 then (bc ((v.2.2.2.1.1)[(v.2.2.1).toNat]?) (fun x1 => cond (x1.1 == v.1) (κ (1, (v.1, v.2.2.1, v.2.2.1, v.2.2.2.1, ()))) (κ (0, (v.1, v.2.1, IntKind.wrap .i64 (v.2.2.1 + (1 : Int)), v.2.2.2.1, ()))))) else none) (κ (2, (v.1, v.2.1, v.2.2.1, v.2.2.2.1, ())))
def rU (v : pw) : Option (Nat × pw) := q9 v some
def xu (v : pw) : Nat := v.1.toNat + v.2.1.toNat + v.2.2.1.toNat + v.2.2.2.1.1.length + v.2.2.2.1.2.1.length + 100
def kJ (h0 : Int) (h1 : Int) (h2 : Int) (h3 : Ty.T y36) (c : Nat) : Bool := iK rU xu (h0, h1, h2, h3, ()) c
def HF (h0 : Int) (h1 : Int) (h2 : Int) (h3 : Ty.T y36) : pw := iW rU xu (h0, h1, h2, h3, ())
def Ny (v : pw) : aP (Ex × St) := bz rU (xu v) v (ax Cc gm) [.ret, .exit 0] 0
theorem Uu : bw Tryz.prog (aO (pb 3 5) (ae Tryz.f279)) Cc gm Ny := aE (lt := .none) Xd.ok aj (ag.no _) fun n v K => Eq.trans (b := q9 v (dt _ _ _ _ _ K)) (by kernel_rfl) (show q9 v _ = (q9 v some).bind _ from (bC (bI (bO fun x1 => (bC rfl rfl))) rfl))
def Wi := Xd.l (g := 279) (t := (cD (pb 3 5) (ae Tryz.f279) .none (.sum Cc gm Ny))) (aZ Tryz.func279 (ag.put (az (by kernel_rfl)) (ag.no _) Uu))
def ZB (a0 : Ty.T y36) (a1 : Int) : Option (AV × Sig) := cond (kJ a1 0 0 a0 0) (some (.one (.int .i64 (HF a1 0 0 a0).2.1), [])) (cond (kJ a1 0 0 a0 1) (some (.one (.int .i64 (-1)), [])) (none))
def bW (a0 : Ty.T y36) (a1 : Int) : Int := cond (kJ a1 0 0 a0 0) ((HF a1 0 0 a0).2.1) (cond (kJ a1 0 0 a0 1) ((-1)) (0))
def d279 (a0 : Ty.T y36) (a1 : Int) : Bool := cond (kJ a1 0 0 a0 0) (true) (cond (kJ a1 0 0 a0 1) (true) (false))
theorem adX (a0 : Ty.T y36) (a1 : Int) : ZB a0 a1 = cond (d279 a0 a1) (some (f279 (bW a0 a1))) none := (pC (pS _) (pC (pS _) (pN _)))
def aaE : Prim := ⟨[.agg [.dat y36 true], oI], fun v => .br (d279 v.1 v.2.1) (.done (f279 (bW v.1 v.2.1))) .no⟩
theorem zh : PO 279 aaE := pK Wi fun v => Eq.trans (b := ZB v.1 v.2.1) (by kernel_rfl) (adX v.1 v.2.1)
def f270 (r : Int) : AV × Sig := (.one (.int .i64 r), [])
def abM := ((E0.p lr).p zh)
def XM (a0 : Ty.T y36) (a1 : Ty.T y27) : Option (AV × Sig) := cond (a1.2.2.1 == (0 : Int)) (cond (!(bt a1.2.2.2.1 0 (IntKind.wrap .i64 (((a0.2.1).length : Int) - (1 : Int))))) (some (.one (.int .i64 (-1)), [])) (some (.one (.int .i64 a1.2.2.2.1), []))) (cond (d279 a0 a1.2.2.1) (cond (decide ((bW a0 a1.2.2.1) < (0 : Int))) (some (.one (.int .i64 (-1)), [])) (if 0 <= (bW a0 a1.2.2.1) then (bc ((a0.1)[(bW a0 a1.2.2.1).toNat]?) (fun x1 => some (.one (.int .i64 x1.2.2.1), []))) else none)) (none))
def lI (a0 : Ty.T y36) (a1 : Ty.T y27) : Int := cond (a1.2.2.1 == (0 : Int)) (cond (!(bt a1.2.2.2.1 0 (IntKind.wrap .i64 (((a0.2.1).length : Int) - (1 : Int))))) ((-1)) (a1.2.2.2.1)) (cond (d279 a0 a1.2.2.1) (cond (decide ((bW a0 a1.2.2.1) < (0 : Int))) ((-1)) (yF ((a0.1)[(bW a0 a1.2.2.1).toNat]?) 0 (fun x1 => x1.2.2.1))) (0))
def d270 (a0 : Ty.T y36) (a1 : Ty.T y27) : Bool := cond (a1.2.2.1 == (0 : Int)) (cond (!(bt a1.2.2.2.1 0 (IntKind.wrap .i64 (((a0.2.1).length : Int) - (1 : Int))))) (true) (true)) (cond (d279 a0 a1.2.2.1) (cond (decide ((bW a0 a1.2.2.1) < (0 : Int))) (true) (decide (0 <= (bW a0 a1.2.2.1)) && (ua ((a0.1)[(bW a0 a1.2.2.1).toNat]?) (fun x1 => true)))) (false))
theorem afR (a0 : Ty.T y36) (a1 : Ty.T y27) : XM a0 a1 = cond (d270 a0 a1) (some (f270 (lI a0 a1))) none := (pC (pC (pS _) (pS _)) (pC (pC (pS _) (pI (pO fun x1 => (pS _)))) (pN _)))
def ac3 : Prim := ⟨[.agg [.dat y36 true], .agg [.dat y27 true]], fun v => .br (d270 v.1 v.2.1) (.done (f270 (lI v.1 v.2.1))) .no⟩
theorem RD : PO 270 ac3 := pK abM fun v => Eq.trans (b := XM v.1 v.2.1) (by kernel_rfl) (afR v.1 v.2.1)
def f333 (r : Bool) : AV × Sig := (.one (.bool r), [])
def acG := (E0.p RD)
def Ir (a0 : Ty.T y36) (a1 : Int) (a2 : Ty.T bS) (a3 : Ty.T y27) {Z : Type} (κ : Bool -> Option Z) : Option Z := cond (d270 a0 a3) (cond ((lI a0 a3) == (-1 : Int)) (κ false) (cond (a2.2.1 == (1 : Int)) (cond ((lI a0 a3) != a1) (κ false) (cond (a2.2.1 == (2 : Int)) (cond ((lI a0 a3) == a1) (κ false) (cond (a2.2.2.2.2.1 == (0 : Int)) (κ true) (κ (a2.2.2.2.2.1 == a3.2.2.1)))) (cond (a2.2.2.2.2.1 == (0 : Int)) (κ true) (κ (a2.2.2.2.2.1 == a3.2.2.1))))) (cond (a2.2.1 == (2 : Int)) (cond ((lI a0 a3) == a1) (κ false) (cond (a2.2.2.2.2.1 == (0 : Int)) (κ true) (κ (a2.2.2.2.2.1 == a3.2.2.1)))) (cond (a2.2.2.2.2.1 == (0 : Int)) (κ true) (κ (a2.2.2.2.2.1 == a3.2.2.1)))))) (none)
def Lh (a0 : Ty.T y36) (a1 : Int) (a2 : Ty.T bS) (a3 : Ty.T y27) : Bool := (Ir a0 a1 a2 a3 some).getD false
def d333 (a0 : Ty.T y36) (a1 : Int) (a2 : Ty.T bS) (a3 : Ty.T y27) : Bool := (Ir a0 a1 a2 a3 some).isSome
def abD : Prim := ⟨[.agg [.dat y36 true], oI, .agg [.dat bS true], .agg [.dat y27 true]], fun v => .br (d333 v.1 v.2.1 v.2.2.1 v.2.2.2.1) (.done (f333 (Lh v.1 v.2.1 v.2.2.1 v.2.2.2.1))) .no⟩
theorem VR : PO 333 abD := pK acG fun v => Eq.trans (b := (Ir v.1 v.2.1 v.2.2.1 v.2.2.2.1 (sm f333))) (by kernel_rfl) (al (show Ir v.1 v.2.1 v.2.2.1 v.2.2.2.1 (sm f333) = (Ir v.1 v.2.1 v.2.2.1 v.2.2.2.1 some).bind _ from by unfold Ir; simp only [bb]))
def f315 (r : (Ty.T y63)) : AV × Sig := (.agg (y63.cells false r), [])
def ab0 := (E0.p zh)
def FT (a0 : Ty.T y36) (a1 : Ty.T y27) {Z : Type} (κ : (Ty.T y63) -> Option Z) : Option Z := cond (d279 a0 a1.2.1) (cond (a1.1 != (1 : Int)) (κ (0, 0, 0, 0, 0, 0, 0, 0, 0, 0, 0, false, false)) (cond (decide ((bW a0 a1.2.1) < (0 : Int))) (κ (0, 0, 0, 0, 0, 0, 0, 0, 0, 0, 0, false, false)) (if 0 <= (bW a0 a1.2.1) then (bc ((a0.1)[(bW a0 a1.2.1).toNat]?) (fun x1 => κ x1)) else none))) (none)
def fj (a0 : Ty.T y36) (a1 : Ty.T y27) : (Ty.T y63) := (FT a0 a1 some).getD (Ty.zero y63)
def d315 (a0 : Ty.T y36) (a1 : Ty.T y27) : Bool := (FT a0 a1 some).isSome
def acs : Prim := ⟨[.agg [.dat y36 true], .agg [.dat y27 true]], fun v => .br (d315 v.1 v.2.1) (.done (f315 (fj v.1 v.2.1))) .no⟩
theorem Sg : PO 315 acs := pK ab0 fun v => Eq.trans (b := (FT v.1 v.2.1 (sm f315))) (by kernel_rfl) (al (show FT v.1 v.2.1 (sm f315) = (FT v.1 v.2.1 some).bind _ from (bC (bC rfl (bC rfl (bI (bO fun x1 => rfl)))) rfl)))
def f334 (r : Bool) : AV × Sig := (.one (.bool r), [])
def aao := (E0.p Sg)
def Za (a0 : Ty.T y36) (a1 : Ty.T bS) (a2 : Ty.T y27) : Option (AV × Sig) := cond (a1.2.2.1 == (0 : Int)) (cond (d315 a0 a2) (some (.one (.bool ((IntKind.wrap .i64 ((BitVec.ofInt (IntKind.bits .i64) (fj a0 a2).2.2.2.2.2.2.2.1 &&& BitVec.ofInt (IntKind.bits .i64) a1.2.2.2.1).toNat : Int)) == a1.2.2.2.1)), [])) (none)) (cond (a1.2.2.1 == a2.2.1) (cond (d315 a0 a2) (some (.one (.bool ((IntKind.wrap .i64 ((BitVec.ofInt (IntKind.bits .i64) (fj a0 a2).2.2.2.2.2.2.2.1 &&& BitVec.ofInt (IntKind.bits .i64) a1.2.2.2.1).toNat : Int)) == a1.2.2.2.1)), [])) (none)) (some (.one (.bool false), [])))
def Hp (a0 : Ty.T y36) (a1 : Ty.T bS) (a2 : Ty.T y27) : Bool := cond (a1.2.2.1 == (0 : Int)) (cond (d315 a0 a2) (((IntKind.wrap .i64 ((BitVec.ofInt (IntKind.bits .i64) (fj a0 a2).2.2.2.2.2.2.2.1 &&& BitVec.ofInt (IntKind.bits .i64) a1.2.2.2.1).toNat : Int)) == a1.2.2.2.1)) (false)) (cond (a1.2.2.1 == a2.2.1) (cond (d315 a0 a2) (((IntKind.wrap .i64 ((BitVec.ofInt (IntKind.bits .i64) (fj a0 a2).2.2.2.2.2.2.2.1 &&& BitVec.ofInt (IntKind.bits .i64) a1.2.2.2.1).toNat : Int)) == a1.2.2.2.1)) (false)) (false))
def d334 (a0 : Ty.T y36) (a1 : Ty.T bS) (a2 : Ty.T y27) : Bool := cond (a1.2.2.1 == (0 : Int)) (cond (d315 a0 a2) (true) (false)) (cond (a1.2.2.1 == a2.2.1) (cond (d315 a0 a2) (true) (false)) (true))
theorem afh (a0 : Ty.T y36) (a1 : Ty.T bS) (a2 : Ty.T y27) : Za a0 a1 a2 = cond (d334 a0 a1 a2) (some (f334 (Hp a0 a1 a2))) none := (pC (pC (pS _) (pN _)) (pC (pC (pS _) (pN _)) (pS _)))
def abI : Prim := ⟨[.agg [.dat y36 true], .agg [.dat bS true], .agg [.dat y27 true]], fun v => .br (d334 v.1 v.2.1 v.2.2.1) (.done (f334 (Hp v.1 v.2.1 v.2.2.1))) .no⟩
theorem Y1 : PO 334 abI := pK aao fun v => Eq.trans (b := Za v.1 v.2.1 v.2.2.1) (by kernel_rfl) (afh v.1 v.2.1 v.2.2.1)
def f312 (r : Bool) : AV × Sig := (.one (.bool r), [])
def afp := ((((E0.p wU).p RW).p VR).p Y1)
def YN (a0 : Ty.T y36) (a1 : Int) (a2 : Ty.T bS) (a3 : Ty.T y27) : Option (AV × Sig) := cond (tU a2) (cond (c8 a3) (cond (a2.1 == a3.1) (cond (d333 a0 a1 a2 a3) (cond (Lh a0 a1 a2 a3) (cond (d334 a0 a2 a3) (cond (Hp a0 a2 a3) (cond (decide (a3.2.2.2.2.1 ≥ a2.2.2.2.2.2.1)) (cond (a2.2.2.2.2.2.2 == (0 : Int)) (some (.one (.bool true), [])) (some (.one (.bool (a2.2.2.2.2.2.2 == a3.2.2.2.2.2.1)), []))) (some (.one (.bool false), []))) (some (.one (.bool false), []))) (none)) (some (.one (.bool false), []))) (none)) (some (.one (.bool false), []))) (some (.one (.bool false), []))) (some (.one (.bool false), []))
def Lr (a0 : Ty.T y36) (a1 : Int) (a2 : Ty.T bS) (a3 : Ty.T y27) : Bool := cond (tU a2) (cond (c8 a3) (cond (a2.1 == a3.1) (cond (d333 a0 a1 a2 a3) (cond (Lh a0 a1 a2 a3) (cond (d334 a0 a2 a3) (cond (Hp a0 a2 a3) (cond (decide (a3.2.2.2.2.1 ≥ a2.2.2.2.2.2.1)) (cond (a2.2.2.2.2.2.2 == (0 : Int)) (true) ((a2.2.2.2.2.2.2 == a3.2.2.2.2.2.1))) (false)) (false)) (false)) (false)) (false)) (false)) (false)) (false)
def d312 (a0 : Ty.T y36) (a1 : Int) (a2 : Ty.T bS) (a3 : Ty.T y27) : Bool := cond (tU a2) (cond (c8 a3) (cond (a2.1 == a3.1) (cond (d333 a0 a1 a2 a3) (cond (Lh a0 a1 a2 a3) (cond (d334 a0 a2 a3) (cond (Hp a0 a2 a3) (cond (decide (a3.2.2.2.2.1 ≥ a2.2.2.2.2.2.1)) (cond (a2.2.2.2.2.2.2 == (0 : Int)) (true) (true)) (true)) (true)) (false)) (true)) (false)) (true)) (true)) (true)
theorem abU (a0 : Ty.T y36) (a1 : Int) (a2 : Ty.T bS) (a3 : Ty.T y27) : YN a0 a1 a2 a3 = cond (d312 a0 a1 a2 a3) (some (f312 (Lr a0 a1 a2 a3))) none := (pC (pC (pC (pC (pC (pC (pC (pC (pC (pS _) (pS _)) (pS _)) (pS _)) (pN _)) (pS _)) (pN _)) (pS _)) (pS _)) (pS _))
def adp : Prim := ⟨[.agg [.dat y36 true], oI, .agg [.dat bS true], .agg [.dat y27 true]], fun v => .br (d312 v.1 v.2.1 v.2.2.1 v.2.2.2.1) (.done (f312 (Lr v.1 v.2.1 v.2.2.1 v.2.2.2.1))) .no⟩
theorem XO : PO 312 adp := pK afp fun v => Eq.trans (b := YN v.1 v.2.1 v.2.2.1 v.2.2.2.1) (by kernel_rfl) (abU v.1 v.2.1 v.2.2.1 v.2.2.2.1)
def f269 (r : Bool) : AV × Sig := (.one (.bool r), [])
def adT := (((((E0.p PF).p W9).p Zb).p X2).p XO)
def WQ (a0 : Ty.T y36) (a1 : Ty.T aq) (a2 : Ty.T y27) : Option (AV × Sig) := cond (d242 a1) (cond (ga a1) (cond (Lv a1 a0.2.2.2) (cond (KB a1 a2) (cond (d311 a0 a1.2.1 a1.2.2.2.2.2.1) (cond (La a0 a1.2.1 a1.2.2.2.2.2.1) (cond (d312 a0 a1.2.1 a1.2.2.2.2.1 a2) (some (.one (.bool (Lr a0 a1.2.1 a1.2.2.2.2.1 a2)), [])) (none)) (some (.one (.bool false), []))) (none)) (some (.one (.bool false), []))) (some (.one (.bool false), []))) (some (.one (.bool false), []))) (none)
def pd (a0 : Ty.T y36) (a1 : Ty.T aq) (a2 : Ty.T y27) : Bool := cond (d242 a1) (cond (ga a1) (cond (Lv a1 a0.2.2.2) (cond (KB a1 a2) (cond (d311 a0 a1.2.1 a1.2.2.2.2.2.1) (cond (La a0 a1.2.1 a1.2.2.2.2.2.1) (cond (d312 a0 a1.2.1 a1.2.2.2.2.1 a2) ((Lr a0 a1.2.1 a1.2.2.2.2.1 a2)) (false)) (false)) (false)) (false)) (false)) (false)) (false)
def d269 (a0 : Ty.T y36) (a1 : Ty.T aq) (a2 : Ty.T y27) : Bool := cond (d242 a1) (cond (ga a1) (cond (Lv a1 a0.2.2.2) (cond (KB a1 a2) (cond (d311 a0 a1.2.1 a1.2.2.2.2.2.1) (cond (La a0 a1.2.1 a1.2.2.2.2.2.1) (cond (d312 a0 a1.2.1 a1.2.2.2.2.1 a2) (true) (false)) (true)) (false)) (true)) (true)) (true)) (false)
theorem abR (a0 : Ty.T y36) (a1 : Ty.T aq) (a2 : Ty.T y27) : WQ a0 a1 a2 = cond (d269 a0 a1 a2) (some (f269 (pd a0 a1 a2))) none := (pC (pC (pC (pC (pC (pC (pC (pS _) (pN _)) (pS _)) (pN _)) (pS _)) (pS _)) (pS _)) (pN _))
def adH : Prim := ⟨[.agg [.dat y36 true], .agg [.dat aq true], .agg [.dat y27 true]], fun v => .br (d269 v.1 v.2.1 v.2.2.1) (.done (f269 (pd v.1 v.2.1 v.2.2.1))) .no⟩
theorem RR : PO 269 adH := pK adT fun v => Eq.trans (b := WQ v.1 v.2.1 v.2.2.1) (by kernel_rfl) (abR v.1 v.2.1 v.2.2.1)
def f243 (r : (List (Ty.T (.int .i64)))) : AV × Sig := (.one (.sl 4096), [(4096, .arr 3 (.int .i64) r false)])
def VU := ((E0.p RR).p XT)
@[reducible] def Bm : List SP := .und :: .one (.dat (.sl 109 aq) true) :: .und :: .one (.dat (.sl 3 (.int .i64)) true) :: .one (.ptr 4 0) :: .und :: .one (.ptr 6 0) :: .und :: .one (.dat (.sl 3 (.int .i64)) false) :: .one (.own 12) :: oI :: oI :: U32 (U16 (U4 (U2 (.und :: []))))
@[reducible] def Bk : List (Nat × GP) := [(4, .box 37 [.dat y36 true]), (6, .box 41 [.dat y27 false]), (12, .arr 3 (.int .i64) false)]
@[reducible] def pt : Type := (List (Ty.T aq)) × (List (Ty.T (.int .i64))) × (List (Ty.T (.int .i64))) × Int × Int × (Ty.T y36) × (Ty.T y27) × (List (Ty.T (.int .i64))) × Unit
def rD (v : pt) {Z : Type} (κ : Nat × pt -> Option Z) : Option Z := cond (decide (v.2.2.2.2.1 < ((v.1).length : Int))) (if 0 <= v.2.2.2.2.1 then (bc ((v.1)[(v.2.2.2.2.1).toNat]?) (fun x1 => cond (d300 v.2.1 x1.1) (cond (Oj v.2.1 x1.1) (κ (0, (v.1, v.2.1, v.2.2.1, v.2.2.2.1, IntKind.wrap .i64 (v.2.2.2.2.1 + (1 : Int)), v.2.2.2.2.2.1, v.2.2.2.2.2.2.1, v.2.2.2.2.2.2.2.1, ()))) (if 0 <= v.2.2.2.2.1 then (bc ((v.1)[(v.2.2.2.2.1).toNat]?) (fun x2 => cond (d269 v.2.2.2.2.2.1 x2 v.2.2.2.2.2.2.1) (cond (!(pd v.2.2.2.2.2.1 x2 v.2.2.2.2.2.2.1)) (κ (0, (v.1, v.2.1, v.2.2.1, v.2.2.2.1, IntKind.wrap .i64 (v.2.2.2.2.1 + (1 : Int)), v.2.2.2.2.2.1, v.2.2.2.2.2.2.1, v.2.2.2.2.2.2.2.1, ()))) (if 0 <= v.2.2.2.2.1 then (bc ((v.1)[(v.2.2.2.2.1).toNat]?) (fun x3 => cond (decide (x3.2.2.2.1 > v.2.2.2.1)) (κ (0, (v.1, v.2.1, v.2.2.1, v.2.2.2.1, IntKind.wrap .i64 (v.2.2.2.2.1 + (1 : Int)), v.2.2.2.2.2.1, v.2.2.2.2.2.2.1, v.2.2.2.2.2.2.2.1, ()))) (if 0 <= v.2.2.2.2.1 then (bc ((v.1)[(v.2.2.2.2.1).toNat]?) (fun x4 => cond (decide (x4.2.2.2.1 < v.2.2.2.1)) (if 0 <= v.2.2.2.2.1 then (bc ((v.1)[(v.2.2.2.2.1).toNat]?) (fun x5 => if 0 <= v.2.2.2.2.1 then (bc ((v.1)[(v.2.2.2.2.1).toNat]?) (fun x6 => if ([] ++ [x6.1] : List (Ty.T (.int .i64))).length * 8 <= 140737488351232 then (κ (0, (v.1, v.2.1, v.2.2.1, x5.2.2.2.1, IntKind.wrap .i64 (v.2.2.2.2.1 + (1 : Int)), v.2.2.2.2.2.1, v.2.2.2.2.2.2.1, [] ++ [x6.1], ()))) else none)) else none)) else none) (if 0 <= v.2.2.2.2.1 then (bc ((v.1)[(v.2.2.2.2.1).toNat]?) (fun x7 => if (v.2.2.2.2.2.2.2.1 ++ [x7.1] : List (Ty.T (.int .i64))).length * 8 <= 140737488351232 then (κ (0, (v.1, v.2.1, v.2.2.1, v.2.2.2.1, IntKind.wrap .i64 (v.2.2.2.2.1 + (1 : Int)), v.2.2.2.2.2.1, v.2.2.2.2.2.2.1, v.2.2.2.2.2.2.2.1 ++ [x7.1], ()))) else none)) else none))) else none))) else none)) (none))) else none)) (none))) else none) (κ (1, (v.1, v.2.1, v.2.2.1, v.2.2.2.1, v.2.2.2.2.1, v.2.2.2.2.2.1, v.2.2.2.2.2.2.1, v.2.2.2.2.2.2.2.1, ())))
def q6 (v : pt) : Option (Nat × pt) := rD v some
def u7 (v : pt) : Nat := v.1.length + v.2.1.length + v.2.2.1.length + v.2.2.2.1.toNat + v.2.2.2.2.1.toNat + v.2.2.2.2.2.1.1.length + v.2.2.2.2.2.1.2.1.length + v.2.2.2.2.2.2.2.1.length + 100
def Co (h0 : List (Ty.T aq)) (h1 : List (Ty.T (.int .i64))) (h2 : List (Ty.T (.int .i64))) (h3 : Int) (h4 : Int) (h5 : Ty.T y36) (h6 : Ty.T y27) (h7 : List (Ty.T (.int .i64))) (c : Nat) : Bool := iK q6 u7 (h0, h1, h2, h3, h4, h5, h6, h7, ()) c
def H6 (h0 : List (Ty.T aq)) (h1 : List (Ty.T (.int .i64))) (h2 : List (Ty.T (.int .i64))) (h3 : Int) (h4 : Int) (h5 : Ty.T y36) (h6 : Ty.T y27) (h7 : List (Ty.T (.int .i64))) : pt := iW q6 u7 (h0, h1, h2, h3, h4, h5, h6, h7, ())
def Na (v : pt) : aP (Ex × St) := bz q6 (u7 v) v (ax Bm Bk) [.exit 0] 0
theorem UF : bw Tryz.prog (aO (pb 5 23) (ae Tryz.f243)) Bm Bk Na := aE (lt := .none) VU.ok aj (ag.no _) fun n v K => Eq.trans (b := rD v (dt _ _ _ _ _ K)) (by kernel_rfl) (show rD v _ = (rD v some).bind _ from (bC (bI (bO fun x1 => (bC (bC rfl (bI (bO fun x2 => (bC (bC rfl (bI (bO fun x3 => (bC rfl (bI (bO fun x4 => (bC (bI (bO fun x5 => (bI (bO fun x6 => (bI rfl))))) (bI (bO fun x7 => (bI rfl)))))))))) rfl)))) rfl))) rfl))
def Wo := VU.l (g := 243) (t := (cD (pb 5 23) (ae Tryz.f243) .none (.sum Bm Bk Na))) (aZ Tryz.func243 (ag.put (az (by kernel_rfl)) (ag.no _) UF))
def Zk (a0 : Ty.T y36) (a1 : List (Ty.T aq)) (a2 : Ty.T y27) (a3 : List (Ty.T (.int .i64))) : Option (AV × Sig) := cond (Co a1 a3 [] 5 0 a0 a2 [] 0) (some (.one (.sl 4096), [(4096, .arr 3 (.int .i64) (H6 a1 a3 [] 5 0 a0 a2 []).2.2.2.2.2.2.2.1 false)])) (none)
def GK (a0 : Ty.T y36) (a1 : List (Ty.T aq)) (a2 : Ty.T y27) (a3 : List (Ty.T (.int .i64))) : (List (Ty.T (.int .i64))) := cond (Co a1 a3 [] 5 0 a0 a2 [] 0) ((H6 a1 a3 [] 5 0 a0 a2 []).2.2.2.2.2.2.2.1) ([])
def d243 (a0 : Ty.T y36) (a1 : List (Ty.T aq)) (a2 : Ty.T y27) (a3 : List (Ty.T (.int .i64))) : Bool := cond (Co a1 a3 [] 5 0 a0 a2 [] 0) (true) (false)
theorem abY (a0 : Ty.T y36) (a1 : List (Ty.T aq)) (a2 : Ty.T y27) (a3 : List (Ty.T (.int .i64))) : Zk a0 a1 a2 a3 = cond (d243 a0 a1 a2 a3) (some (f243 (GK a0 a1 a2 a3))) none := (pC (pS _) (pN _))
def afY : Prim := ⟨[.agg [.dat y36 true], .one (.dat (.sl 109 aq) true), .agg [.dat y27 true], .one (.dat (.sl 3 (.int .i64)) true)], fun v => .br (d243 v.1 v.2.1 v.2.2.1 v.2.2.2.1) (.done (f243 (GK v.1 v.2.1 v.2.2.1 v.2.2.2.1))) .no⟩
theorem agk : PO 243 afY := pK Wo fun v => Eq.trans (b := Zk v.1 v.2.1 v.2.2.1 v.2.2.2.1) (by kernel_rfl) (abY v.1 v.2.1 v.2.2.1 v.2.2.2.1)
def f76 (r : (List (Ty.T (.int .i64)))) : AV × Sig := (.one (.sl 4096), [(4096, .arr 3 (.int .i64) r false)])
def E76 := ((E0.p VJ).p aey)
@[reducible] def Hc : List SP := U2 (.und :: .one (.dat (.sl 3 (.int .i64)) true) :: .one (.ptr 4 0) :: .und :: .one (.ptr 6 0) :: .und :: .one (.dat (.sl 3 (.int .i64)) false) :: .one (.own 13) :: oI :: U2 (.und :: .one (.dat (.sl 109 aq) true) :: oI :: oI :: U32 (U4 (U2 ([])))))
@[reducible] def Iq : List (Nat × GP) := [(4, .box 37 [.dat y36 true]), (6, .box 41 [.dat y27 false]), (13, .arr 3 (.int .i64) false)]
@[reducible] def xC : Type := (List (Ty.T (.int .i64))) × (List (Ty.T (.int .i64))) × Int × (List (Ty.T aq)) × Int × Int × (Ty.T y36) × (Ty.T y27) × (List (Ty.T (.int .i64))) × Unit
def uX (v : xC) {Z : Type} (κ : Nat × xC -> Option Z) : Option Z := cond (decide (v.2.2.2.2.2.1 < v.2.2.2.2.1)) (if 0 <= v.2.2.2.2.2.1 then (bc ((v.2.2.2.1)[(v.2.2.2.2.2.1).toNat]?) (fun x1 => cond (d75 v.1 x1.1) (cond (v75 v.1 x1.1) (κ (0, (v.1, v.2.1, v.2.2.1, v.2.2.2.1, v.2.2.2.2.1, IntKind.wrap .i64 (v.2.2.2.2.2.1 + (1 : Int)), v.2.2.2.2.2.2.1, v.2.2.2.2.2.2.2.1, v.2.2.2.2.2.2.2.2.1, ()))) (cond (d182 v.2.2.2.2.2.2.1 x1 v.2.2.2.2.2.2.2.1) (cond (!(Pj v.2.2.2.2.2.2.1 x1 v.2.2.2.2.2.2.2.1)) (κ (0, (v.1, v.2.1, v.2.2.1, v.2.2.2.1, v.2.2.2.2.1, IntKind.wrap .i64 (v.2.2.2.2.2.1 + (1 : Int)), v.2.2.2.2.2.2.1, v.2.2.2.2.2.2.2.1, v.2.2.2.2.2.2.2.2.1, ()))) (cond (((v.2.2.2.2.2.2.2.2.1).length : Int) == (0 : Int)) (if (0 : Int) <= ((v.2.2.2.2.2.2.2.2.1).length : Int) then (cond (x1.2.2.2.1 == x1.2.2.2.1) (if ((((v.2.2.2.2.2.2.2.2.1).drop 0).take 0) ++ [x1.1] : List (Ty.T (.int .i64))).length * 8 <= 140737488351232 then (κ (0, (v.1, v.2.1, x1.2.2.2.1, v.2.2.2.1, v.2.2.2.2.1, IntKind.wrap .i64 (v.2.2.2.2.2.1 + (1 : Int)), v.2.2.2.2.2.2.1, v.2.2.2.2.2.2.2.1, (((v.2.2.2.2.2.2.2.2.1).drop 0).take 0) ++ [x1.1], ()))) else none) (κ (0, (v.1, v.2.1, x1.2.2.2.1, v.2.2.2.1, v.2.2.2.2.1, IntKind.wrap .i64 (v.2.2.2.2.2.1 + (1 : Int)), v.2.2.2.2.2.2.1, v.2.2.2.2.2.2.2.1, v.2.2.2.2.2.2.2.2.1.take 0, ())))) else none) (cond (decide (x1.2.2.2.1 < v.2.2.1)) (if (0 : Int) <= ((v.2.2.2.2.2.2.2.2.1).length : Int) then (cond (x1.2.2.2.1 == x1.2.2.2.1) (if ((((v.2.2.2.2.2.2.2.2.1).drop 0).take 0) ++ [x1.1] : List (Ty.T (.int .i64))).length * 8 <= 140737488351232 then (κ (0, (v.1, v.2.1, x1.2.2.2.1, v.2.2.2.1, v.2.2.2.2.1, IntKind.wrap .i64 (v.2.2.2.2.2.1 + (1 : Int)), v.2.2.2.2.2.2.1, v.2.2.2.2.2.2.2.1, (((v.2.2.2.2.2.2.2.2.1).drop 0).take 0) ++ [x1.1], ()))) else none) (κ (0, (v.1, v.2.1, x1.2.2.2.1, v.2.2.2.1, v.2.2.2.2.1, IntKind.wrap .i64 (v.2.2.2.2.2.1 + (1 : Int)), v.2.2.2.2.2.2.1, v.2.2.2.2.2.2.2.1, v.2.2.2.2.2.2.2.2.1.take 0, ())))) else none) (cond (x1.2.2.2.1 == v.2.2.1) (if (v.2.2.2.2.2.2.2.2.1 ++ [x1.1] : List (Ty.T (.int .i64))).length * 8 <= 140737488351232 then (κ (0, (v.1, v.2.1, v.2.2.1, v.2.2.2.1, v.2.2.2.2.1, IntKind.wrap .i64 (v.2.2.2.2.2.1 + (1 : Int)), v.2.2.2.2.2.2.1, v.2.2.2.2.2.2.2.1, v.2.2.2.2.2.2.2.2.1 ++ [x1.1], ()))) else none) (κ (0, (v.1, v.2.1, v.2.2.1, v.2.2.2.1, v.2.2.2.2.1, IntKind.wrap .i64 (v.2.2.2.2.2.1 + (1 : Int)), v.2.2.2.2.2.2.1, v.2.2.2.2.2.2.2.1, v.2.2.2.2.2.2.2.2.1, ()))))))) (none))) (none))) else none) (κ (1, (v.1, v.2.1, v.2.2.1, v.2.2.2.1, v.2.2.2.2.1, v.2.2.2.2.2.1, v.2.2.2.2.2.2.1, v.2.2.2.2.2.2.2.1, v.2.2.2.2.2.2.2.2.1, ())))
def vg (v : xC) : Option (Nat × xC) := uX v some
def DJ (v : xC) : Nat := v.1.length + v.2.1.length + v.2.2.1.toNat + v.2.2.2.1.length + v.2.2.2.2.1.toNat + v.2.2.2.2.2.1.toNat + v.2.2.2.2.2.2.1.1.length + v.2.2.2.2.2.2.1.2.1.length + v.2.2.2.2.2.2.2.2.1.length + 100
def IL (h0 : List (Ty.T (.int .i64))) (h1 : List (Ty.T (.int .i64))) (h2 : Int) (h3 : List (Ty.T aq)) (h4 : Int) (h5 : Int) (h6 : Ty.T y36) (h7 : Ty.T y27) (h8 : List (Ty.T (.int .i64))) (c : Nat) : Bool := iK vg DJ (h0, h1, h2, h3, h4, h5, h6, h7, h8, ()) c
def NJ (h0 : List (Ty.T (.int .i64))) (h1 : List (Ty.T (.int .i64))) (h2 : Int) (h3 : List (Ty.T aq)) (h4 : Int) (h5 : Int) (h6 : Ty.T y36) (h7 : Ty.T y27) (h8 : List (Ty.T (.int .i64))) : xC := iW vg DJ (h0, h1, h2, h3, h4, h5, h6, h7, h8, ())
def RC (v : xC) : aP (Ex × St) := bz vg (DJ v) v (ax Hc Iq) [.exit 0] 0
theorem Ws : bw Tryz.prog (aO (pb 5 23) (ae Tryz.f76)) Hc Iq RC := aE (lt := .none) E76.ok aj (ag.no _) fun n v K => Eq.trans (b := uX v (dt _ _ _ _ _ K)) (by kernel_rfl) (show uX v _ = (uX v some).bind _ from (bC (bI (bO fun x1 => (bC (bC rfl (bC (bC rfl (bC (bI (bC (bI rfl) rfl)) (bC (bI (bC (bI rfl) rfl)) (bC (bI rfl) rfl)))) rfl)) rfl))) rfl))
def afa := E76.l (g := 76) (t := (cD (pb 5 23) (ae Tryz.f76) .none (.sum Hc Iq RC))) (aZ Tryz.func76 (ag.put (az (by kernel_rfl)) (ag.no _) Ws))
def u76 (a0 : Ty.T y36) (a1 : List (Ty.T aq)) (a2 : Ty.T y27) (a3 : List (Ty.T (.int .i64))) : Option (AV × Sig) := cond (IL a3 [] 0 a1 ((a1).length : Int) 0 a0 a2 [] 0) (some (.one (.sl 4096), [(4096, .arr 3 (.int .i64) (NJ a3 [] 0 a1 ((a1).length : Int) 0 a0 a2 []).2.2.2.2.2.2.2.2.1 false)])) (none)
def v76 (a0 : Ty.T y36) (a1 : List (Ty.T aq)) (a2 : Ty.T y27) (a3 : List (Ty.T (.int .i64))) : (List (Ty.T (.int .i64))) := cond (IL a3 [] 0 a1 ((a1).length : Int) 0 a0 a2 [] 0) ((NJ a3 [] 0 a1 ((a1).length : Int) 0 a0 a2 []).2.2.2.2.2.2.2.2.1) ([])
def d76 (a0 : Ty.T y36) (a1 : List (Ty.T aq)) (a2 : Ty.T y27) (a3 : List (Ty.T (.int .i64))) : Bool := cond (IL a3 [] 0 a1 ((a1).length : Int) 0 a0 a2 [] 0) (true) (false)
theorem o76 (a0 : Ty.T y36) (a1 : List (Ty.T aq)) (a2 : Ty.T y27) (a3 : List (Ty.T (.int .i64))) : u76 a0 a1 a2 a3 = cond (d76 a0 a1 a2 a3) (some (f76 (v76 a0 a1 a2 a3))) none := (pC (pS _) (pN _))
def p76 : Prim := ⟨[.agg [.dat y36 true], .one (.dat (.sl 109 aq) true), .agg [.dat y27 true], .one (.dat (.sl 3 (.int .i64)) true)], fun v => .br (d76 v.1 v.2.1 v.2.2.1 v.2.2.2.1) (.done (f76 (v76 v.1 v.2.1 v.2.2.1 v.2.2.2.1))) .no⟩
theorem agm : PO 76 p76 := pK afa fun v => Eq.trans (b := u76 v.1 v.2.1 v.2.2.1 v.2.2.2.1) (by kernel_rfl) (o76 v.1 v.2.1 v.2.2.1 v.2.2.2.1)
end
end Go.Proofs.YtahlaccdpmddbaaGreat.Vm
