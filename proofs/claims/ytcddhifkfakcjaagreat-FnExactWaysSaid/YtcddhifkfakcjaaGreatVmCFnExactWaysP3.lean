/- Contracts. No condition. -/
import Derived.Test.YtcddhifkfakcjaaGreatVmCFnExactWaysP2
import Derived.Test.YtcddhifkfakcjaaGreatVmLibFour
namespace Go.Proofs.YtcddhifkfakcjaaGreat.Vm
open Go Go.Proofs.YtcddhifkfakcjaaGreat.Lib
noncomputable section
set_option maxRecDepth 100000
set_option linter.unusedVariables false
def f286 (r : Int) : AV × Sig := (.one (.int .i64 r),[])
def SC := E0
@[reducible] def yK : List SP := .one (.dat (.sl 3 (.int .i64)) true) :: oI :: U2 (oI :: U2 (oI :: oI :: U8 (U2 ([]))))
@[reducible] def ma : Type := (List (Ty.T (.int .i64))) × Int × Int × Int × Int × Unit
def oa (v : ma) {Z : Type} (κ : Nat × ma -> Option Z) : Option Z := cond (decide (v.2.2.2.2.1 < v.2.2.2.1)) (if 0 <= v.2.2.2.2.1 then (ay ((v.1)[(v.2.2.2.2.1).toNat]?) (fun x1 => cond (v.2.1 == x1) (κ (1,(v.1,v.2.1,v.2.2.2.2.1,v.2.2.2.1,v.2.2.2.2.1,()))) (κ (0,(v.1,v.2.1,v.2.2.1,v.2.2.2.1,IntKind.wrap .i64 (v.2.2.2.2.1 + (1 : Int)),()))))) else none) (κ (2,(v.1,v.2.1,v.2.2.1,v.2.2.2.1,v.2.2.2.2.1,())))
def oc (v : ma) : Option (Nat × ma) := oa v some
def re (v : ma) : Nat := v.1.length + v.2.1.toNat + v.2.2.1.toNat + v.2.2.2.1.toNat + v.2.2.2.2.1.toNat + 100
def ja (h0 : List (Ty.T (.int .i64))) (h1 : Int) (h2 : Int) (h3 : Int) (h4 : Int) (c : Nat) : Bool := iK oc re (h0,h1,h2,h3,h4,()) c
def D5 (h0 : List (Ty.T (.int .i64))) (h1 : Int) (h2 : Int) (h3 : Int) (h4 : Int) : ma := iW oc re (h0,h1,h2,h3,h4,())
def KQ (v : ma) : aL (Ex × St) := aM oc (re v) v (ar yK aB) [.ret,.exit 0] 0
theorem NW : aH Tryz.prog (aw (pb 3 5) (ab Tryz.f286)) yK aB KQ := ag (lt := .none) SC.ok ak (af.no _) fun n v K => et (oa v (bL _ _ _ _ _ K)) (by kernel_rfl) (show oa v _ = (oa v some).bind _ from (bC (bI (bO fun x1 => (bC rfl rfl))) rfl))
def R5 := SC.l (g := 286) (t := (a9 (pb 3 5) (ab Tryz.f286) .none (.sum yK aB KQ))) (aC Tryz.func286 (af.put (aA (by kernel_rfl)) (af.no _) NW))
def Uu (a0 : List (Ty.T (.int .i64))) (a1 : Int) : Option (AV × Sig) := cond (ja a0 a1 0 ((a0).length : Int) 0 0) (some (.one (.int .i64 (D5 a0 a1 0 ((a0).length : Int) 0).2.2.1),[])) (cond (ja a0 a1 0 ((a0).length : Int) 0 1) (some (.one (.int .i64 (-1)),[])) (none))
def FK (a0 : List (Ty.T (.int .i64))) (a1 : Int) : Int := cond (ja a0 a1 0 ((a0).length : Int) 0 0) ((D5 a0 a1 0 ((a0).length : Int) 0).2.2.1) (cond (ja a0 a1 0 ((a0).length : Int) 0 1) ((-1)) (0))
def d286 (a0 : List (Ty.T (.int .i64))) (a1 : Int) : Bool := cond (ja a0 a1 0 ((a0).length : Int) 0 0) (true) (cond (ja a0 a1 0 ((a0).length : Int) 0 1) (true) (false))
theorem abe (a0 : List (Ty.T (.int .i64))) (a1 : Int) : Uu a0 a1 = cond (d286 a0 a1) (some (f286 (FK a0 a1))) none := (pC (pS _) (pC (pS _) (pN _)))
def Yv : Prim := ⟨[.one (.dat (.sl 3 (.int .i64)) true),oI],fun v => .br (d286 v.1 v.2.1) (.done (f286 (FK v.1 v.2.1))) .no⟩
theorem UI : PO 286 Yv := pK R5 fun v => et (Uu v.1 v.2.1) (by kernel_rfl) (abe v.1 v.2.1)
def f262 (r : Bool) : AV × Sig := (.one (.bool r),[])
def Wg := (E0.p UI)
def QJ (a0 : List (Ty.T (.int .i64))) (a1 : Int) : Option (AV × Sig) := cond (d286 a0 a1) (some (.one (.bool (decide ((FK a0 a1) ≥ (0 : Int)))),[])) (none)
def ID (a0 : List (Ty.T (.int .i64))) (a1 : Int) : Bool := cond (d286 a0 a1) (decide ((FK a0 a1) ≥ (0 : Int))) (false)
def d262 (a0 : List (Ty.T (.int .i64))) (a1 : Int) : Bool := cond (d286 a0 a1) (true) (false)
theorem XL (a0 : List (Ty.T (.int .i64))) (a1 : Int) : QJ a0 a1 = cond (d262 a0 a1) (some (f262 (ID a0 a1))) none := (pC (pS _) (pN _))
def acr : Prim := ⟨[.one (.dat (.sl 3 (.int .i64)) true),oI],fun v => .br (d262 v.1 v.2.1) (.done (f262 (ID v.1 v.2.1))) .no⟩
theorem QQ : PO 262 acr := pK Wg fun v => et (QJ v.1 v.2.1) (by kernel_rfl) (XL v.1 v.2.1)
def f227 (r : Bool) : AV × Sig := (.one (.bool r),[])
def Zf := (E0.p QQ)
def Tm (a0 : List (Ty.T (.int .i64))) (a1 : Int) : Option (AV × Sig) := cond (d262 a0 a1) (some (.one (.bool (ID a0 a1)),[])) (none)
def Iv (a0 : List (Ty.T (.int .i64))) (a1 : Int) : Bool := cond (d262 a0 a1) ((ID a0 a1)) (false)
def d227 (a0 : List (Ty.T (.int .i64))) (a1 : Int) : Bool := cond (d262 a0 a1) (true) (false)
theorem Zh (a0 : List (Ty.T (.int .i64))) (a1 : Int) : Tm a0 a1 = cond (d227 a0 a1) (some (f227 (Iv a0 a1))) none := (pC (pS _) (pN _))
def ab3 : Prim := ⟨[.one (.dat (.sl 3 (.int .i64)) true),oI],fun v => .br (d227 v.1 v.2.1) (.done (f227 (Iv v.1 v.2.1))) .no⟩
theorem Uz : PO 227 ab3 := pK Zf fun v => et (Tm v.1 v.2.1) (by kernel_rfl) (Zh v.1 v.2.1)
def f263 (r : Bool) : AV × Sig := (.one (.bool r),[])
def XB := E0
def S1 (a0 : Ty.T aa) (a1 : Int) : Option (AV × Sig) := cond (a0.2.2.2.2.2.2.2.2 != (0 : Int)) (cond (a0.2.2.2.2.2.2.2.1 == (-1 : Int)) (some (.one (.bool true),[])) (some (.one (.bool (decide (a0.2.2.2.2.2.2.2.1 ≥ a1))),[]))) (some (.one (.bool false),[]))
def FI (a0 : Ty.T aa) (a1 : Int) : Bool := cond (a0.2.2.2.2.2.2.2.2 != (0 : Int)) (cond (a0.2.2.2.2.2.2.2.1 == (-1 : Int)) (true) (decide (a0.2.2.2.2.2.2.2.1 ≥ a1))) (false)
theorem Z3 (a0 : Ty.T aa) (a1 : Int) : S1 a0 a1 = some (f263 (FI a0 a1)) := (tC (tC rfl rfl) rfl)
def Zb : Prim := ⟨[.agg [.dat aa true],oI],fun v => .done (f263 (FI v.1 v.2.1))⟩
theorem UW : PO 263 Zb := pK XB fun v => et (S1 v.1 v.2.1) (by kernel_rfl) (Z3 v.1 v.2.1)
def f264 (r : Bool) : AV × Sig := (.one (.bool r),[])
def ZG := E0
def UF (a0 : Ty.T aa) (a1 : Ty.T y48) : Option (AV × Sig) := cond (a0.2.2.2.1 != (0 : Int)) (some (.one (.bool true),[])) (cond (a0.2.2.1 == a1.2.1) (some (.one (.bool true),[])) (some (.one (.bool (a0.2.2.1 == a1.2.2.1)),[])))
def Gr (a0 : Ty.T aa) (a1 : Ty.T y48) : Bool := cond (a0.2.2.2.1 != (0 : Int)) (true) (cond (a0.2.2.1 == a1.2.1) (true) ((a0.2.2.1 == a1.2.2.1)))
theorem YV (a0 : Ty.T aa) (a1 : Ty.T y48) : UF a0 a1 = some (f264 (Gr a0 a1)) := (tC rfl (tC rfl rfl))
def Wq : Prim := ⟨[.agg [.dat aa true],.agg [.dat y48 true]],fun v => .done (f264 (Gr v.1 v.2.1))⟩
theorem UD : PO 264 Wq := pK ZG fun v => et (UF v.1 v.2.1) (by kernel_rfl) (YV v.1 v.2.1)
def f287 (r : (List (Ty.T (.int .i64)))) : AV × Sig := (.one (.sl 4096),[(4096,.arr 3 (.int .i64) r false)])
def Uo := E0
@[reducible] def yJ : List SP := .und :: oI :: U2 (.one (.dat (.sl 3 (.int .i64)) false) :: .one (.own 8) :: U4 (.one (.dat (.sl 180 ah) true) :: oI :: oI :: U16 (U4 (U2 (.und :: [])))))
@[reducible] def wE : List (Nat × GP) := [(8,.arr 3 (.int .i64) false)]
@[reducible] def lQ : Type := Int × (List (Ty.T (.int .i64))) × (List (Ty.T ah)) × Int × Int × (List (Ty.T (.int .i64))) × Unit
def pW (v : lQ) {Z : Type} (κ : Nat × lQ -> Option Z) : Option Z := cond (decide (v.2.2.2.2.1 < v.2.2.2.1)) (if 0 <= v.2.2.2.2.1 then (ay ((v.2.2.1)[(v.2.2.2.2.1).toNat]?) (fun x1 => cond (x1.2.2.2.1 == (2 : Int)) (cond (v.1 == (-1 : Int)) (if (v.2.2.2.2.2.1 ++ [x1.1] : List (Ty.T (.int .i64))).length * 8 <= 140737488351232 then (κ (0,(v.1,v.2.1,v.2.2.1,v.2.2.2.1,IntKind.wrap .i64 (v.2.2.2.2.1 + (1 : Int)),v.2.2.2.2.2.1 ++ [x1.1],()))) else none) (cond (x1.2.2.1 == v.1) (if (v.2.2.2.2.2.1 ++ [x1.1] : List (Ty.T (.int .i64))).length * 8 <= 140737488351232 then (κ (0,(v.1,v.2.1,v.2.2.1,v.2.2.2.1,IntKind.wrap .i64 (v.2.2.2.2.1 + (1 : Int)),v.2.2.2.2.2.1 ++ [x1.1],()))) else none) (κ (0,(v.1,v.2.1,v.2.2.1,v.2.2.2.1,IntKind.wrap .i64 (v.2.2.2.2.1 + (1 : Int)),v.2.2.2.2.2.1,()))))) (κ (0,(v.1,v.2.1,v.2.2.1,v.2.2.2.1,IntKind.wrap .i64 (v.2.2.2.2.1 + (1 : Int)),v.2.2.2.2.2.1,()))))) else none) (κ (1,(v.1,v.2.1,v.2.2.1,v.2.2.2.1,v.2.2.2.2.1,v.2.2.2.2.2.1,())))
def pV (v : lQ) : Option (Nat × lQ) := pW v some
def rI (v : lQ) : Nat := v.1.toNat + v.2.1.length + v.2.2.1.length + v.2.2.2.1.toNat + v.2.2.2.2.1.toNat + v.2.2.2.2.2.1.length + 100
def yA (h0 : Int) (h1 : List (Ty.T (.int .i64))) (h2 : List (Ty.T ah)) (h3 : Int) (h4 : Int) (h5 : List (Ty.T (.int .i64))) (c : Nat) : Bool := iK pV rI (h0,h1,h2,h3,h4,h5,()) c
def BJ (h0 : Int) (h1 : List (Ty.T (.int .i64))) (h2 : List (Ty.T ah)) (h3 : Int) (h4 : Int) (h5 : List (Ty.T (.int .i64))) : lQ := iW pV rI (h0,h1,h2,h3,h4,h5,())
def Hs (v : lQ) : aL (Ex × St) := aM pV (rI v) v (ar yJ wE) [.exit 0] 0
theorem OY : aH Tryz.prog (aw (pb 4 11) (ab Tryz.f287)) yJ wE Hs := ag (lt := .none) Uo.ok ak (af.no _) fun n v K => et (pW v (bL _ _ _ _ _ K)) (by kernel_rfl) (show pW v _ = (pW v some).bind _ from (bC (bI (bO fun x1 => (bC (bC (bI rfl) (bC (bI rfl) rfl)) rfl))) rfl))
def S6 := Uo.l (g := 287) (t := (a9 (pb 4 11) (ab Tryz.f287) .none (.sum yJ wE Hs))) (aC Tryz.func287 (af.put (aA (by kernel_rfl)) (af.no _) OY))
def Sh (a0 : Ty.T y36) (a1 : Int) : Option (AV × Sig) := cond (yA a1 [] a0.1 ((a0.1).length : Int) 0 [] 0) (some (.one (.sl 4096),[(4096,.arr 3 (.int .i64) (BJ a1 [] a0.1 ((a0.1).length : Int) 0 []).2.2.2.2.2.1 false)])) (none)
def F0 (a0 : Ty.T y36) (a1 : Int) : (List (Ty.T (.int .i64))) := cond (yA a1 [] a0.1 ((a0.1).length : Int) 0 [] 0) ((BJ a1 [] a0.1 ((a0.1).length : Int) 0 []).2.2.2.2.2.1) ([])
def d287 (a0 : Ty.T y36) (a1 : Int) : Bool := cond (yA a1 [] a0.1 ((a0.1).length : Int) 0 [] 0) (true) (false)
theorem Wt (a0 : Ty.T y36) (a1 : Int) : Sh a0 a1 = cond (d287 a0 a1) (some (f287 (F0 a0 a1))) none := (pC (pS _) (pN _))
def VY : Prim := ⟨[.agg [.dat y36 true],oI],fun v => .br (d287 v.1 v.2.1) (.done (f287 (F0 v.1 v.2.1))) .no⟩
theorem TE : PO 287 VY := pK S6 fun v => et (Sh v.1 v.2.1) (by kernel_rfl) (Wt v.1 v.2.1)
def f288 (r : Int) : AV × Sig := (.one (.int .i64 r),[])
def Vk := E0
@[reducible] def yN : List SP := .und :: oI :: U2 (oI :: oI :: U2 (.und :: .one (.dat (.sl 180 ah) true) :: oI :: oI :: U16 (U4 ([]))))
@[reducible] def lz : Type := Int × Int × Int × (List (Ty.T ah)) × Int × Int × Unit
def ov (v : lz) {Z : Type} (κ : Nat × lz -> Option Z) : Option Z := cond (decide (v.2.2.2.2.2.1 < v.2.2.2.2.1)) (if 0 <= v.2.2.2.2.2.1 then (ay ((v.2.2.2.1)[(v.2.2.2.2.2.1).toNat]?) (fun x1 => cond (x1.2.2.2.1 == (2 : Int)) (cond (x1.2.2.1 == v.1) (cond x1.2.2.2.2.2.2.2.2.2.2.2.2 (κ (0,(v.1,v.2.1,IntKind.wrap .i64 (v.2.2.1 + (1 : Int)),v.2.2.2.1,v.2.2.2.2.1,IntKind.wrap .i64 (v.2.2.2.2.2.1 + (1 : Int)),()))) (κ (0,(v.1,v.2.1,v.2.2.1,v.2.2.2.1,v.2.2.2.2.1,IntKind.wrap .i64 (v.2.2.2.2.2.1 + (1 : Int)),())))) (κ (0,(v.1,v.2.1,v.2.2.1,v.2.2.2.1,v.2.2.2.2.1,IntKind.wrap .i64 (v.2.2.2.2.2.1 + (1 : Int)),())))) (κ (0,(v.1,v.2.1,v.2.2.1,v.2.2.2.1,v.2.2.2.2.1,IntKind.wrap .i64 (v.2.2.2.2.2.1 + (1 : Int)),()))))) else none) (κ (1,(v.1,v.2.1,v.2.2.1,v.2.2.2.1,v.2.2.2.2.1,v.2.2.2.2.2.1,())))
def nL (v : lz) : Option (Nat × lz) := ov v some
def tP (v : lz) : Nat := v.1.toNat + v.2.1.toNat + v.2.2.1.toNat + v.2.2.2.1.length + v.2.2.2.2.1.toNat + v.2.2.2.2.2.1.toNat + 100
def zh (h0 : Int) (h1 : Int) (h2 : Int) (h3 : List (Ty.T ah)) (h4 : Int) (h5 : Int) (c : Nat) : Bool := iK nL tP (h0,h1,h2,h3,h4,h5,()) c
def CX (h0 : Int) (h1 : Int) (h2 : Int) (h3 : List (Ty.T ah)) (h4 : Int) (h5 : Int) : lz := iW nL tP (h0,h1,h2,h3,h4,h5,())
def KY (v : lz) : aL (Ex × St) := aM nL (tP v) v (ar yN aB) [.exit 0] 0
theorem PB : aH Tryz.prog (aw (pb 4 11) (ab Tryz.f288)) yN aB KY := ag (lt := .none) Vk.ok ak (af.no _) fun n v K => et (ov v (bL _ _ _ _ _ K)) (by kernel_rfl) (show ov v _ = (ov v some).bind _ from (bC (bI (bO fun x1 => (bC (bC (bC rfl rfl) rfl) rfl))) rfl))
def RG := Vk.l (g := 288) (t := (a9 (pb 4 11) (ab Tryz.f288) .none (.sum yN aB KY))) (aC Tryz.func288 (af.put (aA (by kernel_rfl)) (af.no _) PB))
def QO (a0 : Ty.T y36) (a1 : Int) : Option (AV × Sig) := cond (zh a1 0 0 a0.1 ((a0.1).length : Int) 0 0) (some (.one (.int .i64 (CX a1 0 0 a0.1 ((a0.1).length : Int) 0).2.2.1),[])) (none)
def GK (a0 : Ty.T y36) (a1 : Int) : Int := cond (zh a1 0 0 a0.1 ((a0.1).length : Int) 0 0) ((CX a1 0 0 a0.1 ((a0.1).length : Int) 0).2.2.1) (0)
def d288 (a0 : Ty.T y36) (a1 : Int) : Bool := cond (zh a1 0 0 a0.1 ((a0.1).length : Int) 0 0) (true) (false)
theorem Wy (a0 : Ty.T y36) (a1 : Int) : QO a0 a1 = cond (d288 a0 a1) (some (f288 (GK a0 a1))) none := (pC (pS _) (pN _))
def acv : Prim := ⟨[.agg [.dat y36 true],oI],fun v => .br (d288 v.1 v.2.1) (.done (f288 (GK v.1 v.2.1))) .no⟩
theorem Vh : PO 288 acv := pK RG fun v => et (QO v.1 v.2.1) (by kernel_rfl) (Wy v.1 v.2.1)
def f265 (r : Bool) : AV × Sig := (.one (.bool r),[])
def V2 := ((((E0.p H9).p NF).p TE).p Vh)
def T6 (a0 : Ty.T y36) (a1 : Int) (a2 : Ty.T y98) : Option (AV × Sig) := cond (!(se a2)) (some (.one (.bool false),[])) (cond (!(kX a0 a1)) (some (.one (.bool false),[])) (cond (a2.1 == (1 : Int)) (if 0 <= a1 then (ay ((a0.2.1)[(a1).toNat]?) (fun x1 => some (.one (.bool (decide (x1.1 <= a2.2))),[]))) else none) (cond (a2.1 == (2 : Int)) (cond (d287 a0 a1) (some (.one (.bool (decide ((((F0 a0 a1)).length : Int) ≥ a2.2))),[])) (none)) (cond (a2.1 == (3 : Int)) (some (.one (.bool (a0.2.2.1 == a1)),[])) (cond (a2.1 == (4 : Int)) (cond (d288 a0 a1) (some (.one (.bool (decide ((GK a0 a1) ≥ a2.2))),[])) (none)) (some (.one (.bool true),[])))))))
def Da (a0 : Ty.T y36) (a1 : Int) (a2 : Ty.T y98) : Bool := cond (!(se a2)) (false) (cond (!(kX a0 a1)) (false) (cond (a2.1 == (1 : Int)) (qS ((a0.2.1)[(a1).toNat]?) false (fun x1 => decide (x1.1 <= a2.2))) (cond (a2.1 == (2 : Int)) (cond (d287 a0 a1) (decide ((((F0 a0 a1)).length : Int) ≥ a2.2)) (false)) (cond (a2.1 == (3 : Int)) ((a0.2.2.1 == a1)) (cond (a2.1 == (4 : Int)) (cond (d288 a0 a1) (decide ((GK a0 a1) ≥ a2.2)) (false)) (true))))))
def d265 (a0 : Ty.T y36) (a1 : Int) (a2 : Ty.T y98) : Bool := cond (!(se a2)) (true) (cond (!(kX a0 a1)) (true) (cond (a2.1 == (1 : Int)) (decide (0 <= a1) && (o9 ((a0.2.1)[(a1).toNat]?) (fun x1 => true))) (cond (a2.1 == (2 : Int)) (cond (d287 a0 a1) (true) (false)) (cond (a2.1 == (3 : Int)) (true) (cond (a2.1 == (4 : Int)) (cond (d288 a0 a1) (true) (false)) (true))))))
theorem aca (a0 : Ty.T y36) (a1 : Int) (a2 : Ty.T y98) : T6 a0 a1 a2 = cond (d265 a0 a1 a2) (some (f265 (Da a0 a1 a2))) none := (pC (pS _) (pC (pS _) (pC (pI (pO fun x1 => (pS _))) (pC (pC (pS _) (pN _)) (pC (pS _) (pC (pC (pS _) (pN _)) (pS _)))))))
def acx : Prim := ⟨[.agg [.dat y36 true],oI,.agg [.dat y98 true]],fun v => .br (d265 v.1 v.2.1 v.2.2.1) (.done (f265 (Da v.1 v.2.1 v.2.2.1))) .no⟩
theorem Qn : PO 265 acx := pK V2 fun v => et (T6 v.1 v.2.1 v.2.2.1) (by kernel_rfl) (aca v.1 v.2.1 v.2.2.1)
def IN (r : Bool) : AV × Sig := (.one (.bool r),[])
def OU := E0
def J8 (a0 : Ty.T ah) (a1 : Int) : Option (AV × Sig) := some (.one (.bool (a0.1 == a1)),[])
def xA (a0 : Ty.T ah) (a1 : Int) : Bool := (a0.1 == a1)
theorem N6 (a0 : Ty.T ah) (a1 : Int) : J8 a0 a1 = some (IN (xA a0 a1)) := rfl
def PJ : Prim := ⟨[.agg [.dat ah true],.one (.ept (.int .i64))],fun v => .done (IN (xA v.1 v.2.1))⟩
theorem Ld : PO 295 PJ := pK OU fun v => et (J8 v.1 v.2.1) (by kernel_rfl) (N6 v.1 v.2.1)
def KE (r : Int) : AV × Sig := (.one (.int .i64 r),[])
def GV := (E0.p Ld)
@[reducible] def nT : List SP := .one (.dat (.sl 180 ah) true) :: .one (.fnc 295 [(.int .i64)]) :: U2 (oI :: U2 (oI :: oI :: U8 (U2 ([]))))
@[reducible] def fR : Type := (List (Ty.T ah)) × Int × Int × Int × Int × Unit
def hO (v : fR) {Z : Type} (κ : Nat × fR -> Option Z) : Option Z := cond (decide (v.2.2.2.2.1 < v.2.2.2.1)) (if 0 <= v.2.2.2.2.1 then (ay ((v.1)[(v.2.2.2.2.1).toNat]?) (fun x1 => cond (xA x1 v.2.1) (κ (1,(v.1,v.2.1,v.2.2.2.2.1,v.2.2.2.1,v.2.2.2.2.1,()))) (κ (0,(v.1,v.2.1,v.2.2.1,v.2.2.2.1,IntKind.wrap .i64 (v.2.2.2.2.1 + (1 : Int)),()))))) else none) (κ (2,(v.1,v.2.1,v.2.2.1,v.2.2.2.1,v.2.2.2.2.1,())))
def ij (v : fR) : Option (Nat × fR) := hO v some
def kx (v : fR) : Nat := v.1.length + v.2.1.toNat + v.2.2.1.toNat + v.2.2.2.1.toNat + v.2.2.2.2.1.toNat + 100
def dP (h0 : List (Ty.T ah)) (h1 : Int) (h2 : Int) (h3 : Int) (h4 : Int) (c : Nat) : Bool := iK ij kx (h0,h1,h2,h3,h4,()) c
def qX (h0 : List (Ty.T ah)) (h1 : Int) (h2 : Int) (h3 : Int) (h4 : Int) : fR := iW ij kx (h0,h1,h2,h3,h4,())
def Ax (v : fR) : aL (Ex × St) := aM ij (kx v) v (ar nT aB) [.ret,.exit 0] 0
theorem KM : aH Tryz.prog (aw (pb 3 5) (ab Tryz.f294)) nT aB Ax := ag (lt := .none) GV.ok ak (af.no _) fun n v K => et (hO v (bL _ _ _ _ _ K)) (by kernel_rfl) (show hO v _ = (hO v some).bind _ from (bC (bI (bO fun x1 => (bC rfl rfl))) rfl))
def LB := GV.l (g := 294) (t := (a9 (pb 3 5) (ab Tryz.f294) .none (.sum nT aB Ax))) (aC Tryz.func294 (af.put (aA (by kernel_rfl)) (af.no _) KM))
def HC (a0 : List (Ty.T ah)) (a1_0 : Int) : Option (AV × Sig) := cond (dP a0 a1_0 0 ((a0).length : Int) 0 0) (some (.one (.int .i64 (qX a0 a1_0 0 ((a0).length : Int) 0).2.2.1),[])) (cond (dP a0 a1_0 0 ((a0).length : Int) 0 1) (some (.one (.int .i64 (-1)),[])) (none))
def oQ (a0 : List (Ty.T ah)) (a1_0 : Int) : Int := cond (dP a0 a1_0 0 ((a0).length : Int) 0 0) ((qX a0 a1_0 0 ((a0).length : Int) 0).2.2.1) (cond (dP a0 a1_0 0 ((a0).length : Int) 0 1) ((-1)) (0))
def lH (a0 : List (Ty.T ah)) (a1_0 : Int) : Bool := cond (dP a0 a1_0 0 ((a0).length : Int) 0 0) (true) (cond (dP a0 a1_0 0 ((a0).length : Int) 0 1) (true) (false))
theorem O4 (a0 : List (Ty.T ah)) (a1_0 : Int) : HC a0 a1_0 = cond (lH a0 a1_0) (some (KE (oQ a0 a1_0))) none := (pC (pS _) (pC (pS _) (pN _)))
def Pp : Prim := ⟨[.one (.dat (.sl 180 ah) true),.one (.fnc 295 [(.int .i64)])],fun v => .br (lH v.1 v.2.1) (.done (KE (oQ v.1 v.2.1))) .no⟩
theorem L1 : PO 294 Pp := pK LB fun v => et (HC v.1 v.2.1) (by kernel_rfl) (O4 v.1 v.2.1)
def f273 (r : Int) : AV × Sig := (.one (.int .i64 r),[])
def YS := (E0.p L1)
def RY (a0 : Ty.T y36) (a1 : Int) : Option (AV × Sig) := cond (lH a0.1 a1) (some (.one (.int .i64 (oQ a0.1 a1)),[])) (none)
def mj (a0 : Ty.T y36) (a1 : Int) : Int := cond (lH a0.1 a1) ((oQ a0.1 a1)) (0)
def d273 (a0 : Ty.T y36) (a1 : Int) : Bool := cond (lH a0.1 a1) (true) (false)
theorem VW (a0 : Ty.T y36) (a1 : Int) : RY a0 a1 = cond (d273 a0 a1) (some (f273 (mj a0 a1))) none := (pC (pS _) (pN _))
def V3 : Prim := ⟨[.agg [.dat y36 true],oI],fun v => .br (d273 v.1 v.2.1) (.done (f273 (mj v.1 v.2.1))) .no⟩
theorem NJ : PO 273 V3 := pK YS fun v => et (RY v.1 v.2.1) (by kernel_rfl) (VW v.1 v.2.1)
def f235 (r : Int) : AV × Sig := (.one (.int .i64 r),[])
def XT := ((E0.p H9).p NJ)
def TK (a0 : Ty.T y36) (a1 : Ty.T y48) : Option (AV × Sig) := cond (a1.2.2.1 == (0 : Int)) (cond (kX a0 a1.2.2.2.1) (some (.one (.int .i64 a1.2.2.2.1),[])) (some (.one (.int .i64 (-1)),[]))) (cond (d273 a0 a1.2.2.1) (cond (decide ((mj a0 a1.2.2.1) < (0 : Int))) (some (.one (.int .i64 (-1)),[])) (if 0 <= (mj a0 a1.2.2.1) then (ay ((a0.1)[(mj a0 a1.2.2.1).toNat]?) (fun x1 => some (.one (.int .i64 x1.2.2.1),[]))) else none)) (none))
def pG (a0 : Ty.T y36) (a1 : Ty.T y48) : Int := cond (a1.2.2.1 == (0 : Int)) (cond (kX a0 a1.2.2.2.1) (a1.2.2.2.1) ((-1))) (cond (d273 a0 a1.2.2.1) (cond (decide ((mj a0 a1.2.2.1) < (0 : Int))) ((-1)) (qS ((a0.1)[(mj a0 a1.2.2.1).toNat]?) 0 (fun x1 => x1.2.2.1))) (0))
def d235 (a0 : Ty.T y36) (a1 : Ty.T y48) : Bool := cond (a1.2.2.1 == (0 : Int)) (cond (kX a0 a1.2.2.2.1) (true) (true)) (cond (d273 a0 a1.2.2.1) (cond (decide ((mj a0 a1.2.2.1) < (0 : Int))) (true) (decide (0 <= (mj a0 a1.2.2.1)) && (o9 ((a0.1)[(mj a0 a1.2.2.1).toNat]?) (fun x1 => true)))) (false))
theorem acf (a0 : Ty.T y36) (a1 : Ty.T y48) : TK a0 a1 = cond (d235 a0 a1) (some (f235 (pG a0 a1))) none := (pC (pC (pS _) (pS _)) (pC (pC (pS _) (pI (pO fun x1 => (pS _)))) (pN _)))
def abf : Prim := ⟨[.agg [.dat y36 true],.agg [.dat y48 true]],fun v => .br (d235 v.1 v.2.1) (.done (f235 (pG v.1 v.2.1))) .no⟩
theorem MC : PO 235 abf := pK XT fun v => et (TK v.1 v.2.1) (by kernel_rfl) (acf v.1 v.2.1)
def f289 (r : Bool) : AV × Sig := (.one (.bool r),[])
def abL := (E0.p MC)
def t289 (a0 : Ty.T y36) (a1 : Int) (a2 : Ty.T y96) (a3 : Ty.T y48) {Z : Type} (κ : Bool -> Option Z) : Option Z := cond (d235 a0 a3) (cond ((pG a0 a3) == (-1 : Int)) (κ false) (cond (a2.2.1 == (1 : Int)) (cond ((pG a0 a3) != a1) (κ false) (cond (a2.2.1 == (2 : Int)) (cond ((pG a0 a3) == a1) (κ false) (cond (a2.2.2.2.2.1 == (0 : Int)) (κ true) (κ (a2.2.2.2.2.1 == a3.2.2.1)))) (cond (a2.2.2.2.2.1 == (0 : Int)) (κ true) (κ (a2.2.2.2.2.1 == a3.2.2.1))))) (cond (a2.2.1 == (2 : Int)) (cond ((pG a0 a3) == a1) (κ false) (cond (a2.2.2.2.2.1 == (0 : Int)) (κ true) (κ (a2.2.2.2.2.1 == a3.2.2.1)))) (cond (a2.2.2.2.2.1 == (0 : Int)) (κ true) (κ (a2.2.2.2.2.1 == a3.2.2.1)))))) (none)
def FG (a0 : Ty.T y36) (a1 : Int) (a2 : Ty.T y96) (a3 : Ty.T y48) : Bool := (t289 a0 a1 a2 a3 some).getD false
def d289 (a0 : Ty.T y36) (a1 : Int) (a2 : Ty.T y96) (a3 : Ty.T y48) : Bool := (t289 a0 a1 a2 a3 some).isSome
def Zg : Prim := ⟨[.agg [.dat y36 true],oI,.agg [.dat y96 true],.agg [.dat y48 true]],fun v => .br (d289 v.1 v.2.1 v.2.2.1 v.2.2.2.1) (.done (f289 (FG v.1 v.2.1 v.2.2.1 v.2.2.2.1))) .no⟩
theorem Vx : PO 289 Zg := pK abL fun v => et ((t289 v.1 v.2.1 v.2.2.1 v.2.2.2.1 (sm f289))) (by kernel_rfl) (aN (show t289 v.1 v.2.1 v.2.2.1 v.2.2.2.1 (sm f289) = (t289 v.1 v.2.1 v.2.2.1 v.2.2.2.1 some).bind _ from by unfold t289; simp only [bb]))
def f303 (r : (Ty.T ah)) : AV × Sig := (.agg (ah.cells false r),[])
def XE := (E0.p NJ)
def CT (a0 : Ty.T y36) (a1 : Ty.T y48) {Z : Type} (κ : (Ty.T ah) -> Option Z) : Option Z := cond (d273 a0 a1.2.1) (cond (a1.1 != (1 : Int)) (κ (0,0,0,0,0,0,0,0,0,0,0,false,false)) (cond (decide ((mj a0 a1.2.1) < (0 : Int))) (κ (0,0,0,0,0,0,0,0,0,0,0,false,false)) (if 0 <= (mj a0 a1.2.1) then (ay ((a0.1)[(mj a0 a1.2.1).toNat]?) (fun x1 => κ x1)) else none))) (none)
def DT (a0 : Ty.T y36) (a1 : Ty.T y48) : (Ty.T ah) := (CT a0 a1 some).getD (Ty.zero ah)
def d303 (a0 : Ty.T y36) (a1 : Ty.T y48) : Bool := (CT a0 a1 some).isSome
def Yz : Prim := ⟨[.agg [.dat y36 true],.agg [.dat y48 true]],fun v => .br (d303 v.1 v.2.1) (.done (f303 (DT v.1 v.2.1))) .no⟩
theorem Q1 : PO 303 Yz := pK XE fun v => et ((CT v.1 v.2.1 (sm f303))) (by kernel_rfl) (aN (show CT v.1 v.2.1 (sm f303) = (CT v.1 v.2.1 some).bind _ from (bC (bC rfl (bC rfl (bI (bO fun x1 => rfl)))) rfl)))
def f290 (r : Bool) : AV × Sig := (.one (.bool r),[])
def aa9 := (E0.p Q1)
def RU (a0 : Ty.T y36) (a1 : Ty.T y96) (a2 : Ty.T y48) : Option (AV × Sig) := cond (a1.2.2.1 == (0 : Int)) (cond (d303 a0 a2) (some (.one (.bool ((IntKind.wrap .i64 ((BitVec.ofInt (IntKind.bits .i64) (DT a0 a2).2.2.2.2.2.2.2.1 &&& BitVec.ofInt (IntKind.bits .i64) a1.2.2.2.1).toNat : Int)) == a1.2.2.2.1)),[])) (none)) (cond (a1.2.2.1 == a2.2.1) (cond (d303 a0 a2) (some (.one (.bool ((IntKind.wrap .i64 ((BitVec.ofInt (IntKind.bits .i64) (DT a0 a2).2.2.2.2.2.2.2.1 &&& BitVec.ofInt (IntKind.bits .i64) a1.2.2.2.1).toNat : Int)) == a1.2.2.2.1)),[])) (none)) (some (.one (.bool false),[])))
def BL (a0 : Ty.T y36) (a1 : Ty.T y96) (a2 : Ty.T y48) : Bool := cond (a1.2.2.1 == (0 : Int)) (cond (d303 a0 a2) (((IntKind.wrap .i64 ((BitVec.ofInt (IntKind.bits .i64) (DT a0 a2).2.2.2.2.2.2.2.1 &&& BitVec.ofInt (IntKind.bits .i64) a1.2.2.2.1).toNat : Int)) == a1.2.2.2.1)) (false)) (cond (a1.2.2.1 == a2.2.1) (cond (d303 a0 a2) (((IntKind.wrap .i64 ((BitVec.ofInt (IntKind.bits .i64) (DT a0 a2).2.2.2.2.2.2.2.1 &&& BitVec.ofInt (IntKind.bits .i64) a1.2.2.2.1).toNat : Int)) == a1.2.2.2.1)) (false)) (false))
def d290 (a0 : Ty.T y36) (a1 : Ty.T y96) (a2 : Ty.T y48) : Bool := cond (a1.2.2.1 == (0 : Int)) (cond (d303 a0 a2) (true) (false)) (cond (a1.2.2.1 == a2.2.1) (cond (d303 a0 a2) (true) (false)) (true))
theorem aa0 (a0 : Ty.T y36) (a1 : Ty.T y96) (a2 : Ty.T y48) : RU a0 a1 a2 = cond (d290 a0 a1 a2) (some (f290 (BL a0 a1 a2))) none := (pC (pC (pS _) (pN _)) (pC (pC (pS _) (pN _)) (pS _)))
def Zu : Prim := ⟨[.agg [.dat y36 true],.agg [.dat y96 true],.agg [.dat y48 true]],fun v => .br (d290 v.1 v.2.1 v.2.2.1) (.done (f290 (BL v.1 v.2.1 v.2.2.1))) .no⟩
theorem Su : PO 290 Zu := pK aa9 fun v => et (RU v.1 v.2.1 v.2.2.1) (by kernel_rfl) (aa0 v.1 v.2.1 v.2.2.1)
def f266 (r : Bool) : AV × Sig := (.one (.bool r),[])
def acF := ((((E0.p M5).p Vx).p Su).p I1)
def PZ (a0 : Ty.T y36) (a1 : Int) (a2 : Ty.T y96) (a3 : Ty.T y48) : Option (AV × Sig) := cond (qM a2) (cond (v96 a3) (cond (a2.1 == a3.1) (cond (d289 a0 a1 a2 a3) (cond (FG a0 a1 a2 a3) (cond (d290 a0 a2 a3) (cond (BL a0 a2 a3) (cond (decide (a3.2.2.2.2.1 ≥ a2.2.2.2.2.2.1)) (cond (a2.2.2.2.2.2.2 == (0 : Int)) (some (.one (.bool true),[])) (some (.one (.bool (a2.2.2.2.2.2.2 == a3.2.2.2.2.2.1)),[]))) (some (.one (.bool false),[]))) (some (.one (.bool false),[]))) (none)) (some (.one (.bool false),[]))) (none)) (some (.one (.bool false),[]))) (some (.one (.bool false),[]))) (some (.one (.bool false),[]))
def Gt (a0 : Ty.T y36) (a1 : Int) (a2 : Ty.T y96) (a3 : Ty.T y48) : Bool := cond (qM a2) (cond (v96 a3) (cond (a2.1 == a3.1) (cond (d289 a0 a1 a2 a3) (cond (FG a0 a1 a2 a3) (cond (d290 a0 a2 a3) (cond (BL a0 a2 a3) (cond (decide (a3.2.2.2.2.1 ≥ a2.2.2.2.2.2.1)) (cond (a2.2.2.2.2.2.2 == (0 : Int)) (true) ((a2.2.2.2.2.2.2 == a3.2.2.2.2.2.1))) (false)) (false)) (false)) (false)) (false)) (false)) (false)) (false)
def d266 (a0 : Ty.T y36) (a1 : Int) (a2 : Ty.T y96) (a3 : Ty.T y48) : Bool := cond (qM a2) (cond (v96 a3) (cond (a2.1 == a3.1) (cond (d289 a0 a1 a2 a3) (cond (FG a0 a1 a2 a3) (cond (d290 a0 a2 a3) (cond (BL a0 a2 a3) (cond (decide (a3.2.2.2.2.1 ≥ a2.2.2.2.2.2.1)) (cond (a2.2.2.2.2.2.2 == (0 : Int)) (true) (true)) (true)) (true)) (false)) (true)) (false)) (true)) (true)) (true)
theorem aa3 (a0 : Ty.T y36) (a1 : Int) (a2 : Ty.T y96) (a3 : Ty.T y48) : PZ a0 a1 a2 a3 = cond (d266 a0 a1 a2 a3) (some (f266 (Gt a0 a1 a2 a3))) none := (pC (pC (pC (pC (pC (pC (pC (pC (pC (pS _) (pS _)) (pS _)) (pS _)) (pN _)) (pS _)) (pN _)) (pS _)) (pS _)) (pS _))
def ZS : Prim := ⟨[.agg [.dat y36 true],oI,.agg [.dat y96 true],.agg [.dat y48 true]],fun v => .br (d266 v.1 v.2.1 v.2.2.1 v.2.2.2.1) (.done (f266 (Gt v.1 v.2.1 v.2.2.1 v.2.2.2.1))) .no⟩
theorem QM : PO 266 ZS := pK acF fun v => et (PZ v.1 v.2.1 v.2.2.1 v.2.2.2.1) (by kernel_rfl) (aa3 v.1 v.2.1 v.2.2.1 v.2.2.2.1)
def f228 (r : Bool) : AV × Sig := (.one (.bool r),[])
def aaU := (((((E0.p Iq).p UW).p UD).p Qn).p QM)
def TN (a0 : Ty.T y36) (a1 : Ty.T aa) (a2 : Ty.T y48) : Option (AV × Sig) := cond (d176 a1) (cond (um a1) (cond (FI a1 a0.2.2.2) (cond (Gr a1 a2) (cond (d265 a0 a1.2.1 a1.2.2.2.2.2.1) (cond (Da a0 a1.2.1 a1.2.2.2.2.2.1) (cond (d266 a0 a1.2.1 a1.2.2.2.2.1 a2) (some (.one (.bool (Gt a0 a1.2.1 a1.2.2.2.2.1 a2)),[])) (none)) (some (.one (.bool false),[]))) (none)) (some (.one (.bool false),[]))) (some (.one (.bool false),[]))) (some (.one (.bool false),[]))) (none)
def I0 (a0 : Ty.T y36) (a1 : Ty.T aa) (a2 : Ty.T y48) : Bool := cond (d176 a1) (cond (um a1) (cond (FI a1 a0.2.2.2) (cond (Gr a1 a2) (cond (d265 a0 a1.2.1 a1.2.2.2.2.2.1) (cond (Da a0 a1.2.1 a1.2.2.2.2.2.1) (cond (d266 a0 a1.2.1 a1.2.2.2.2.1 a2) ((Gt a0 a1.2.1 a1.2.2.2.2.1 a2)) (false)) (false)) (false)) (false)) (false)) (false)) (false)
def d228 (a0 : Ty.T y36) (a1 : Ty.T aa) (a2 : Ty.T y48) : Bool := cond (d176 a1) (cond (um a1) (cond (FI a1 a0.2.2.2) (cond (Gr a1 a2) (cond (d265 a0 a1.2.1 a1.2.2.2.2.2.1) (cond (Da a0 a1.2.1 a1.2.2.2.2.2.1) (cond (d266 a0 a1.2.1 a1.2.2.2.2.1 a2) (true) (false)) (true)) (false)) (true)) (true)) (true)) (false)
theorem YP (a0 : Ty.T y36) (a1 : Ty.T aa) (a2 : Ty.T y48) : TN a0 a1 a2 = cond (d228 a0 a1 a2) (some (f228 (I0 a0 a1 a2))) none := (pC (pC (pC (pC (pC (pC (pC (pS _) (pN _)) (pS _)) (pN _)) (pS _)) (pS _)) (pS _)) (pN _))
def abp : Prim := ⟨[.agg [.dat y36 true],.agg [.dat aa true],.agg [.dat y48 true]],fun v => .br (d228 v.1 v.2.1 v.2.2.1) (.done (f228 (I0 v.1 v.2.1 v.2.2.1))) .no⟩
theorem Q3 : PO 228 abp := pK aaU fun v => et (TN v.1 v.2.1 v.2.2.1) (by kernel_rfl) (YP v.1 v.2.1 v.2.2.1)
def f178 (r : (List (Ty.T (.int .i64)))) : AV × Sig := (.one (.sl 4096),[(4096,.arr 3 (.int .i64) r false)])
def P3 := ((E0.p Uz).p Q3)
@[reducible] def xH : List SP := U2 (.und :: .one (.dat (.sl 3 (.int .i64)) true) :: .one (.ptr 4 0) :: .und :: .one (.ptr 6 0) :: .und :: .one (.dat (.sl 3 (.int .i64)) false) :: .one (.own 13) :: oI :: U2 (.und :: .one (.dat (.sl 103 aa) true) :: oI :: oI :: U32 (U4 (U2 ([])))))
@[reducible] def yS : List (Nat × GP) := [(4,.box 37 [.dat y36 true]),(6,.box 56 [.dat y48 false]),(13,.arr 3 (.int .i64) false)]
@[reducible] def l6 : Type := (List (Ty.T (.int .i64))) × (List (Ty.T (.int .i64))) × Int × (List (Ty.T aa)) × Int × Int × (Ty.T y36) × (Ty.T y48) × (List (Ty.T (.int .i64))) × Unit
def lX (v : l6) {Z : Type} (κ : Nat × l6 -> Option Z) : Option Z := cond (decide (v.2.2.2.2.2.1 < v.2.2.2.2.1)) (if 0 <= v.2.2.2.2.2.1 then (ay ((v.2.2.2.1)[(v.2.2.2.2.2.1).toNat]?) (fun x1 => cond (d227 v.1 x1.1) (cond (Iv v.1 x1.1) (κ (0,(v.1,v.2.1,v.2.2.1,v.2.2.2.1,v.2.2.2.2.1,IntKind.wrap .i64 (v.2.2.2.2.2.1 + (1 : Int)),v.2.2.2.2.2.2.1,v.2.2.2.2.2.2.2.1,v.2.2.2.2.2.2.2.2.1,()))) (cond (d228 v.2.2.2.2.2.2.1 x1 v.2.2.2.2.2.2.2.1) (cond (!(I0 v.2.2.2.2.2.2.1 x1 v.2.2.2.2.2.2.2.1)) (κ (0,(v.1,v.2.1,v.2.2.1,v.2.2.2.1,v.2.2.2.2.1,IntKind.wrap .i64 (v.2.2.2.2.2.1 + (1 : Int)),v.2.2.2.2.2.2.1,v.2.2.2.2.2.2.2.1,v.2.2.2.2.2.2.2.2.1,()))) (cond (((v.2.2.2.2.2.2.2.2.1).length : Int) == (0 : Int)) (if (0 : Int) <= ((v.2.2.2.2.2.2.2.2.1).length : Int) then (cond (x1.2.2.2.1 == x1.2.2.2.1) (if ((((v.2.2.2.2.2.2.2.2.1).drop 0).take 0) ++ [x1.1] : List (Ty.T (.int .i64))).length * 8 <= 140737488351232 then (κ (0,(v.1,v.2.1,x1.2.2.2.1,v.2.2.2.1,v.2.2.2.2.1,IntKind.wrap .i64 (v.2.2.2.2.2.1 + (1 : Int)),v.2.2.2.2.2.2.1,v.2.2.2.2.2.2.2.1,(((v.2.2.2.2.2.2.2.2.1).drop 0).take 0) ++ [x1.1],()))) else none) (κ (0,(v.1,v.2.1,x1.2.2.2.1,v.2.2.2.1,v.2.2.2.2.1,IntKind.wrap .i64 (v.2.2.2.2.2.1 + (1 : Int)),v.2.2.2.2.2.2.1,v.2.2.2.2.2.2.2.1,v.2.2.2.2.2.2.2.2.1.take 0,())))) else none) (cond (decide (x1.2.2.2.1 < v.2.2.1)) (if (0 : Int) <= ((v.2.2.2.2.2.2.2.2.1).length : Int) then (cond (x1.2.2.2.1 == x1.2.2.2.1) (if ((((v.2.2.2.2.2.2.2.2.1).drop 0).take 0) ++ [x1.1] : List (Ty.T (.int .i64))).length * 8 <= 140737488351232 then (κ (0,(v.1,v.2.1,x1.2.2.2.1,v.2.2.2.1,v.2.2.2.2.1,IntKind.wrap .i64 (v.2.2.2.2.2.1 + (1 : Int)),v.2.2.2.2.2.2.1,v.2.2.2.2.2.2.2.1,(((v.2.2.2.2.2.2.2.2.1).drop 0).take 0) ++ [x1.1],()))) else none) (κ (0,(v.1,v.2.1,x1.2.2.2.1,v.2.2.2.1,v.2.2.2.2.1,IntKind.wrap .i64 (v.2.2.2.2.2.1 + (1 : Int)),v.2.2.2.2.2.2.1,v.2.2.2.2.2.2.2.1,v.2.2.2.2.2.2.2.2.1.take 0,())))) else none) (cond (x1.2.2.2.1 == v.2.2.1) (if (v.2.2.2.2.2.2.2.2.1 ++ [x1.1] : List (Ty.T (.int .i64))).length * 8 <= 140737488351232 then (κ (0,(v.1,v.2.1,v.2.2.1,v.2.2.2.1,v.2.2.2.2.1,IntKind.wrap .i64 (v.2.2.2.2.2.1 + (1 : Int)),v.2.2.2.2.2.2.1,v.2.2.2.2.2.2.2.1,v.2.2.2.2.2.2.2.2.1 ++ [x1.1],()))) else none) (κ (0,(v.1,v.2.1,v.2.2.1,v.2.2.2.1,v.2.2.2.2.1,IntKind.wrap .i64 (v.2.2.2.2.2.1 + (1 : Int)),v.2.2.2.2.2.2.1,v.2.2.2.2.2.2.2.1,v.2.2.2.2.2.2.2.2.1,()))))))) (none))) (none))) else none) (κ (1,(v.1,v.2.1,v.2.2.1,v.2.2.2.1,v.2.2.2.2.1,v.2.2.2.2.2.1,v.2.2.2.2.2.2.1,v.2.2.2.2.2.2.2.1,v.2.2.2.2.2.2.2.2.1,())))
def mn (v : l6) : Option (Nat × l6) := lX v some
def sU (v : l6) : Nat := v.1.length + v.2.1.length + v.2.2.1.toNat + v.2.2.2.1.length + v.2.2.2.2.1.toNat + v.2.2.2.2.2.1.toNat + v.2.2.2.2.2.2.1.1.length + v.2.2.2.2.2.2.1.2.1.length + v.2.2.2.2.2.2.2.2.1.length + 100
def yC (h0 : List (Ty.T (.int .i64))) (h1 : List (Ty.T (.int .i64))) (h2 : Int) (h3 : List (Ty.T aa)) (h4 : Int) (h5 : Int) (h6 : Ty.T y36) (h7 : Ty.T y48) (h8 : List (Ty.T (.int .i64))) (c : Nat) : Bool := iK mn sU (h0,h1,h2,h3,h4,h5,h6,h7,h8,()) c
def BZ (h0 : List (Ty.T (.int .i64))) (h1 : List (Ty.T (.int .i64))) (h2 : Int) (h3 : List (Ty.T aa)) (h4 : Int) (h5 : Int) (h6 : Ty.T y36) (h7 : Ty.T y48) (h8 : List (Ty.T (.int .i64))) : l6 := iW mn sU (h0,h1,h2,h3,h4,h5,h6,h7,h8,())
def K0 (v : l6) : aL (Ex × St) := aM mn (sU v) v (ar xH yS) [.exit 0] 0
theorem Of : aH Tryz.prog (aw (pb 5 23) (ab Tryz.f178)) xH yS K0 := ag (lt := .none) P3.ok ak (af.no _) fun n v K => et (lX v (bL _ _ _ _ _ K)) (by kernel_rfl) (show lX v _ = (lX v some).bind _ from (bC (bI (bO fun x1 => (bC (bC rfl (bC (bC rfl (bC (bI (bC (bI rfl) rfl)) (bC (bI (bC (bI rfl) rfl)) (bC (bI rfl) rfl)))) rfl)) rfl))) rfl))
def RA := P3.l (g := 178) (t := (a9 (pb 5 23) (ab Tryz.f178) .none (.sum xH yS K0))) (aC Tryz.func178 (af.put (aA (by kernel_rfl)) (af.no _) Of))
def RF (a0 : Ty.T y36) (a1 : List (Ty.T aa)) (a2 : Ty.T y48) (a3 : List (Ty.T (.int .i64))) : Option (AV × Sig) := cond (yC a3 [] 0 a1 ((a1).length : Int) 0 a0 a2 [] 0) (some (.one (.sl 4096),[(4096,.arr 3 (.int .i64) (BZ a3 [] 0 a1 ((a1).length : Int) 0 a0 a2 []).2.2.2.2.2.2.2.2.1 false)])) (none)
def bM (a0 : Ty.T y36) (a1 : List (Ty.T aa)) (a2 : Ty.T y48) (a3 : List (Ty.T (.int .i64))) : (List (Ty.T (.int .i64))) := cond (yC a3 [] 0 a1 ((a1).length : Int) 0 a0 a2 [] 0) ((BZ a3 [] 0 a1 ((a1).length : Int) 0 a0 a2 []).2.2.2.2.2.2.2.2.1) ([])
def d178 (a0 : Ty.T y36) (a1 : List (Ty.T aa)) (a2 : Ty.T y48) (a3 : List (Ty.T (.int .i64))) : Bool := cond (yC a3 [] 0 a1 ((a1).length : Int) 0 a0 a2 [] 0) (true) (false)
theorem Wu (a0 : Ty.T y36) (a1 : List (Ty.T aa)) (a2 : Ty.T y48) (a3 : List (Ty.T (.int .i64))) : RF a0 a1 a2 a3 = cond (d178 a0 a1 a2 a3) (some (f178 (bM a0 a1 a2 a3))) none := (pC (pS _) (pN _))
def abJ : Prim := ⟨[.agg [.dat y36 true],.one (.dat (.sl 103 aa) true),.agg [.dat y48 true],.one (.dat (.sl 3 (.int .i64)) true)],fun v => .br (d178 v.1 v.2.1 v.2.2.1 v.2.2.2.1) (.done (f178 (bM v.1 v.2.1 v.2.2.1 v.2.2.2.1))) .no⟩
theorem Qu : PO 178 abJ := pK RA fun v => et (RF v.1 v.2.1 v.2.2.1 v.2.2.2.1) (by kernel_rfl) (Wu v.1 v.2.1 v.2.2.1 v.2.2.2.1)
def f179 (r : Bool) : AV × Sig := (.one (.bool r),[])
def ZA := E0
def TA (a0 : Ty.T y48) : Option (AV × Sig) := cond (a0.2.2.2.2.1 == (0 : Int)) (some (.one (.bool (a0.1 != (2 : Int))),[])) (some (.one (.bool false),[]))
def Ck (a0 : Ty.T y48) : Bool := cond (a0.2.2.2.2.1 == (0 : Int)) ((a0.1 != (2 : Int))) (false)
theorem YQ (a0 : Ty.T y48) : TA a0 = some (f179 (Ck a0)) := (tC rfl rfl)
def XN : Prim := ⟨[.agg [.dat y48 true]],fun v => .done (f179 (Ck v.1))⟩
theorem Nv : PO 179 XN := pK ZA fun v => et (TA v.1) (by kernel_rfl) (YQ v.1)
def f217 (r : Int × (List (Ty.T (.int .i64)))) : AV × Sig := (.tup [(false,([.int .i64 r.1])),(false,([.sl 8192]))],[(8192,.arr 3 (.int .i64) r.2 false)])
def abG := (E0.p JL)
def t217 (a0 : List (Ty.T (.int .i64))) (a1 : Int) {Z : Type} (κ : Int × (List (Ty.T (.int .i64))) -> Option Z) : Option Z := cond (decide (a1 < (2 : Int))) (cond (d184 a0) (κ (0,(eB a0))) (none)) (cond (((a0).length : Int) == (0 : Int)) (cond (d184 a0) (κ (0,(eB a0))) (none)) (ay ((a0)[0]?) (fun x1 => if a1 = 0 then none else (cond (decide ((Int.tmod x1 a1) < (0 : Int))) (if (1 : Int) <= ((a0).length : Int) then (cond (d184 ((a0.take ((a0).length)).drop 1)) (κ (IntKind.wrap .i64 ((Int.tmod x1 a1) + a1),(eB ((a0.take ((a0).length)).drop 1)))) (none)) else none) (if (1 : Int) <= ((a0).length : Int) then (cond (d184 ((a0.take ((a0).length)).drop 1)) (κ (Int.tmod x1 a1,(eB ((a0.take ((a0).length)).drop 1)))) (none)) else none)))))
def zU (a0 : List (Ty.T (.int .i64))) (a1 : Int) : Int × (List (Ty.T (.int .i64))) := (t217 a0 a1 some).getD (0,[])
def d217 (a0 : List (Ty.T (.int .i64))) (a1 : Int) : Bool := (t217 a0 a1 some).isSome
def aab : Prim := ⟨[.one (.dat (.sl 3 (.int .i64)) true),oI],fun v => .br (d217 v.1 v.2.1) (.done (f217 (zU v.1 v.2.1))) .no⟩
theorem Tc : PO 217 aab := pK abG fun v => et ((t217 v.1 v.2.1 (sm f217))) (by kernel_rfl) (aN (show t217 v.1 v.2.1 (sm f217) = (t217 v.1 v.2.1 some).bind _ from by unfold t217; simp only [bb]))
def CU (r : Int × Bool × (Ty.T y36) × (List (Ty.T y48)) × (List (Ty.T aa)) × (List (Ty.T (.int .i64))) × (List (Ty.T an))) : AV × Sig := (.tup [(false,([.int .i64 r.1])),(false,([.bool r.2.1]))],[(4294967296,.box 143 ([.ptr 4294967297 0 0])),(4294967297,.box 148 ((y36.cells true r.2.2.1) ++ [.sl 17055744] ++ [.sl 17059840] ++ [.sl 17063936] ++ [.sl 17068032] ++ [.fnp 216 [4294967296]] ++ [.fn 218 []])),(17055744,.arr 56 y48 r.2.2.2.1 false),(17059840,.arr 103 aa r.2.2.2.2.1 false),(17063936,.arr 3 (.int .i64) r.2.2.2.2.2.1 false),(17068032,.arr 126 an r.2.2.2.2.2.2 false)])
def PC := (E0.p Tc)
def pB (a0 : Int) (a1 : Ty.T y36) (a2 : List (Ty.T y48)) (a3 : List (Ty.T aa)) (a4 : List (Ty.T (.int .i64))) (a5 : List (Ty.T an)) {Z : Type} (κ : Int × Bool × (Ty.T y36) × (List (Ty.T y48)) × (List (Ty.T aa)) × (List (Ty.T (.int .i64))) × (List (Ty.T an)) -> Option Z) : Option Z := cond (d217 a4 a0) (κ ((zU a4 a0).1,true,a1,a2,a3,(zU a4 a0).2,a5)) (none)
def aV (a0 : Int) (a1 : Ty.T y36) (a2 : List (Ty.T y48)) (a3 : List (Ty.T aa)) (a4 : List (Ty.T (.int .i64))) (a5 : List (Ty.T an)) : Int × Bool × (Ty.T y36) × (List (Ty.T y48)) × (List (Ty.T aa)) × (List (Ty.T (.int .i64))) × (List (Ty.T an)) := (pB a0 a1 a2 a3 a4 a5 some).getD (0,false,(Ty.zero y36),[],[],[],[])
def wI (a0 : Int) (a1 : Ty.T y36) (a2 : List (Ty.T y48)) (a3 : List (Ty.T aa)) (a4 : List (Ty.T (.int .i64))) (a5 : List (Ty.T an)) : Bool := (pB a0 a1 a2 a3 a4 a5 some).isSome
def PE : Gen := ⟨[false,false],[oI,.one (.ptr 4294967296 0)],[(4294967296,.box 143 [.ptr 4294967297 0]),(4294967297,.box 148 [.dat y36 true,.own 17055744,.own 17059840,.own 17063936,.own 17068032,.fnp 216 [4294967296],.fnc 218 []]),(17055744,.arr 56 y48 false),(17059840,.arr 103 aa false),(17063936,.arr 3 (.int .i64) false),(17068032,.arr 126 an false)],fun v => .br (wI v.1 v.2.1 v.2.2.1 v.2.2.2.1 v.2.2.2.2.1 v.2.2.2.2.2.1) (.done (CU (aV v.1 v.2.1 v.2.2.1 v.2.2.2.1 v.2.2.2.2.1 v.2.2.2.2.2.1))) .no⟩
theorem Lj : bD Tryz.prog 216 PE := mD PC.ok ak (aA (by kernel_rfl)) ⟨Tryz.f216,ab Tryz.f216,by kernel_rfl,by kernel_rfl⟩ fun v => et ((pB v.1 v.2.1 v.2.2.1 v.2.2.2.1 v.2.2.2.2.1 v.2.2.2.2.2.1 (sm CU))) (by kernel_rfl) (aN (show pB v.1 v.2.1 v.2.2.1 v.2.2.2.1 v.2.2.2.2.1 v.2.2.2.2.2.1 (sm CU) = (pB v.1 v.2.1 v.2.2.1 v.2.2.2.1 v.2.2.2.2.1 v.2.2.2.2.2.1 some).bind _ from (bC rfl rfl)))
def Jo (r : Bool) : AV × Sig := (.one (.bool r),[])
def OP := E0
def Ju (a0 : Ty.T aa) (a1 : Int) : Option (AV × Sig) := some (.one (.bool (a0.1 == a1)),[])
def xm (a0 : Ty.T aa) (a1 : Int) : Bool := (a0.1 == a1)
theorem Ot (a0 : Ty.T aa) (a1 : Int) : Ju a0 a1 = some (Jo (xm a0 a1)) := rfl
def Pb : Prim := ⟨[.agg [.dat aa true],.one (.ept (.int .i64))],fun v => .done (Jo (xm v.1 v.2.1))⟩
theorem Me : PO 234 Pb := pK OP fun v => et (Ju v.1 v.2.1) (by kernel_rfl) (Ot v.1 v.2.1)
def JF (r : Int) : AV × Sig := (.one (.int .i64 r),[])
def JN := (E0.p Me)
@[reducible] def pc : List SP := .one (.dat (.sl 103 aa) true) :: .one (.fnc 234 [(.int .i64)]) :: U2 (oI :: U2 (oI :: oI :: U8 (U2 ([]))))
@[reducible] def fT : Type := (List (Ty.T aa)) × Int × Int × Int × Int × Unit
def gW (v : fT) {Z : Type} (κ : Nat × fT -> Option Z) : Option Z := cond (decide (v.2.2.2.2.1 < v.2.2.2.1)) (if 0 <= v.2.2.2.2.1 then (ay ((v.1)[(v.2.2.2.2.1).toNat]?) (fun x1 => cond (xm x1 v.2.1) (κ (1,(v.1,v.2.1,v.2.2.2.2.1,v.2.2.2.1,v.2.2.2.2.1,()))) (κ (0,(v.1,v.2.1,v.2.2.1,v.2.2.2.1,IntKind.wrap .i64 (v.2.2.2.2.1 + (1 : Int)),()))))) else none) (κ (2,(v.1,v.2.1,v.2.2.1,v.2.2.2.1,v.2.2.2.2.1,())))
def hX (v : fT) : Option (Nat × fT) := gW v some
def kA (v : fT) : Nat := v.1.length + v.2.1.toNat + v.2.2.1.toNat + v.2.2.2.1.toNat + v.2.2.2.2.1.toNat + 100
def ep (h0 : List (Ty.T aa)) (h1 : Int) (h2 : Int) (h3 : Int) (h4 : Int) (c : Nat) : Bool := iK hX kA (h0,h1,h2,h3,h4,()) c
def ry (h0 : List (Ty.T aa)) (h1 : Int) (h2 : Int) (h3 : Int) (h4 : Int) : fT := iW hX kA (h0,h1,h2,h3,h4,())
def zA (v : fT) : aL (Ex × St) := aM hX (kA v) v (ar pc aB) [.ret,.exit 0] 0
theorem I3 : aH Tryz.prog (aw (pb 3 5) (ab Tryz.f233)) pc aB zA := ag (lt := .none) JN.ok ak (af.no _) fun n v K => et (gW v (bL _ _ _ _ _ K)) (by kernel_rfl) (show gW v _ = (gW v some).bind _ from (bC (bI (bO fun x1 => (bC rfl rfl))) rfl))
def Lc := JN.l (g := 233) (t := (a9 (pb 3 5) (ab Tryz.f233) .none (.sum pc aB zA))) (aC Tryz.func233 (af.put (aA (by kernel_rfl)) (af.no _) I3))
def HW (a0 : List (Ty.T aa)) (a1_0 : Int) : Option (AV × Sig) := cond (ep a0 a1_0 0 ((a0).length : Int) 0 0) (some (.one (.int .i64 (ry a0 a1_0 0 ((a0).length : Int) 0).2.2.1),[])) (cond (ep a0 a1_0 0 ((a0).length : Int) 0 1) (some (.one (.int .i64 (-1)),[])) (none))
def ox (a0 : List (Ty.T aa)) (a1_0 : Int) : Int := cond (ep a0 a1_0 0 ((a0).length : Int) 0 0) ((ry a0 a1_0 0 ((a0).length : Int) 0).2.2.1) (cond (ep a0 a1_0 0 ((a0).length : Int) 0 1) ((-1)) (0))
def lP (a0 : List (Ty.T aa)) (a1_0 : Int) : Bool := cond (ep a0 a1_0 0 ((a0).length : Int) 0 0) (true) (cond (ep a0 a1_0 0 ((a0).length : Int) 0 1) (true) (false))
theorem Oh (a0 : List (Ty.T aa)) (a1_0 : Int) : HW a0 a1_0 = cond (lP a0 a1_0) (some (JF (ox a0 a1_0))) none := (pC (pS _) (pC (pS _) (pN _)))
def PM : Prim := ⟨[.one (.dat (.sl 103 aa) true),.one (.fnc 234 [(.int .i64)])],fun v => .br (lP v.1 v.2.1) (.done (JF (ox v.1 v.2.1))) .no⟩
theorem LY : PO 233 PM := pK Lc fun v => et (HW v.1 v.2.1) (by kernel_rfl) (Oh v.1 v.2.1)
def f181 (r : Int) : AV × Sig := (.one (.int .i64 r),[])
def Xz := (E0.p LY)
def T4 (a0 : List (Ty.T aa)) (a1 : Int) : Option (AV × Sig) := cond (lP a0 a1) (some (.one (.int .i64 (ox a0 a1)),[])) (none)
def uf (a0 : List (Ty.T aa)) (a1 : Int) : Int := cond (lP a0 a1) ((ox a0 a1)) (0)
def d181 (a0 : List (Ty.T aa)) (a1 : Int) : Bool := cond (lP a0 a1) (true) (false)
theorem XG (a0 : List (Ty.T aa)) (a1 : Int) : T4 a0 a1 = cond (d181 a0 a1) (some (f181 (uf a0 a1))) none := (pC (pS _) (pN _))
def aao : Prim := ⟨[.one (.dat (.sl 103 aa) true),oI],fun v => .br (d181 v.1 v.2.1) (.done (f181 (uf v.1 v.2.1))) .no⟩
theorem MZ : PO 181 aao := pK Xz fun v => et (T4 v.1 v.2.1) (by kernel_rfl) (XG v.1 v.2.1)
def f267 (r : Int) : AV × Sig := (.one (.int .i64 r),[])
def Z9 := E0
def VL (a0 : Int) (a1 : Int) : Option (AV × Sig) := some (.one (.int .i64 (if (if a1 < a0 then a1 else a0) > (0 : Int) then if a1 < a0 then a1 else a0 else 0)),[])
def ic (a0 : Int) (a1 : Int) : Int := if (if a1 < a0 then a1 else a0) > (0 : Int) then if a1 < a0 then a1 else a0 else 0
theorem ab0 (a0 : Int) (a1 : Int) : VL a0 a1 = some (f267 (ic a0 a1)) := rfl
def V4 : Prim := ⟨[oI,oI],fun v => .done (f267 (ic v.1 v.2.1))⟩
theorem AB : PO 267 V4 := pK Z9 fun v => et (VL v.1 v.2.1) (by kernel_rfl) (ab0 v.1 v.2.1)
def f268 (r : (Ty.T y48)) : AV × Sig := (.agg (y48.cells false r),[])
def V7 := (E0.p AB)
def Ql (a0 : Ty.T y48) (a1 : Int) : Option (AV × Sig) := some (.agg [.int .i64 a0.1,.int .i64 a0.2.1,.int .i64 a0.2.2.1,.int .i64 a0.2.2.2.1,.int .i64 (ic a1 2147483647),.int .i64 a0.2.2.2.2.2.1,.bool a0.2.2.2.2.2.2],[])
def Au (a0 : Ty.T y48) (a1 : Int) : (Ty.T y48) := (a0.1,a0.2.1,a0.2.2.1,a0.2.2.2.1,(ic a1 2147483647),a0.2.2.2.2.2)
theorem ZD (a0 : Ty.T y48) (a1 : Int) : Ql a0 a1 = some (f268 (Au a0 a1)) := rfl
def X6 : Prim := ⟨[.agg [.dat y48 true],oI],fun v => .done (f268 (Au v.1 v.2.1))⟩
theorem Uk : PO 268 X6 := pK V7 fun v => et (Ql v.1 v.2.1) (by kernel_rfl) (ZD v.1 v.2.1)
def f291 (r : Int) : AV × Sig := (.one (.int .i64 r),[])
def Z0 := (E0.p vk)
def Ry (a0 : Int) (a1 : Int) : Option (AV × Sig) := some (.one (.int .i64 (eu (IntKind.wrap .i64 ((eu a0) + (eu a1))))),[])
def FQ (a0 : Int) (a1 : Int) : Int := (eu (IntKind.wrap .i64 ((eu a0) + (eu a1))))
theorem Yw (a0 : Int) (a1 : Int) : Ry a0 a1 = some (f291 (FQ a0 a1)) := rfl
def Wf : Prim := ⟨[oI,oI],fun v => .done (f291 (FQ v.1 v.2.1))⟩
theorem Vy : PO 291 Wf := pK Z0 fun v => et (Ry v.1 v.2.1) (by kernel_rfl) (Yw v.1 v.2.1)
def f292 (r : Int) : AV × Sig := (.one (.int .i64 r),[])
def Xr := (E0.p vk)
def SA (a0 : Int) : Option (AV × Sig) := some (.one (.int .i64 (eu (IntKind.wrap .i64 ((2 : Int) * (eu a0))))),[])
def Gm (a0 : Int) : Int := (eu (IntKind.wrap .i64 ((2 : Int) * (eu a0))))
theorem Y5 (a0 : Int) : SA a0 = some (f292 (Gm a0)) := rfl
def acI : Prim := ⟨[oI],fun v => .done (f292 (Gm v.1))⟩
theorem U0 : PO 292 acI := pK Xr fun v => et (SA v.1) (by kernel_rfl) (Y5 v.1)
def f293 (r : Int) : AV × Sig := (.one (.int .i64 r),[])
def Zp := (E0.p vk)
def SD (a0 : Int) : Option (AV × Sig) := some (.one (.int .i64 (IntKind.wrap .i64 ((eu a0).tdiv (2 : Int)))),[])
def FY (a0 : Int) : Int := IntKind.wrap .i64 ((eu a0).tdiv (2 : Int))
theorem aas (a0 : Int) : SD a0 = some (f293 (FY a0)) := rfl
def WY : Prim := ⟨[oI],fun v => .done (f293 (FY v.1))⟩
theorem Ux : PO 293 WY := pK Zp fun v => et (SD v.1) (by kernel_rfl) (aas v.1)
def f269 (r : Int) : AV × Sig := (.one (.int .i64 r),[])
def Yk := ((((E0.p AB).p Vy).p U0).p Ux)
def SV (a0 : Ty.T aZ) (a1 : Int) : Option (AV × Sig) := cond (a0.1 == (1 : Int)) (some (.one (.int .i64 0),[])) (cond (a0.1 == (3 : Int)) (some (.one (.int .i64 (FQ (ic a1 2147483647) a0.2.1)),[])) (cond (a0.1 == (4 : Int)) (some (.one (.int .i64 (Gm (ic a1 2147483647))),[])) (cond (a0.1 == (5 : Int)) (some (.one (.int .i64 (FY (ic a1 2147483647))),[])) (some (.one (.int .i64 (ic a1 2147483647)),[])))))
def DY (a0 : Ty.T aZ) (a1 : Int) : Int := cond (a0.1 == (1 : Int)) (0) (cond (a0.1 == (3 : Int)) ((FQ (ic a1 2147483647) a0.2.1)) (cond (a0.1 == (4 : Int)) ((Gm (ic a1 2147483647))) (cond (a0.1 == (5 : Int)) ((FY (ic a1 2147483647))) ((ic a1 2147483647)))))
theorem aaB (a0 : Ty.T aZ) (a1 : Int) : SV a0 a1 = some (f269 (DY a0 a1)) := (tC rfl (tC rfl (tC rfl (tC rfl rfl))))
def We : Prim := ⟨[.agg [.dat aZ true],oI],fun v => .done (f269 (DY v.1 v.2.1))⟩
theorem Rg : PO 269 We := pK Yk fun v => et (SV v.1 v.2.1) (by kernel_rfl) (aaB v.1 v.2.1)
def f270 (r : (List (Ty.T y48))) : AV × Sig := (.one (.sl 4096),[(4096,.arr 56 y48 r false)])
def Ud := (E0.p AB)
@[reducible] def yD : List SP := U2 (.und :: .one (.ptr 3 0) :: .one (.dat (.sl 56 y48) false) :: .one (.own 8) :: U8 (.one (.dat (.sl 56 y48) true) :: oI :: oI :: U16 ([])))
@[reducible] def xK : List (Nat × GP) := [(3,.box 56 [.dat y48 false]),(8,.arr 56 y48 false)]
@[reducible] def l8 : Type := (List (Ty.T y48)) × (List (Ty.T y48)) × Int × Int × (Ty.T y48) × (List (Ty.T y48)) × Unit
def oT (v : l8) {Z : Type} (κ : Nat × l8 -> Option Z) : Option Z := cond (decide (v.2.2.2.1 < v.2.2.1)) (if 0 <= v.2.2.2.1 then (ay ((v.2.1)[(v.2.2.2.1).toNat]?) (fun x1 => cond (x1.2.2.2.2.1 == (-1 : Int)) (if (v.2.2.2.2.2.1 ++ [(x1.1,x1.2.1,x1.2.2.1,x1.2.2.2.1,(ic v.2.2.2.2.1.2.2.2.2.1 2147483647),x1.2.2.2.2.2)] : List (Ty.T y48)).length * 56 <= 140737488351232 then (κ (0,(v.1,v.2.1,v.2.2.1,IntKind.wrap .i64 (v.2.2.2.1 + (1 : Int)),v.2.2.2.2.1,v.2.2.2.2.2.1 ++ [(x1.1,x1.2.1,x1.2.2.1,x1.2.2.2.1,(ic v.2.2.2.2.1.2.2.2.2.1 2147483647),x1.2.2.2.2.2)],()))) else none) (if (v.2.2.2.2.2.1 ++ [x1] : List (Ty.T y48)).length * 56 <= 140737488351232 then (κ (0,(v.1,v.2.1,v.2.2.1,IntKind.wrap .i64 (v.2.2.2.1 + (1 : Int)),v.2.2.2.2.1,v.2.2.2.2.2.1 ++ [x1],()))) else none))) else none) (κ (1,(v.1,v.2.1,v.2.2.1,v.2.2.2.1,v.2.2.2.2.1,v.2.2.2.2.2.1,())))
def pr (v : l8) : Option (Nat × l8) := oT v some
def qP (v : l8) : Nat := v.1.length + v.2.1.length + v.2.2.1.toNat + v.2.2.2.1.toNat + v.2.2.2.2.2.1.length + 100
def yU (h0 : List (Ty.T y48)) (h1 : List (Ty.T y48)) (h2 : Int) (h3 : Int) (h4 : Ty.T y48) (h5 : List (Ty.T y48)) (c : Nat) : Bool := iK pr qP (h0,h1,h2,h3,h4,h5,()) c
def CK (h0 : List (Ty.T y48)) (h1 : List (Ty.T y48)) (h2 : Int) (h3 : Int) (h4 : Ty.T y48) (h5 : List (Ty.T y48)) : l8 := iW pr qP (h0,h1,h2,h3,h4,h5,())
def HM (v : l8) : aL (Ex × St) := aM pr (qP v) v (ar yD xK) [.exit 0] 0
theorem Px : aH Tryz.prog (aw (pb 5 23) (ab Tryz.f270)) yD xK HM := ag (lt := .none) Ud.ok ak (af.no _) fun n v K => et (oT v (bL _ _ _ _ _ K)) (by kernel_rfl) (show oT v _ = (oT v some).bind _ from (bC (bI (bO fun x1 => (bC (bI rfl) (bI rfl)))) rfl))
def RJ := Ud.l (g := 270) (t := (a9 (pb 5 23) (ab Tryz.f270) .none (.sum yD xK HM))) (aC Tryz.func270 (af.put (aA (by kernel_rfl)) (af.no _) Px))
def Rm (a0 : Ty.T aZ) (a1 : Ty.T y48) : Option (AV × Sig) := cond (a0.1 != (9 : Int)) (some (.one (.sl 4096),[(4096,.arr 56 y48 [] false)])) (cond (yU [] a0.2.2.2.2.2.2 ((a0.2.2.2.2.2.2).length : Int) 0 a1 [] 0) (some (.one (.sl 4096),[(4096,.arr 56 y48 (CK [] a0.2.2.2.2.2.2 ((a0.2.2.2.2.2.2).length : Int) 0 a1 []).2.2.2.2.2.1 false)])) (none))
def ud (a0 : Ty.T aZ) (a1 : Ty.T y48) : (List (Ty.T y48)) := cond (a0.1 != (9 : Int)) ([]) (cond (yU [] a0.2.2.2.2.2.2 ((a0.2.2.2.2.2.2).length : Int) 0 a1 [] 0) ((CK [] a0.2.2.2.2.2.2 ((a0.2.2.2.2.2.2).length : Int) 0 a1 []).2.2.2.2.2.1) ([]))
def d270 (a0 : Ty.T aZ) (a1 : Ty.T y48) : Bool := cond (a0.1 != (9 : Int)) (true) (cond (yU [] a0.2.2.2.2.2.2 ((a0.2.2.2.2.2.2).length : Int) 0 a1 [] 0) (true) (false))
theorem Xa (a0 : Ty.T aZ) (a1 : Ty.T y48) : Rm a0 a1 = cond (d270 a0 a1) (some (f270 (ud a0 a1))) none := (pC (pS _) (pC (pS _) (pN _)))
def VQ : Prim := ⟨[.agg [.dat aZ true],.agg [.dat y48 true]],fun v => .br (d270 v.1 v.2.1) (.done (f270 (ud v.1 v.2.1))) .no⟩
theorem Sz : PO 270 VQ := pK RJ fun v => et (Rm v.1 v.2.1) (by kernel_rfl) (Xa v.1 v.2.1)
def f229 (r : Int × (List (Ty.T y48))) : AV × Sig := (.tup [(false,([.sl 4096])),(false,([.int .i64 r.1]))],[(4096,.arr 56 y48 r.2 false)])
def SJ := ((((E0.p AB).p Uk).p Rg).p Sz)
@[reducible] def Fb : List SP := U2 (.und :: .one (.ptr 3 0) :: .one (.dat (.sl 56 y48) false) :: oI :: .one (.ptr 6 0) :: U64 (U16 (U2 ([]))))
@[reducible] def Eg : List (Nat × GP) := [(3,.box 56 [.dat y48 false]),(6,.box 101 [.dat aZ true])]
@[reducible] def yQ : Type := (List (Ty.T y48)) × Int × (Ty.T y48) × (Ty.T aZ) × Unit
@[reducible] def Ep : List SP := U2 (.und :: .one (.ptr 3 0) :: .one (.dat (.sl 56 y48) false) :: oI :: U64 (U16 (U2 (.und :: []))))
@[reducible] def ES : List (Nat × GP) := [(3,.box 56 [.dat y48 false])]
def xW (v : yQ) (r : Unit) : Ex × St := (.normal,ar Ep ES (v.1,v.2.1,(v.2.2.1.1,v.2.2.1.2.1,v.2.2.2.1.2.2.1,v.2.2.2.1.2.2.2.1,v.2.2.1.2.2.2.2),()))
def xl (v : yQ) {Z : Type} (κ : Unit -> Z) : Z := κ ()
def OV (v : yQ) : Unit := xl v id
def Ku (v : yQ) : aL (Ex × St) := .done (xW v (OV v))
theorem Oi : bo Tryz.prog (aO (pb 12 2043) (ab Tryz.f229)) Fb Eg Ku := dp (by kernel_rfl) (sx := Ep) (gx := ES) SJ.ok ak (by kernel_rfl) 2 fun v => et (List.replicate 2 (xl v (sm (xW v)))) (by kernel_rfl) (congrArg (List.replicate 2) (show xl v (sm (xW v)) = some (xW v (xl v id)) from rfl))
def RM := SJ.l (g := 229) (t := (aX (pb 12 2043) (ab Tryz.f229) .none (.sum Fb Eg Ku))) (aC Tryz.func229 (af.cX (aA (by kernel_rfl)) (af.no _) Oi))
def dq (a0 : Ty.T aa) (a1 : Ty.T y48) := (ic (IntKind.wrap .i64 (a1.2.2.2.2.1 + a0.2.2.2.2.2.2.1.2.1)) 99)
def t229 (a0 : Ty.T aa) (a1 : Ty.T y48) {Z : Type} (κ : Int × (List (Ty.T y48)) -> Option Z) : Option Z := cond (a0.2.2.2.2.2.2.1.1 == (1 : Int)) (cond (a1.1 == (1 : Int)) (κ (a1.2.2.2.2.1,[])) (κ (0,[]))) (cond (a0.2.2.2.2.2.2.1.1 == (2 : Int)) (κ ((ic a1.2.2.2.2.1 a0.2.2.2.2.2.2.2.2),[(Au a1 (IntKind.wrap .i64 (a1.2.2.2.2.1 - (ic a1.2.2.2.2.1 a0.2.2.2.2.2.2.2.2))))])) (cond (a0.2.2.2.2.2.2.1.1 == (3 : Int)) (cond (a0.2.2.2.2.2.2.1.1 == (3 : Int)) (κ (0,[(Au a1 (DY a0.2.2.2.2.2.2.1 a1.2.2.2.2.1))])) (cond (a0.2.2.2.2.2.2.1.1 == (6 : Int)) (κ (0,[(a1.1,a1.2.1,a0.2.2.2.2.2.2.1.2.2.1,a0.2.2.2.2.2.2.1.2.2.2.1,a1.2.2.2.2)])) (cond (a0.2.2.2.2.2.2.1.1 == (7 : Int)) (cond (a0.2.2.2.2.2.2.1.2.2.2.2.1 != (2 : Int)) (κ (0,[(a1.1,a1.2.1,a1.2.2.1,a1.2.2.2.1,0,a0.2.2.2.2.2.2.1.2.2.2.2.1,false)])) (κ (0,[(a1.1,a1.2.1,a1.2.2.1,a1.2.2.2.1,a1.2.2.2.2.1,a0.2.2.2.2.2.2.1.2.2.2.2.1,a1.2.2.2.2.2.2)]))) (cond (a0.2.2.2.2.2.2.1.1 == (8 : Int)) (cond (a1.2.2.2.2.2.1 == (2 : Int)) (cond a1.2.2.2.2.2.2 (κ (0,[(a1.1,a1.2.1,a1.2.2.1,a1.2.2.2.1,(dq a0 a1),a1.2.2.2.2.2.1,true)])) (κ (0,[(a1.1,a1.2.1,a1.2.2.1,a1.2.2.2.1,(dq a0 a1),a1.2.2.2.2.2.1,a0.2.2.2.2.2.2.1.2.2.2.2.2.1)]))) (κ (0,[a1]))) (cond (a0.2.2.2.2.2.2.1.1 == (9 : Int)) (cond (d270 a0.2.2.2.2.2.2.1 a1) (κ (0,(ud a0.2.2.2.2.2.2.1 a1))) (none)) (κ (0,[a1]))))))) (cond (a0.2.2.2.2.2.2.1.1 == (4 : Int)) (cond (a0.2.2.2.2.2.2.1.1 == (4 : Int)) (κ (0,[(Au a1 (DY a0.2.2.2.2.2.2.1 a1.2.2.2.2.1))])) (cond (a0.2.2.2.2.2.2.1.1 == (6 : Int)) (κ (0,[(a1.1,a1.2.1,a0.2.2.2.2.2.2.1.2.2.1,a0.2.2.2.2.2.2.1.2.2.2.1,a1.2.2.2.2)])) (cond (a0.2.2.2.2.2.2.1.1 == (7 : Int)) (cond (a0.2.2.2.2.2.2.1.2.2.2.2.1 != (2 : Int)) (κ (0,[(a1.1,a1.2.1,a1.2.2.1,a1.2.2.2.1,0,a0.2.2.2.2.2.2.1.2.2.2.2.1,false)])) (κ (0,[(a1.1,a1.2.1,a1.2.2.1,a1.2.2.2.1,a1.2.2.2.2.1,a0.2.2.2.2.2.2.1.2.2.2.2.1,a1.2.2.2.2.2.2)]))) (cond (a0.2.2.2.2.2.2.1.1 == (8 : Int)) (cond (a1.2.2.2.2.2.1 == (2 : Int)) (cond a1.2.2.2.2.2.2 (κ (0,[(a1.1,a1.2.1,a1.2.2.1,a1.2.2.2.1,(dq a0 a1),a1.2.2.2.2.2.1,true)])) (κ (0,[(a1.1,a1.2.1,a1.2.2.1,a1.2.2.2.1,(dq a0 a1),a1.2.2.2.2.2.1,a0.2.2.2.2.2.2.1.2.2.2.2.2.1)]))) (κ (0,[a1]))) (cond (a0.2.2.2.2.2.2.1.1 == (9 : Int)) (cond (d270 a0.2.2.2.2.2.2.1 a1) (κ (0,(ud a0.2.2.2.2.2.2.1 a1))) (none)) (κ (0,[a1]))))))) (cond (a0.2.2.2.2.2.2.1.1 == (5 : Int)) (κ (0,[(Au a1 (DY a0.2.2.2.2.2.2.1 a1.2.2.2.2.1))])) (cond (a0.2.2.2.2.2.2.1.1 == (6 : Int)) (κ (0,[(a1.1,a1.2.1,a0.2.2.2.2.2.2.1.2.2.1,a0.2.2.2.2.2.2.1.2.2.2.1,a1.2.2.2.2)])) (cond (a0.2.2.2.2.2.2.1.1 == (7 : Int)) (cond (a0.2.2.2.2.2.2.1.2.2.2.2.1 != (2 : Int)) (κ (0,[(a1.1,a1.2.1,a1.2.2.1,a1.2.2.2.1,0,a0.2.2.2.2.2.2.1.2.2.2.2.1,false)])) (κ (0,[(a1.1,a1.2.1,a1.2.2.1,a1.2.2.2.1,a1.2.2.2.2.1,a0.2.2.2.2.2.2.1.2.2.2.2.1,a1.2.2.2.2.2.2)]))) (cond (a0.2.2.2.2.2.2.1.1 == (8 : Int)) (cond (a1.2.2.2.2.2.1 == (2 : Int)) (cond a1.2.2.2.2.2.2 (κ (0,[(a1.1,a1.2.1,a1.2.2.1,a1.2.2.2.1,(dq a0 a1),a1.2.2.2.2.2.1,true)])) (κ (0,[(a1.1,a1.2.1,a1.2.2.1,a1.2.2.2.1,(dq a0 a1),a1.2.2.2.2.2.1,a0.2.2.2.2.2.2.1.2.2.2.2.2.1)]))) (κ (0,[a1]))) (cond (a0.2.2.2.2.2.2.1.1 == (9 : Int)) (cond (d270 a0.2.2.2.2.2.2.1 a1) (κ (0,(ud a0.2.2.2.2.2.2.1 a1))) (none)) (κ (0,[a1]))))))))))
def gP (a0 : Ty.T aa) (a1 : Ty.T y48) : Int × (List (Ty.T y48)) := (t229 a0 a1 some).getD (0,[])
def d229 (a0 : Ty.T aa) (a1 : Ty.T y48) : Bool := (t229 a0 a1 some).isSome
def aco : Prim := ⟨[.agg [.dat aa true],.agg [.dat y48 true]],fun v => .br (d229 v.1 v.2.1) (.done (f229 (gP v.1 v.2.1))) .no⟩
theorem TO : PO 229 aco := pK RM fun v => et ((t229 v.1 v.2.1 (sm f229))) (by kernel_rfl) (aN (show t229 v.1 v.2.1 (sm f229) = (t229 v.1 v.2.1 some).bind _ from by unfold t229; simp only [bb]))
def f272 (r : Int) : AV × Sig := (.one (.int .i64 r),[])
def Zt := (E0.p vk)
def Uh (a0 : Int) (a1 : Int) : Option (AV × Sig) := some (.one (.int .i64 (eu (IntKind.wrap .i64 ((eu a0) - (eu a1))))),[])
def I6 (a0 : Int) (a1 : Int) : Int := (eu (IntKind.wrap .i64 ((eu a0) - (eu a1))))
theorem Z6 (a0 : Int) (a1 : Int) : Uh a0 a1 = some (f272 (I6 a0 a1)) := rfl
def aa4 : Prim := ⟨[oI,oI],fun v => .done (f272 (I6 v.1 v.2.1))⟩
theorem QI : PO 272 aa4 := pK Zt fun v => et (Uh v.1 v.2.1) (by kernel_rfl) (Z6 v.1 v.2.1)
def f232 (r : (Ty.T q1) × (Ty.T y98) × (List (Ty.T y48))) : AV × Sig := (.agg ((q1.cells false r.1) ++ [.sl 81920] ++ (y98.cells false r.2.1)),[(81920,.arr 56 y48 r.2.2 false)])
def ab6 := (((E0.p EV).p AB).p QI)
def t232 (a0 : Ty.T aa) (a1 : Int) {Z : Type} (κ : (Ty.T q1) × (Ty.T y98) × (List (Ty.T y48)) -> Option Z) : Option Z := cond (d165 a0) (cond ((bA a0).1.2.2.2.2.2.2.1 == (2 : Int)) (κ ((bA a0).1,((bA a0).2.1.1,(ic (I6 (bA a0).2.1.2 a1) 2147483647)),(bA a0).2.2)) (cond (decide ((bA a0).2.1.2 > (0 : Int))) (κ ((bA a0).1,((bA a0).2.1.1,IntKind.wrap .i64 ((bA a0).2.1.2 - (1 : Int))),(bA a0).2.2)) (κ ((bA a0).1,(bA a0).2.1,(bA a0).2.2)))) (none)
def Gw (a0 : Ty.T aa) (a1 : Int) : (Ty.T q1) × (Ty.T y98) × (List (Ty.T y48)) := (t232 a0 a1 some).getD ((Ty.zero q1),(Ty.zero y98),[])
def d232 (a0 : Ty.T aa) (a1 : Int) : Bool := (t232 a0 a1 some).isSome
def W7 : Prim := ⟨[.agg [.dat aa true],oI],fun v => .br (d232 v.1 v.2.1) (.done (f232 (Gw v.1 v.2.1))) .no⟩
theorem UE : PO 232 W7 := pK ab6 fun v => et ((t232 v.1 v.2.1 (sm f232))) (by kernel_rfl) (aN (show t232 v.1 v.2.1 (sm f232) = (t232 v.1 v.2.1 some).bind _ from (bC (bC rfl (bC rfl rfl)) rfl)))
def f231 (r : Bool) : AV × Sig := (.one (.bool r),[])
def acL := ((E0.p Nv).p I1)
def Re (a0 : Ty.T y48) : Option (AV × Sig) := cond (!(v96 a0)) (some (.one (.bool true),[])) (some (.one (.bool (Ck a0)),[]))
def ga (a0 : Ty.T y48) : Bool := cond (!(v96 a0)) (true) ((Ck a0))
theorem abY (a0 : Ty.T y48) : Re a0 = some (f231 (ga a0)) := (tC rfl rfl)
def Wl : Prim := ⟨[.agg [.dat y48 true]],fun v => .done (f231 (ga v.1))⟩
theorem M9 : PO 231 Wl := pK acL fun v => et (Re v.1) (by kernel_rfl) (abY v.1)
def I8 (r : Int) : AV × Sig := (.one (.int .i64 r),[])
def GY := (E0.p M9)
@[reducible] def oY : List SP := .one (.dat (.sl 56 y48) true) :: .one (.fnc 231 []) :: U2 (oI :: U2 (oI :: oI :: U8 (U2 ([]))))
def gY (v : cz) {Z : Type} (κ : Nat × cz -> Option Z) : Option Z := cond (decide (v.2.2.2.1 < v.2.2.1)) (if 0 <= v.2.2.2.1 then (ay ((v.1)[(v.2.2.2.1).toNat]?) (fun x1 => cond (ga x1) (κ (1,(v.1,v.2.2.2.1,v.2.2.1,v.2.2.2.1,()))) (κ (0,(v.1,v.2.1,v.2.2.1,IntKind.wrap .i64 (v.2.2.2.1 + (1 : Int)),()))))) else none) (κ (2,(v.1,v.2.1,v.2.2.1,v.2.2.2.1,())))
def g9 (v : cz) : Option (Nat × cz) := gY v some
def jX (v : cz) : Nat := v.1.length + v.2.1.toNat + v.2.2.1.toNat + v.2.2.2.1.toNat + 100
def eg (h0 : List (Ty.T y48)) (h1 : Int) (h2 : Int) (h3 : Int) (c : Nat) : Bool := iK g9 jX (h0,h1,h2,h3,()) c
def tR (h0 : List (Ty.T y48)) (h1 : Int) (h2 : Int) (h3 : Int) : cz := iW g9 jX (h0,h1,h2,h3,())
def zr (v : cz) : aL (Ex × St) := aM g9 (jX v) v (ar oY aB) [.ret,.exit 0] 0
theorem JJ : aH Tryz.prog (aw (pb 3 5) (ab Tryz.f271)) oY aB zr := ag (lt := .none) GY.ok ak (af.no _) fun n v K => et (gY v (bL _ _ _ _ _ K)) (by kernel_rfl) (show gY v _ = (gY v some).bind _ from (bC (bI (bO fun x1 => (bC rfl rfl))) rfl))
def L5 := GY.l (g := 271) (t := (a9 (pb 3 5) (ab Tryz.f271) .none (.sum oY aB zr))) (aC Tryz.func271 (af.put (aA (by kernel_rfl)) (af.no _) JJ))
def Kq (a0 : List (Ty.T y48)) : Option (AV × Sig) := cond (eg a0 0 ((a0).length : Int) 0 0) (some (.one (.int .i64 (tR a0 0 ((a0).length : Int) 0).2.1),[])) (cond (eg a0 0 ((a0).length : Int) 0 1) (some (.one (.int .i64 (-1)),[])) (none))
def aS (a0 : List (Ty.T y48)) : Int := cond (eg a0 0 ((a0).length : Int) 0 0) ((tR a0 0 ((a0).length : Int) 0).2.1) (cond (eg a0 0 ((a0).length : Int) 0 1) ((-1)) (0))
def tq (a0 : List (Ty.T y48)) : Bool := cond (eg a0 0 ((a0).length : Int) 0 0) (true) (cond (eg a0 0 ((a0).length : Int) 0 1) (true) (false))
theorem O5 (a0 : List (Ty.T y48)) : Kq a0 = cond (tq a0) (some (I8 (aS a0))) none := (pC (pS _) (pC (pS _) (pN _)))
def OS : Prim := ⟨[.one (.dat (.sl 56 y48) true),.one (.fnc 231 [])],fun v => .br (tq v.1) (.done (I8 (aS v.1))) .no⟩
theorem Mk : PO 271 OS := pK L5 fun v => et (Kq v.1) (by kernel_rfl) (O5 v.1)
def BY (r : (List (Ty.T y48))) : AV × Sig := (.one (.sl 33554432),[(33554432,.arr 56 y48 r false)])
def KG := ((E0.p Mk).p M9)
@[reducible] def oZ : List SP := .one (.own 41943040) :: .one (.fnc 231 []) :: U2 (.one (.dat (.sl 56 y48) false) :: oI :: oI :: U32 (U2 (.und :: [])))
@[reducible] def oU : List (Nat × GP) := [(41943040,.arr 56 y48 false)]
@[reducible] def fK : Type := (List (Ty.T y48)) × Int × Int × (List (Ty.T y48)) × Unit
def fW (v : fK) {Z : Type} (κ : Nat × fK -> Option Z) : Option Z := cond (decide (v.2.2.1 < ((v.2.2.2.1).length : Int))) (if 0 <= v.2.2.1 then (if v.2.2.1 < ((v.2.2.2.1).length : Int) then (ay ((v.2.2.2.1)[(v.2.2.1).toNat]?) (fun x1 => cond (!(ga x1)) (if 0 <= v.2.1 then (if v.2.1 < ((v.2.2.2.1).length : Int) then (ay ((v.2.2.2.1)[(v.2.1).toNat]?) (fun x2 => κ (0,(v.1,IntKind.wrap .i64 (v.2.1 + (1 : Int)),IntKind.wrap .i64 (v.2.2.1 + (1 : Int)),v.2.2.2.1.set ((v.2.1).toNat) x1,())))) else none) else none) (κ (0,(v.1,v.2.1,IntKind.wrap .i64 (v.2.2.1 + (1 : Int)),v.2.2.2.1,()))))) else none) else none) (κ (1,(v.1,v.2.1,v.2.2.1,v.2.2.2.1,())))
def fX (v : fK) : Option (Nat × fK) := fW v some
def jK (v : fK) : Nat := v.1.length + v.2.1.toNat + v.2.2.1.toNat + v.2.2.2.1.length + 100
def zB (h0 : List (Ty.T y48)) (h1 : Int) (h2 : Int) (h3 : List (Ty.T y48)) (c : Nat) : Bool := iK fX jK (h0,h1,h2,h3,()) c
def bq (h0 : List (Ty.T y48)) (h1 : Int) (h2 : Int) (h3 : List (Ty.T y48)) : fK := iW fX jK (h0,h1,h2,h3,())
def A5 (v : fK) : aL (Ex × St) := aM fX (jK v) v (ar oZ oU) [.exit 0] 0
theorem JE : aH Tryz.prog (aw (pb 5 23) (ab Tryz.f230)) oZ oU A5 := ag (lt := .none) KG.ok ak (af.no _) fun n v K => et (fW v (bL _ _ _ _ _ K)) (by kernel_rfl) (show fW v _ = (fW v some).bind _ from (bC (bI (bI (bO fun x1 => (bC (bI (bI (bO fun x2 => rfl))) rfl)))) rfl))
def L7 := KG.l (g := 230) (t := (a9 (pb 5 23) (ab Tryz.f230) .none (.sum oZ oU A5))) (aC Tryz.func230 (af.put (aA (by kernel_rfl)) (af.no _) JE))
def lF (a0 : List (Ty.T y48)) {Z : Type} (κ : (List (Ty.T y48)) -> Option Z) : Option Z := cond (tq a0) (cond ((aS a0) == (-1 : Int)) (κ a0) (cond (zB [] (aS a0) (IntKind.wrap .i64 ((aS a0) + (1 : Int))) a0 0) (if 0 <= (bq [] (aS a0) (IntKind.wrap .i64 ((aS a0) + (1 : Int))) a0).2.1 then (if (bq [] (aS a0) (IntKind.wrap .i64 ((aS a0) + (1 : Int))) a0).2.1 <= (((bq [] (aS a0) (IntKind.wrap .i64 ((aS a0) + (1 : Int))) a0).2.2.2.1).length : Int) then (if 0 <= (bq [] (aS a0) (IntKind.wrap .i64 ((aS a0) + (1 : Int))) a0).2.1 then (if (bq [] (aS a0) (IntKind.wrap .i64 ((aS a0) + (1 : Int))) a0).2.1 <= (((bq [] (aS a0) (IntKind.wrap .i64 ((aS a0) + (1 : Int))) a0).2.2.2.1.take (((bq [] (aS a0) (IntKind.wrap .i64 ((aS a0) + (1 : Int))) a0).2.1).toNat) ++ List.replicate (((bq [] (aS a0) (IntKind.wrap .i64 ((aS a0) + (1 : Int))) a0).2.2.2.1).length - ((bq [] (aS a0) (IntKind.wrap .i64 ((aS a0) + (1 : Int))) a0).2.1).toNat) ((0,0,0,0,0,0,false) : Ty.T y48) ++ (bq [] (aS a0) (IntKind.wrap .i64 ((aS a0) + (1 : Int))) a0).2.2.2.1.drop (((bq [] (aS a0) (IntKind.wrap .i64 ((aS a0) + (1 : Int))) a0).2.1).toNat + (((bq [] (aS a0) (IntKind.wrap .i64 ((aS a0) + (1 : Int))) a0).2.2.2.1).length - ((bq [] (aS a0) (IntKind.wrap .i64 ((aS a0) + (1 : Int))) a0).2.1).toNat))).length : Int) then (κ (((bq [] (aS a0) (IntKind.wrap .i64 ((aS a0) + (1 : Int))) a0).2.2.2.1.take (((bq [] (aS a0) (IntKind.wrap .i64 ((aS a0) + (1 : Int))) a0).2.1).toNat) ++ List.replicate (((bq [] (aS a0) (IntKind.wrap .i64 ((aS a0) + (1 : Int))) a0).2.2.2.1).length - ((bq [] (aS a0) (IntKind.wrap .i64 ((aS a0) + (1 : Int))) a0).2.1).toNat) ((0,0,0,0,0,0,false) : Ty.T y48) ++ (bq [] (aS a0) (IntKind.wrap .i64 ((aS a0) + (1 : Int))) a0).2.2.2.1.drop (((bq [] (aS a0) (IntKind.wrap .i64 ((aS a0) + (1 : Int))) a0).2.1).toNat + (((bq [] (aS a0) (IntKind.wrap .i64 ((aS a0) + (1 : Int))) a0).2.2.2.1).length - ((bq [] (aS a0) (IntKind.wrap .i64 ((aS a0) + (1 : Int))) a0).2.1).toNat))).take (((bq [] (aS a0) (IntKind.wrap .i64 ((aS a0) + (1 : Int))) a0).2.1).toNat))) else none) else none) else none) else none) (none))) (none)
def tL (a0 : List (Ty.T y48)) : (List (Ty.T y48)) := (lF a0 some).getD []
def rO (a0 : List (Ty.T y48)) : Bool := (lF a0 some).isSome
def OI : Gen := ⟨[true,false],[.one (.own 41943040),.one (.fnc 231 [])],[(41943040,.arr 56 y48 false)],fun v => .br (rO v.1) (.done (BY (tL v.1))) .no⟩
theorem LH : bD Tryz.prog 230 OI := mD L7.ok ak (aA (by kernel_rfl)) ⟨Tryz.f230,ab Tryz.f230,by kernel_rfl,by kernel_rfl⟩ fun v => et ((lF v.1 (sm BY))) (by kernel_rfl) (aN (show lF v.1 (sm BY) = (lF v.1 some).bind _ from (bC (bC rfl (bC (bI (bI (bI (bI rfl)))) rfl)) rfl)))
def f180 (r : Int × (Ty.T q1) × (Ty.T y98) × (List (Ty.T y48)) × (List (Ty.T y48))) : AV × Sig := (.tup [(false,([.sl 4096])),(false,([.int .i64 r.1])),(true,((q1.cells false r.2.1) ++ [.sl 90112] ++ (y98.cells false r.2.2.1)))],[(4096,.arr 56 y48 r.2.2.2.1 false),(90112,.arr 56 y48 r.2.2.2.2 false)])
def Zj := (((((((E0.g LH).p EV).p Iq).p M0).p TO).p UE).p I1)
def t180 (a0 : Ty.T aa) (a1 : Ty.T y48) {Z : Type} (κ : Int × (Ty.T q1) × (Ty.T y98) × (List (Ty.T y48)) × (List (Ty.T y48)) -> Option Z) : Option Z := cond (d176 a0) (cond (!(um a0)) (cond (d165 a0) (κ (0,(bA a0).1,(bA a0).2.1,[a1],(bA a0).2.2)) (none)) (cond (!(v96 a1)) (cond (d165 a0) (κ (0,(bA a0).1,(bA a0).2.1,[a1],(bA a0).2.2)) (none)) (cond (!(yY a0.2.2.2.2.2.2.1 a1.1)) (cond (d165 a0) (κ (0,(bA a0).1,(bA a0).2.1,[a1],(bA a0).2.2)) (none)) (cond (d229 a0 a1) (cond (rO (gP a0 a1).2) (cond (d232 a0 (gP a0 a1).1) (κ ((gP a0 a1).1,(Gw a0 (gP a0 a1).1).1,(Gw a0 (gP a0 a1).1).2.1,(tL (gP a0 a1).2),(Gw a0 (gP a0 a1).1).2.2)) (none)) (none)) (none))))) (none)
def cn (a0 : Ty.T aa) (a1 : Ty.T y48) : Int × (Ty.T q1) × (Ty.T y98) × (List (Ty.T y48)) × (List (Ty.T y48)) := (t180 a0 a1 some).getD (0,(Ty.zero q1),(Ty.zero y98),[],[])
def d180 (a0 : Ty.T aa) (a1 : Ty.T y48) : Bool := (t180 a0 a1 some).isSome
def YA : Prim := ⟨[.agg [.dat aa true],.agg [.dat y48 true]],fun v => .br (d180 v.1 v.2.1) (.done (f180 (cn v.1 v.2.1))) .no⟩
theorem R2 : PO 180 YA := pK Zj fun v => et ((t180 v.1 v.2.1 (sm f180))) (by kernel_rfl) (aN (show t180 v.1 v.2.1 (sm f180) = (t180 v.1 v.2.1 some).bind _ from by unfold t180; simp only [bb]))
def f182 (r : Int) : AV × Sig := (.one (.int .i64 r),[])
def acK := (E0.p MC)
def Uf (a0 : Ty.T y36) (a1 : Ty.T y48) : Option (AV × Sig) := cond (d235 a0 a1) (cond ((pG a0 a1) != (-1 : Int)) (some (.one (.int .i64 (pG a0 a1)),[])) (some (.one (.int .i64 a0.2.2.1),[]))) (none)
def Hk (a0 : Ty.T y36) (a1 : Ty.T y48) : Int := cond (d235 a0 a1) (cond ((pG a0 a1) != (-1 : Int)) ((pG a0 a1)) (a0.2.2.1)) (0)
def d182 (a0 : Ty.T y36) (a1 : Ty.T y48) : Bool := cond (d235 a0 a1) (cond ((pG a0 a1) != (-1 : Int)) (true) (true)) (false)
theorem acB (a0 : Ty.T y36) (a1 : Ty.T y48) : Uf a0 a1 = cond (d182 a0 a1) (some (f182 (Hk a0 a1))) none := (pC (pC (pS _) (pS _)) (pN _))
def XO : Prim := ⟨[.agg [.dat y36 true],.agg [.dat y48 true]],fun v => .br (d182 v.1 v.2.1) (.done (f182 (Hk v.1 v.2.1))) .no⟩
theorem P7 : PO 182 XO := pK acK fun v => et (Uf v.1 v.2.1) (by kernel_rfl) (acB v.1 v.2.1)
def f218 (r : Bool) : AV × Sig := (.one (.bool r),[])
def abR := E0
def TV (a0 : Ty.T an) : Option (AV × Sig) := some (.one (.bool true),[])
def LU (a0 : Ty.T an) : Bool := true
theorem aaW (a0 : Ty.T an) : TV a0 = some (f218 (LU a0)) := rfl
def abT : Prim := ⟨[.agg [.dat an true]],fun v => .done (f218 (LU v.1))⟩
theorem Qc : PO 218 abT := pK abR fun v => et (TV v.1) (by kernel_rfl) (aaW v.1)
def f183 (r : (List (Ty.T aa))) : AV × Sig := (.one (.sl 4096),[(4096,.arr 103 aa r false)])
def abW := (((E0.p EV).p MZ).p S9)
def t183 (a0 : List (Ty.T aa)) (a1 : Ty.T aa) {Z : Type} (κ : (List (Ty.T aa)) -> Option Z) : Option Z := cond (d94 a0) (cond (d181 a0 a1.1) (cond (decide ((uf a0 a1.1) ≥ (0 : Int))) (cond (d165 a1) (if 0 <= (uf a0 a1.1) then (if (uf a0 a1.1) < (((v94 a0)).length : Int) then (ay (((v94 a0))[(uf a0 a1.1).toNat]?) (fun x1 => κ ((v94 a0).set ((uf a0 a1.1).toNat) ((bA a1).1.1,(bA a1).1.2.1,(bA a1).1.2.2.1,(bA a1).1.2.2.2.1,(bA a1).1.2.2.2.2.1,(bA a1).1.2.2.2.2.2.1,((bA a1).1.2.2.2.2.2.2.1,(bA a1).1.2.2.2.2.2.2.2.1,(bA a1).1.2.2.2.2.2.2.2.2.1,(bA a1).1.2.2.2.2.2.2.2.2.2.1,(bA a1).1.2.2.2.2.2.2.2.2.2.2.1,(bA a1).1.2.2.2.2.2.2.2.2.2.2.2,(bA a1).2.2),(bA a1).2.1)))) else none) else none) (none)) (κ (v94 a0))) (none)) (none)
def LZ (a0 : List (Ty.T aa)) (a1 : Ty.T aa) : (List (Ty.T aa)) := (t183 a0 a1 some).getD []
def d183 (a0 : List (Ty.T aa)) (a1 : Ty.T aa) : Bool := (t183 a0 a1 some).isSome
def Yc : Prim := ⟨[.one (.dat (.sl 103 aa) true),.agg [.dat aa true]],fun v => .br (d183 v.1 v.2.1) (.done (f183 (LZ v.1 v.2.1))) .no⟩
theorem QZ : PO 183 Yc := pK abW fun v => et ((t183 v.1 v.2.1 (sm f183))) (by kernel_rfl) (aN (show t183 v.1 v.2.1 (sm f183) = (t183 v.1 v.2.1 some).bind _ from by unfold t183; simp only [bb]))
end
end Go.Proofs.YtcddhifkfakcjaaGreat.Vm
