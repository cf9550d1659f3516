/- Contracts. No condition. -/
import Derived.Test.YtahlaccdpmddbaaGreatVmCFnSaidP1
import Derived.Test.YtahlaccdpmddbaaGreatVmLibThree
namespace Go.Proofs.YtahlaccdpmddbaaGreat.Vm
open Go Go.Proofs.YtahlaccdpmddbaaGreat.Lib
noncomputable section
set_option maxRecDepth 100000
set_option linter.unusedVariables false
def f246 (r : Int) : AV × Sig := (.one (.int .i64 r), [])
def Wn := E0
@[reducible] def Bc : List SP := .one (.dat (.sl 109 aq) true) :: oI :: U2 (oI :: oI :: U8 (U4 (U2 ([]))))
@[reducible] def oE : Type := (List (Ty.T aq)) × Int × Int × Int × Unit
def rS (v : oE) {Z : Type} (κ : Nat × oE -> Option Z) : Option Z := cond (decide (v.2.2.2.1 < ((v.1).length : Int))) (if 0 <= v.2.2.2.1 then (bc ((v.1)[(v.2.2.2.1).toNat]?) (fun x1 => cond (x1.1 == v.2.1) (κ (1, (v.1, v.2.1, v.2.2.2.1, v.2.2.2.1, ()))) (κ (0, (v.1, v.2.1, v.2.2.1, IntKind.wrap .i64 (v.2.2.2.1 + (1 : Int)), ()))))) else none) (κ (2, (v.1, v.2.1, v.2.2.1, v.2.2.2.1, ())))
def re (v : oE) : Option (Nat × oE) := rS v some
def xb (v : oE) : Nat := v.1.length + v.2.1.toNat + v.2.2.1.toNat + v.2.2.2.1.toNat + 100
def ky (h0 : List (Ty.T aq)) (h1 : Int) (h2 : Int) (h3 : Int) (c : Nat) : Bool := iK re xb (h0, h1, h2, h3, ()) c
def Hd (h0 : List (Ty.T aq)) (h1 : Int) (h2 : Int) (h3 : Int) : oE := iW re xb (h0, h1, h2, h3, ())
def ND (v : oE) : aP (Ex × St) := bz re (xb v) v (ax Bc au) [.ret, .exit 0] 0
theorem UE : bw Tryz.prog (aO (pb 3 5) (ae Tryz.f246)) Bc au ND := aE (lt := .none) Wn.ok aj (ag.no _) fun n v K => Eq.trans (b := rS v (dt _ _ _ _ _ K)) (by kernel_rfl) (show rS v _ = (rS v some).bind _ from (bC (bI (bO fun x1 => (bC rfl rfl))) rfl))
def YV := Wn.l (g := 246) (t := (cD (pb 3 5) (ae Tryz.f246) .none (.sum Bc au ND))) (aZ Tryz.func246 (ag.put (az (by kernel_rfl)) (ag.no _) UE))
def VY (a0 : List (Ty.T aq)) (a1 : Int) : Option (AV × Sig) := cond (ky a0 a1 0 0 0) (some (.one (.int .i64 (Hd a0 a1 0 0).2.2.1), [])) (cond (ky a0 a1 0 0 1) (some (.one (.int .i64 (-1)), [])) (none))
def N2 (a0 : List (Ty.T aq)) (a1 : Int) : Int := cond (ky a0 a1 0 0 0) ((Hd a0 a1 0 0).2.2.1) (cond (ky a0 a1 0 0 1) ((-1)) (0))
def d246 (a0 : List (Ty.T aq)) (a1 : Int) : Bool := cond (ky a0 a1 0 0 0) (true) (cond (ky a0 a1 0 0 1) (true) (false))
theorem aag (a0 : List (Ty.T aq)) (a1 : Int) : VY a0 a1 = cond (d246 a0 a1) (some (f246 (N2 a0 a1))) none := (pC (pS _) (pC (pS _) (pN _)))
def aaS : Prim := ⟨[.one (.dat (.sl 109 aq) true), oI], fun v => .br (d246 v.1 v.2.1) (.done (f246 (N2 v.1 v.2.1))) .no⟩
theorem agl : PO 246 aaS := pK YV fun v => Eq.trans (b := VY v.1 v.2.1) (by kernel_rfl) (aag v.1 v.2.1)
def OF (r : Bool) : AV × Sig := (.one (.bool r), [])
def US := E0
def Mr (a0 : Ty.T aq) (a1 : Int) : Option (AV × Sig) := some (.one (.bool (a0.1 == a1)), [])
def CF (a0 : Ty.T aq) (a1 : Int) : Bool := (a0.1 == a1)
theorem T4 (a0 : Ty.T aq) (a1 : Int) : Mr a0 a1 = some (OF (CF a0 a1)) := rfl
def S6 : Prim := ⟨[.agg [.dat aq true], .one (.ept (.int .i64))], fun v => .done (OF (CF v.1 v.2.1))⟩
theorem Rs : PO 291 S6 := pK US fun v => Eq.trans (b := Mr v.1 v.2.1) (by kernel_rfl) (T4 v.1 v.2.1)
def NY (r : Int) : AV × Sig := (.one (.int .i64 r), [])
def MQ := (E0.p Rs)
@[reducible] def sc : List SP := .one (.dat (.sl 109 aq) true) :: .one (.fnc 291 [(.int .i64)]) :: U2 (oI :: U2 (oI :: oI :: U8 (U2 ([]))))
@[reducible] def iF : Type := (List (Ty.T aq)) × Int × Int × Int × Int × Unit
def jE (v : iF) {Z : Type} (κ : Nat × iF -> Option Z) : Option Z := cond (decide (v.2.2.2.2.1 < v.2.2.2.1)) (if 0 <= v.2.2.2.2.1 then (bc ((v.1)[(v.2.2.2.2.1).toNat]?) (fun x1 => cond (CF x1 v.2.1) (κ (1, (v.1, v.2.1, v.2.2.2.2.1, v.2.2.2.1, v.2.2.2.2.1, ()))) (κ (0, (v.1, v.2.1, v.2.2.1, v.2.2.2.1, IntKind.wrap .i64 (v.2.2.2.2.1 + (1 : Int)), ()))))) else none) (κ (2, (v.1, v.2.1, v.2.2.1, v.2.2.2.1, v.2.2.2.2.1, ())))
def jP (v : iF) : Option (Nat × iF) := jE v some
def m6 (v : iF) : Nat := v.1.length + v.2.1.toNat + v.2.2.1.toNat + v.2.2.2.1.toNat + v.2.2.2.2.1.toNat + 100
def eS (h0 : List (Ty.T aq)) (h1 : Int) (h2 : Int) (h3 : Int) (h4 : Int) (c : Nat) : Bool := iK jP m6 (h0, h1, h2, h3, h4, ()) c
def wK (h0 : List (Ty.T aq)) (h1 : Int) (h2 : Int) (h3 : Int) (h4 : Int) : iF := iW jP m6 (h0, h1, h2, h3, h4, ())
def Ft (v : iF) : aP (Ex × St) := bz jP (m6 v) v (ax sc au) [.ret, .exit 0] 0
theorem Of : bw Tryz.prog (aO (pb 3 5) (ae Tryz.f290)) sc au Ft := aE (lt := .none) MQ.ok aj (ag.no _) fun n v K => Eq.trans (b := jE v (dt _ _ _ _ _ K)) (by kernel_rfl) (show jE v _ = (jE v some).bind _ from (bC (bI (bO fun x1 => (bC rfl rfl))) rfl))
def QL := MQ.l (g := 290) (t := (cD (pb 3 5) (ae Tryz.f290) .none (.sum sc au Ft))) (aZ Tryz.func290 (ag.put (az (by kernel_rfl)) (ag.no _) Of))
def PW (a0 : List (Ty.T aq)) (a1_0 : Int) : Option (AV × Sig) := cond (eS a0 a1_0 0 ((a0).length : Int) 0 0) (some (.one (.int .i64 (wK a0 a1_0 0 ((a0).length : Int) 0).2.2.1), [])) (cond (eS a0 a1_0 0 ((a0).length : Int) 0 1) (some (.one (.int .i64 (-1)), [])) (none))
def qO (a0 : List (Ty.T aq)) (a1_0 : Int) : Int := cond (eS a0 a1_0 0 ((a0).length : Int) 0 0) ((wK a0 a1_0 0 ((a0).length : Int) 0).2.2.1) (cond (eS a0 a1_0 0 ((a0).length : Int) 0 1) ((-1)) (0))
def oF (a0 : List (Ty.T aq)) (a1_0 : Int) : Bool := cond (eS a0 a1_0 0 ((a0).length : Int) 0 0) (true) (cond (eS a0 a1_0 0 ((a0).length : Int) 0 1) (true) (false))
theorem SB (a0 : List (Ty.T aq)) (a1_0 : Int) : PW a0 a1_0 = cond (oF a0 a1_0) (some (NY (qO a0 a1_0))) none := (pC (pS _) (pC (pS _) (pN _)))
def Te : Prim := ⟨[.one (.dat (.sl 109 aq) true), .one (.fnc 291 [(.int .i64)])], fun v => .br (oF v.1 v.2.1) (.done (NY (qO v.1 v.2.1))) .no⟩
theorem Q1 : PO 290 Te := pK QL fun v => Eq.trans (b := PW v.1 v.2.1) (by kernel_rfl) (SB v.1 v.2.1)
def f229 (r : Int) : AV × Sig := (.one (.int .i64 r), [])
def adi := (E0.p Q1)
def WT (a0 : List (Ty.T aq)) (a1 : Int) : Option (AV × Sig) := cond (oF a0 a1) (some (.one (.int .i64 (qO a0 a1)), [])) (none)
def Qj (a0 : List (Ty.T aq)) (a1 : Int) : Int := cond (oF a0 a1) ((qO a0 a1)) (0)
def d229 (a0 : List (Ty.T aq)) (a1 : Int) : Bool := cond (oF a0 a1) (true) (false)
theorem aeT (a0 : List (Ty.T aq)) (a1 : Int) : WT a0 a1 = cond (d229 a0 a1) (some (f229 (Qj a0 a1))) none := (pC (pS _) (pN _))
def aeO : Prim := ⟨[.one (.dat (.sl 109 aq) true), oI], fun v => .br (d229 v.1 v.2.1) (.done (f229 (Qj v.1 v.2.1))) .no⟩
theorem agj : PO 229 aeO := pK adi fun v => Eq.trans (b := WT v.1 v.2.1) (by kernel_rfl) (aeT v.1 v.2.1)
def f28 (r : Bool) : AV × Sig := (.one (.bool r), [])
def E28 := E0
def u28 (a0 : List (Ty.T (.int .u8))) : Option (AV × Sig) := some (.one (.bool (decide (((a0).length : Int) > (1048576 : Int)))), [])
def v28 (a0 : List (Ty.T (.int .u8))) : Bool := decide (((a0).length : Int) > (1048576 : Int))
theorem o28 (a0 : List (Ty.T (.int .u8))) : u28 a0 = some (f28 (v28 a0)) := rfl
def p28 : Prim := ⟨[.one (.dat (.sl 5 (.int .u8)) true)], fun v => .done (f28 (v28 v.1))⟩
theorem adw : PO 28 p28 := pK E28 fun v => Eq.trans (b := u28 v.1) (by kernel_rfl) (o28 v.1)
def f116 (r : (Ty.T af)) : AV × Sig := (.one (.ptr 4096 0 0), [(4096, .box 222 ((af.cells true r)))])
def Xj := E0
@[reducible] def Cd : List SP := .one (.dat (.sl 5 (.int .u8)) true) :: U2 (oI :: oI :: U16 (U8 (U2 (.und :: []))))
@[reducible] def pz : Type := (List (Ty.T (.int .u8))) × Int × Int × Unit
def xY (v : pz) {Z : Type} (κ : Nat × pz -> Option Z) : Option Z := cond (decide (v.2.2.1 < ((v.1).length : Int))) (cond (decide (v.2.2.1 < (4000 : Int))) (if 0 <= v.2.2.1 then (bc ((v.1)[(v.2.2.1).toNat]?) (fun x1 => κ (0, (v.1, IntKind.wrap .i64 ((BitVec.ofInt (IntKind.bits .i64) (IntKind.wrap .i64 ((IntKind.wrap .i64 ((IntKind.wrap .i64 (v.2.1 * (137 : Int))) + (IntKind.wrap .i64 x1))) + (11 : Int))) &&& BitVec.ofInt (IntKind.bits .i64) (1073741823 : Int)).toNat : Int), IntKind.wrap .i64 (v.2.2.1 + (1 : Int)), ())))) else none) (κ (1, (v.1, v.2.1, v.2.2.1, ())))) (κ (1, (v.1, v.2.1, v.2.2.1, ())))
def oY (v : pz) : Option (Nat × pz) := xY v some
def vI (v : pz) : Nat := v.1.length + v.2.1.toNat + v.2.2.1.toNat + 100
def B0 (h0 : List (Ty.T (.int .u8))) (h1 : Int) (h2 : Int) (c : Nat) : Bool := iK oY vI (h0, h1, h2, ()) c
def wE (h0 : List (Ty.T (.int .u8))) (h1 : Int) (h2 : Int) : pz := iW oY vI (h0, h1, h2, ())
def N7 (v : pz) : aP (Ex × St) := bz oY (vI v) v (ax Cd au) [.exit 0] 0
theorem Vb : bw Tryz.prog (aO (pb 4 11) (ae Tryz.f116)) Cd au N7 := aE (lt := .none) Xj.ok aj (ag.no _) fun n v K => Eq.trans (b := xY v (dt _ _ _ _ _ K)) (by kernel_rfl) (show xY v _ = (xY v some).bind _ from (bC (bC (bI (bO fun x1 => rfl)) rfl) rfl))
def Xx := Xj.l (g := 116) (t := (cD (pb 4 11) (ae Tryz.f116) .none (.sum Cd au N7))) (aZ Tryz.func116 (ag.put (az (by kernel_rfl)) (ag.no _) Vb))
def Vr (a0 : List (Ty.T (.int .u8))) : Option (AV × Sig) := cond (B0 a0 (IntKind.wrap .i64 ((139871 : Int) + ((a0).length : Int))) 0 0) (some (.one (.ptr 4096 0 0), [(4096, .box 222 [.emb 5 (.int .u8) (wE a0 (IntKind.wrap .i64 ((139871 : Int) + ((a0).length : Int))) 0).1 true, .int .i64 0, .int .i64 (wE a0 (IntKind.wrap .i64 ((139871 : Int) + ((a0).length : Int))) 0).2.1])])) (none)
def b8 (a0 : List (Ty.T (.int .u8))) : (Ty.T af) := cond (B0 a0 (IntKind.wrap .i64 ((139871 : Int) + ((a0).length : Int))) 0 0) (((wE a0 (IntKind.wrap .i64 ((139871 : Int) + ((a0).length : Int))) 0).1, 0, (wE a0 (IntKind.wrap .i64 ((139871 : Int) + ((a0).length : Int))) 0).2.1)) (([], 0, 0))
def d116 (a0 : List (Ty.T (.int .u8))) : Bool := cond (B0 a0 (IntKind.wrap .i64 ((139871 : Int) + ((a0).length : Int))) 0 0) (true) (false)
theorem afA (a0 : List (Ty.T (.int .u8))) : Vr a0 = cond (d116 a0) (some (f116 (b8 a0))) none := (pC (pS _) (pN _))
def abZ : Prim := ⟨[.one (.dat (.sl 5 (.int .u8)) true)], fun v => .br (d116 v.1) (.done (f116 (b8 v.1))) .no⟩
theorem Ju : PO 116 abZ := pK Xx fun v => Eq.trans (b := Vr v.1) (by kernel_rfl) (afA v.1)
def Gs (r : Int × (Ty.T af)) : AV × Sig := (.one (.int .i64 r.1), [(4294967296, .box 222 ((af.cells true r.2)))])
def Vn := E0
def sU (a0 : Ty.T af) {Z : Type} (κ : Int × (Ty.T af) -> Option Z) : Option Z := cond (decide (a0.2.1 < ((a0.1).length : Int))) (if 0 <= a0.2.1 then (bc ((a0.1)[(a0.2.1).toNat]?) (fun x1 => κ (IntKind.wrap .i64 ((BitVec.ofInt (IntKind.bits .i64) (IntKind.wrap .i64 ((IntKind.wrap .i64 ((BitVec.ofInt (IntKind.bits .i64) (IntKind.wrap .i64 ((BitVec.ofInt (IntKind.bits .i64) (Int.fdiv (IntKind.wrap .i64 ((IntKind.wrap .i64 (a0.2.2 * (6364136223846793005 : Int))) + (1442695040888963407 : Int))) (2 ^ 33)) ^^^ BitVec.ofInt (IntKind.bits .i64) (Int.fdiv (IntKind.wrap .i64 ((IntKind.wrap .i64 (a0.2.2 * (6364136223846793005 : Int))) + (1442695040888963407 : Int))) (2 ^ 47))).toNat : Int)) &&& BitVec.ofInt (IntKind.bits .i64) (255 : Int)).toNat : Int)) + (IntKind.wrap .i64 x1))) &&& BitVec.ofInt (IntKind.bits .i64) (255 : Int)).toNat : Int), (a0.1, IntKind.wrap .i64 (a0.2.1 + (1 : Int)), IntKind.wrap .i64 ((IntKind.wrap .i64 (a0.2.2 * (6364136223846793005 : Int))) + (1442695040888963407 : Int)))))) else none) (κ (IntKind.wrap .i64 ((BitVec.ofInt (IntKind.bits .i64) (IntKind.wrap .i64 ((BitVec.ofInt (IntKind.bits .i64) (Int.fdiv (IntKind.wrap .i64 ((IntKind.wrap .i64 (a0.2.2 * (6364136223846793005 : Int))) + (1442695040888963407 : Int))) (2 ^ 33)) ^^^ BitVec.ofInt (IntKind.bits .i64) (Int.fdiv (IntKind.wrap .i64 ((IntKind.wrap .i64 (a0.2.2 * (6364136223846793005 : Int))) + (1442695040888963407 : Int))) (2 ^ 47))).toNat : Int)) &&& BitVec.ofInt (IntKind.bits .i64) (255 : Int)).toNat : Int), (a0.1, a0.2.1, IntKind.wrap .i64 ((IntKind.wrap .i64 (a0.2.2 * (6364136223846793005 : Int))) + (1442695040888963407 : Int)))))
def cJ (a0 : Ty.T af) : Int × (Ty.T af) := (sU a0 some).getD (0, (Ty.zero af))
def mc (a0 : Ty.T af) : Bool := (sU a0 some).isSome
def Sl : Gen := ⟨[false], [.one (.ptr 4294967296 0)], [(4294967296, .box 222 [.dat af true])], fun v => .br (mc v.1) (.done (Gs (cJ v.1))) .no⟩
theorem Qq : dp Tryz.prog 218 Sl := b9 Vn.ok aj (az (by kernel_rfl)) ⟨Tryz.f218, ae Tryz.f218, by kernel_rfl, by kernel_rfl⟩ fun v => Eq.trans (b := (sU v.1 (sm Gs))) (by kernel_rfl) (al (show sU v.1 (sm Gs) = (sU v.1 some).bind _ from (bC (bI (bO fun x1 => rfl)) rfl)))
def HI (r : Int × (Ty.T af)) : AV × Sig := (.one (.int .i64 r.1), [(4294967296, .box 222 ((af.cells true r.2)))])
def Tt := (E0.g Qq)
def pn (a0 : Int) (a1 : Ty.T af) {Z : Type} (κ : Int × (Ty.T af) -> Option Z) : Option Z := cond (decide (a0 <= (0 : Int))) (κ (0, a1)) (cond (decide (a0 <= (256 : Int))) (cond (mc a1) (if a0 = 0 then none else (κ (Int.tmod (cJ a1).1 a0, (cJ a1).2))) (none)) (cond (mc a1) (cond (mc (cJ a1).2) (cond (mc (cJ (cJ a1).2).2) (if a0 = 0 then none else (κ (Int.tmod (IntKind.wrap .i64 ((IntKind.wrap .i64 ((IntKind.wrap .i64 ((cJ a1).1 * (65536 : Int))) + (IntKind.wrap .i64 ((cJ (cJ a1).2).1 * (256 : Int))))) + (cJ (cJ (cJ a1).2).2).1)) a0, (cJ (cJ (cJ a1).2).2).2))) (none)) (none)) (none)))
def aa (a0 : Int) (a1 : Ty.T af) : Int × (Ty.T af) := (pn a0 a1 some).getD (0, (Ty.zero af))
def bn (a0 : Int) (a1 : Ty.T af) : Bool := (pn a0 a1 some).isSome
def UT : Gen := ⟨[false, false], [.one (.ptr 4294967296 0), oI], [(4294967296, .box 222 [.dat af true])], fun v => .br (bn v.1 v.2.1) (.done (HI (aa v.1 v.2.1))) .no⟩
theorem dw : dp Tryz.prog 121 UT := b9 Tt.ok aj (az (by kernel_rfl)) ⟨Tryz.f121, ae Tryz.f121, by kernel_rfl, by kernel_rfl⟩ fun v => Eq.trans (b := (pn v.1 v.2.1 (sm HI))) (by kernel_rfl) (al (show pn v.1 v.2.1 (sm HI) = (pn v.1 v.2.1 some).bind _ from by unfold pn; simp only [bb]))
def ON (r : Int × (Ty.T af)) : AV × Sig := (.one (.int .i64 r.1), [(4294967296, .box 222 ((af.cells true r.2)))])
def SL := (E0.g dw)
def PM (a0 : List (Ty.T (.int .i64))) (a1 : Ty.T af) : Option (AV × Sig) := cond (bn ((a0).length : Int) a1) (if 0 <= (aa ((a0).length : Int) a1).1 then (bc ((a0)[((aa ((a0).length : Int) a1).1).toNat]?) (fun x1 => some (.one (.int .i64 x1), [(4294967296, .box 222 [.emb 5 (.int .u8) (aa ((a0).length : Int) a1).2.1 true, .int .i64 (aa ((a0).length : Int) a1).2.2.1, .int .i64 (aa ((a0).length : Int) a1).2.2.2])]))) else none) (none)
def ah (a0 : List (Ty.T (.int .i64))) (a1 : Ty.T af) : Int × (Ty.T af) := cond (bn ((a0).length : Int) a1) (yF ((a0)[((aa ((a0).length : Int) a1).1).toNat]?) (0, ([], 0, 0)) (fun x1 => (x1, (aa ((a0).length : Int) a1).2))) ((0, ([], 0, 0)))
def bm (a0 : List (Ty.T (.int .i64))) (a1 : Ty.T af) : Bool := cond (bn ((a0).length : Int) a1) (decide (0 <= (aa ((a0).length : Int) a1).1) && (ua ((a0)[((aa ((a0).length : Int) a1).1).toNat]?) (fun x1 => true))) (false)
theorem SX (a0 : List (Ty.T (.int .i64))) (a1 : Ty.T af) : PM a0 a1 = cond (bm a0 a1) (some (ON (ah a0 a1))) none := (pC (pI (pO fun x1 => (pS _))) (pN _))
def TS : Gen := ⟨[false, false], [.one (.ptr 4294967296 0), .one (.dat (.sl 3 (.int .i64)) false)], [(4294967296, .box 222 [.dat af true])], fun v => .br (bm v.1 v.2.1) (.done (ON (ah v.1 v.2.1))) .no⟩
theorem dX : dp Tryz.prog 209 TS := b9 SL.ok aj (az (by kernel_rfl)) ⟨Tryz.f209, ae Tryz.f209, by kernel_rfl, by kernel_rfl⟩ fun v => Eq.trans (b := PM v.1 v.2.1) (by kernel_rfl) (SX v.1 v.2.1)
def Oi (r : Bool × (Ty.T af)) : AV × Sig := (.one (.bool r.1), [(4294967296, .box 222 ((af.cells true r.2)))])
def TC := (E0.g dw)
def NB (a0 : Int) (a1 : Ty.T af) : Option (AV × Sig) := cond (bn a0 a1) (some (.one (.bool ((aa a0 a1).1 == (0 : Int))), [(4294967296, .box 222 [.emb 5 (.int .u8) (aa a0 a1).2.1 true, .int .i64 (aa a0 a1).2.2.1, .int .i64 (aa a0 a1).2.2.2])])) (none)
def an (a0 : Int) (a1 : Ty.T af) : Bool × (Ty.T af) := cond (bn a0 a1) ((((aa a0 a1).1 == (0 : Int)), (aa a0 a1).2)) ((false, ([], 0, 0)))
def cE (a0 : Int) (a1 : Ty.T af) : Bool := cond (bn a0 a1) (true) (false)
theorem UY (a0 : Int) (a1 : Ty.T af) : NB a0 a1 = cond (cE a0 a1) (some (Oi (an a0 a1))) none := (pC (pS _) (pN _))
def SJ : Gen := ⟨[false, false], [.one (.ptr 4294967296 0), oI], [(4294967296, .box 222 [.dat af true])], fun v => .br (cE v.1 v.2.1) (.done (Oi (an v.1 v.2.1))) .no⟩
theorem fF : dp Tryz.prog 142 SJ := b9 TC.ok aj (az (by kernel_rfl)) ⟨Tryz.f142, ae Tryz.f142, by kernel_rfl, by kernel_rfl⟩ fun v => Eq.trans (b := NB v.1 v.2.1) (by kernel_rfl) (UY v.1 v.2.1)
def HO (r : (Ty.T y63) × (Ty.T af)) : AV × Sig := (.agg (y63.cells false r.1), [(4294967296, .box 222 ((af.cells true r.2)))])
def CU := (((E0.g dw).g fF).g dX)
@[reducible] def nI : List SP := .one (.ptr 4294967296 0) :: U2 (.und :: .one (.ptr 4 0) :: .one (.ptr 5 0) :: .und :: oI :: U16 (.und :: .one (.own 25) :: oI :: oI :: .one (.dat .bool true) :: .und :: oI :: .one (.ptr 4294967296 0) :: .one (.dat .bool true) :: U32 ([])))
@[reducible] def fv : List (Nat × GP) := [(4294967296, .box 222 [.dat af true]), (4, .box 64 [.dat y63 false]), (5, .box 64 [.dat y63 false]), (25, .arr 3 (.int .i64) false)]
@[reducible] def qk : Type := Int × Int × Int × Bool × Int × Bool × (Ty.T af) × (Ty.T y63) × (Ty.T y63) × (List (Ty.T (.int .i64))) × Unit
def qH (v : qk) (r : (Ty.T y63)) : Ex × St := (.normal, ax nI fv (v.1, v.2.1, v.2.2.1, v.2.2.2.1, v.2.2.2.2.1, v.2.2.2.2.2.1, v.2.2.2.2.2.2.1, v.2.2.2.2.2.2.2.1, r, v.2.2.2.2.2.2.2.2.2.1, ()))
def mz (v : qk) {Z : Type} (κ : (Ty.T y63) -> Z) : Z := cond v.2.2.2.2.2.1 (κ (v.2.2.2.2.2.2.2.2.1.1, v.2.2.2.2.2.2.2.2.1.2.1, v.2.2.2.2.2.2.2.2.1.2.2.1, v.2.2.2.2.2.2.2.2.1.2.2.2.1, v.2.2.2.2.2.2.2.2.1.2.2.2.2.1, v.2.2.2.2.2.2.2.2.1.2.2.2.2.2.1, v.2.2.2.2.2.2.2.2.1.2.2.2.2.2.2.1, IntKind.wrap .i64 (v.2.2.2.2.2.2.2.2.1.2.2.2.2.2.2.2.1 + v.1), v.2.2.2.2.2.2.2.2.1.2.2.2.2.2.2.2.2)) (κ v.2.2.2.2.2.2.2.2.1)
def pY (v : qk) : (Ty.T y63) := mz v id
def D8 (v : qk) : aP (Ex × St) := .done (qH v (pY v))
theorem Ml : aK Tryz.prog (aw [true, true, false, true, true] (aO (pb 5 23) (ae Tryz.f122))) nI fv D8 := aA (lt := .none) (sx := nI) (gx := fv) CU.ok aj (ag.no _) fun v => Eq.trans (b := mz v (sm (qH v))) (by kernel_rfl) (show mz v (sm (qH v)) = some (qH v (mz v id)) from (tC rfl rfl))
@[reducible] def rO : List SP := .one (.ptr 4294967296 0) :: U2 (.und :: .one (.ptr 4 0) :: .one (.ptr 5 0) :: U16 (U2 (.und :: .one (.own 25) :: oI :: oI :: U32 (U4 (.und :: [])))))
@[reducible] def iM : Type := Int × Int × (Ty.T af) × (Ty.T y63) × (Ty.T y63) × (List (Ty.T (.int .i64))) × Unit
def jT (v : iM) {Z : Type} (κ : Nat × iM -> Option Z) : Option Z := cond (decide (v.2.1 < v.1)) (if 0 <= v.2.1 then (if v.2.1 < ((v.2.2.2.2.2.1).length : Int) then (bc ((v.2.2.2.2.2.1)[(v.2.1).toNat]?) (fun x1 => cond (cE 3 v.2.2.1) (κ (0, (v.1, IntKind.wrap .i64 (v.2.1 + (1 : Int)), (an 3 v.2.2.1).2, v.2.2.2.1, (pY (x1, v.1, v.2.1, decide (v.2.1 < v.1), x1, (an 3 v.2.2.1).1, (an 3 v.2.2.1).2, v.2.2.2.1, v.2.2.2.2.1, v.2.2.2.2.2.1, ())), v.2.2.2.2.2.1, ()))) (none))) else none) else none) (κ (1, (v.1, v.2.1, v.2.2.1, v.2.2.2.1, v.2.2.2.2.1, v.2.2.2.2.2.1, ())))
def iL (v : iM) : Option (Nat × iM) := jT v some
def il (v : iM) : Nat := v.1.toNat + v.2.1.toNat + v.2.2.1.1.length + v.2.2.2.2.2.1.length + 100
def xz (h0 : Int) (h1 : Int) (h2 : Ty.T af) (h3 : Ty.T y63) (h4 : Ty.T y63) (h5 : List (Ty.T (.int .i64))) (c : Nat) : Bool := iK iL il (h0, h1, h2, h3, h4, h5, ()) c
def qh (h0 : Int) (h1 : Int) (h2 : Ty.T af) (h3 : Ty.T y63) (h4 : Ty.T y63) (h5 : List (Ty.T (.int .i64))) : iM := iW iL il (h0, h1, h2, h3, h4, h5, ())
def Ew (v : iM) : aP (Ex × St) := bz iL (il v) v (ax rO fv) [.exit 0] 0
theorem MS : bw Tryz.prog (aO (pb 5 23) (ae Tryz.f122)) rO fv Ew := aE (lt := (aD [true, true, false, true, true] (aO (pb 5 23) (ae Tryz.f122)) .none (.sum nI fv D8))) CU.ok aj (ag.bP (az (by kernel_rfl)) (ag.no _) Ml) fun n v K => Eq.trans (b := jT v (dt _ _ _ _ _ K)) (by kernel_rfl) (show jT v _ = (jT v some).bind _ from (bC (bI (bI (bO fun x1 => (bC rfl rfl)))) rfl))
@[reducible] def Ao : List SP := .one (.ptr 4294967296 0) :: U2 (.und :: .one (.ptr 4 0) :: .one (.ptr 5 0) :: U32 (U4 (U2 (.one (.dat .bool true) :: U16 (U4 ([]))))))
@[reducible] def ny : List (Nat × GP) := [(4294967296, .box 222 [.dat af true]), (4, .box 64 [.dat y63 false]), (5, .box 64 [.dat y63 false])]
@[reducible] def qd : Type := Bool × (Ty.T af) × (Ty.T y63) × (Ty.T y63) × Unit
@[reducible] def zb : List SP := .one (.ptr 4294967296 0) :: U2 (.und :: .one (.ptr 4 0) :: .one (.ptr 5 0) :: U32 (U16 (U8 (U2 (.und :: [])))))
def p7 (v : qd) (r : (Ty.T y63)) : Ex × St := (.normal, ax zb ny (v.2.1, v.2.2.1, r, ()))
def qa (v : qd) {Z : Type} (κ : (Ty.T y63) -> Z) : Z := cond v.1 (κ (v.2.2.2.1.1, v.2.2.2.1.2.1, IntKind.wrap .i64 ((1 : Int) - v.2.2.2.1.2.1), v.2.2.2.1.2.2.2)) (κ v.2.2.2.1)
def Fm (v : qd) : (Ty.T y63) := qa v id
def Dv (v : qd) : aP (Ex × St) := .done (p7 v (Fm v))
theorem OD : aK Tryz.prog (aw (pb 7 95) (ae Tryz.f122)) Ao ny Dv := aA (lt := .none) (sx := zb) (gx := ny) CU.ok aj (ag.no _) fun v => Eq.trans (b := qa v (sm (p7 v))) (by kernel_rfl) (show qa v (sm (p7 v)) = some (p7 v (qa v id)) from (tC rfl rfl))
def Qu := CU.l (g := 122) (t := (aD (pb 7 95) (ae Tryz.f122) (aD (pb 5 23) (ae Tryz.f122) .none (.sum rO fv Ew)) (.sum Ao ny Dv))) (aZ Tryz.func122 (ag.bP (az (by kernel_rfl)) (ag.wL (by kernel_rfl) (az (by kernel_rfl)) (ag.no _) MS) OD))
def cC (a1 : Ty.T af) := (aa 5 (aa 3 (ah [2, 2, 2, 1, 3] (aa 2 a1).2).2).2)
def bU (a0 : Int) (a1 : Ty.T af) := (qh 6 0 (aa 5 (cC a1).2).2 (0, 0, 0, 0, 0, 0, 0, 0, 0, 0, 0, false, false) (a0, (aa 2 a1).1, (aa 2 a1).1, (ah [2, 2, 2, 1, 3] (aa 2 a1).2).1, (aa 3 (ah [2, 2, 2, 1, 3] (aa 2 a1).2).2).1, (cC a1).1, IntKind.wrap .i64 ((1 : Int) + (aa 5 (cC a1).2).1), 0, 0, 0, 0, false, false) [1, 2, 4, 8, 16, 32])
def eT (a0 : Int) (a1 : Ty.T af) := (ah [0, 0, 0, 1] (ah [0, 0, 1, 2] (an 4 (bU a0 a1).2.2.1).2).2)
def eh (a0 : Int) (a1 : Ty.T af) := (Fm ((an 4 (bU a0 a1).2.2.1).1, (an 4 (bU a0 a1).2.2.1).2, (bU a0 a1).2.2.2.1, (bU a0 a1).2.2.2.2.1, ()))
def jx (a0 : Int) (a1 : Ty.T af) {Z : Type} (κ : (Ty.T y63) × (Ty.T af) -> Option Z) : Option Z := cond (bn 2 a1) (cond (bm [2, 2, 2, 1, 3] (aa 2 a1).2) (cond (bn 3 (ah [2, 2, 2, 1, 3] (aa 2 a1).2).2) (cond (bn 5 (aa 3 (ah [2, 2, 2, 1, 3] (aa 2 a1).2).2).2) (cond (bn 5 (cC a1).2) (cond (xz 6 0 (aa 5 (cC a1).2).2 (0, 0, 0, 0, 0, 0, 0, 0, 0, 0, 0, false, false) (a0, (aa 2 a1).1, (aa 2 a1).1, (ah [2, 2, 2, 1, 3] (aa 2 a1).2).1, (aa 3 (ah [2, 2, 2, 1, 3] (aa 2 a1).2).2).1, (cC a1).1, IntKind.wrap .i64 ((1 : Int) + (aa 5 (cC a1).2).1), 0, 0, 0, 0, false, false) [1, 2, 4, 8, 16, 32] 0) (cond ((bU a0 a1).2.2.2.2.1.2.2.2.1 != (2 : Int)) (κ ((bU a0 a1).2.2.2.2.1, (bU a0 a1).2.2.1)) (cond (cE 4 (bU a0 a1).2.2.1) (cond (bm [0, 0, 1, 2] (an 4 (bU a0 a1).2.2.1).2) (cond (bm [0, 0, 0, 1] (ah [0, 0, 1, 2] (an 4 (bU a0 a1).2.2.1).2).2) (cond (bm [0, 0, 1] (eT a0 a1).2) (cond (cE 4 (ah [0, 0, 1] (eT a0 a1).2).2) (κ (((eh a0 a1).1, (eh a0 a1).2.1, (eh a0 a1).2.2.1, (eh a0 a1).2.2.2.1, (eh a0 a1).2.2.2.2.1, (eh a0 a1).2.2.2.2.2.1, (eh a0 a1).2.2.2.2.2.2.1, (eh a0 a1).2.2.2.2.2.2.2.1, (ah [0, 0, 1, 2] (an 4 (bU a0 a1).2.2.1).2).1, (eT a0 a1).1, (ah [0, 0, 1] (eT a0 a1).2).1, (eh a0 a1).2.2.2.2.2.2.2.2.2.2.2.1, (an 4 (ah [0, 0, 1] (eT a0 a1).2).2).1), (an 4 (ah [0, 0, 1] (eT a0 a1).2).2).2)) (none)) (none)) (none)) (none)) (none))) (none)) (none)) (none)) (none)) (none)) (none)
def cU (a0 : Int) (a1 : Ty.T af) : (Ty.T y63) × (Ty.T af) := (jx a0 a1 some).getD ((Ty.zero y63), (Ty.zero af))
def qQ (a0 : Int) (a1 : Ty.T af) : Bool := (jx a0 a1 some).isSome
def Sx : Gen := ⟨[false, false], [.one (.ptr 4294967296 0), oI], [(4294967296, .box 222 [.dat af true])], fun v => .br (qQ v.1 v.2.1) (.done (HO (cU v.1 v.2.1))) .no⟩
theorem ug : dp Tryz.prog 122 Sx := b9 Qu.ok aj (az (by kernel_rfl)) ⟨Tryz.f122, ae Tryz.f122, by kernel_rfl, by kernel_rfl⟩ fun v => Eq.trans (b := (jx v.1 v.2.1 (sm HO))) (by kernel_rfl) (al (show jx v.1 v.2.1 (sm HO) = (jx v.1 v.2.1 some).bind _ from by unfold jx; simp only [bb]))
def Ij (r : Int × (Ty.T af)) : AV × Sig := (.one (.int .i64 r.1), [(4294967296, .box 222 ((af.cells true r.2)))])
def UK := (E0.g dX)
def kS (a0 : Ty.T af) {Z : Type} (κ : Int × (Ty.T af) -> Option Z) : Option Z := cond (bm [(-1), 0, 1, 2, 255, 256, 65535, 2147483647, 2147483648, 4294967295, 4294967296, (-2147483648), 9223372036854775807, (-9223372036854775808)] a0) (κ ((ah [(-1), 0, 1, 2, 255, 256, 65535, 2147483647, 2147483648, 4294967295, 4294967296, (-2147483648), 9223372036854775807, (-9223372036854775808)] a0).1, (ah [(-1), 0, 1, 2, 255, 256, 65535, 2147483647, 2147483648, 4294967295, 4294967296, (-2147483648), 9223372036854775807, (-9223372036854775808)] a0).2)) (none)
def wS (a0 : Ty.T af) : Int × (Ty.T af) := (kS a0 some).getD (0, (Ty.zero af))
def Gb (a0 : Ty.T af) : Bool := (kS a0 some).isSome
def UL : Gen := ⟨[false], [.one (.ptr 4294967296 0)], [(4294967296, .box 222 [.dat af true])], fun v => .br (Gb v.1) (.done (Ij (wS v.1))) .no⟩
theorem Rn : dp Tryz.prog 264 UL := b9 UK.ok aj (az (by kernel_rfl)) ⟨Tryz.f264, ae Tryz.f264, by kernel_rfl, by kernel_rfl⟩ fun v => Eq.trans (b := (kS v.1 (sm Ij))) (by kernel_rfl) (al (show kS v.1 (sm Ij) = (kS v.1 some).bind _ from (bC rfl rfl)))
def Gf (r : Int × (Ty.T af)) : AV × Sig := (.one (.int .i64 r.1), [(4294967296, .box 222 ((af.cells true r.2)))])
def T7 := (((E0.g fF).g dX).g Rn)
def kK (a0 : Ty.T af) {Z : Type} (κ : Int × (Ty.T af) -> Option Z) : Option Z := cond (cE 2 a0) (cond (an 2 a0).1 (cond (Gb (an 2 a0).2) (κ ((wS (an 2 a0).2).1, (wS (an 2 a0).2).2)) (none)) (cond (bm [(-2147483648), (-2147483647), (-3), (-1), 0, 1, 3, 7, 2147483647, 2147483648] (an 2 a0).2) (κ ((ah [(-2147483648), (-2147483647), (-3), (-1), 0, 1, 3, 7, 2147483647, 2147483648] (an 2 a0).2).1, (ah [(-2147483648), (-2147483647), (-3), (-1), 0, 1, 3, 7, 2147483647, 2147483648] (an 2 a0).2).2)) (none))) (none)
def e4 (a0 : Ty.T af) : Int × (Ty.T af) := (kK a0 some).getD (0, (Ty.zero af))
def mN (a0 : Ty.T af) : Bool := (kK a0 some).isSome
def UD : Gen := ⟨[false], [.one (.ptr 4294967296 0)], [(4294967296, .box 222 [.dat af true])], fun v => .br (mN v.1) (.done (Gf (e4 v.1))) .no⟩
theorem uM : dp Tryz.prog 210 UD := b9 T7.ok aj (az (by kernel_rfl)) ⟨Tryz.f210, ae Tryz.f210, by kernel_rfl, by kernel_rfl⟩ fun v => Eq.trans (b := (kK v.1 (sm Gf))) (by kernel_rfl) (al (show kK v.1 (sm Gf) = (kK v.1 some).bind _ from (bC (bC (bC rfl rfl) (bC rfl rfl)) rfl)))
def HC (r : (Ty.T y63) × (Ty.T af)) : AV × Sig := (.agg (y63.cells false r.1), [(4294967296, .box 222 ((af.cells true r.2)))])
def PG := ((((E0.g dw).g ug).g dX).g uM)
@[reducible] def zU : List SP := .one (.ptr 4294967296 0) :: .und :: .one (.ptr 2 0) :: .one (.ptr 3 0) :: U4 (U2 (oI :: .one (.dat .bool true) :: U64 (U2 ([]))))
@[reducible] def zr : List (Nat × GP) := [(4294967296, .box 222 [.dat af true]), (2, .box 64 [.dat y63 false]), (3, .box 64 [.dat y63 false])]
@[reducible] def fX : Type := Int × Bool × (Ty.T af) × (Ty.T y63) × (Ty.T y63) × Unit
@[reducible] def zy : List SP := U2 (.one (.ptr 2 0) :: .one (.ptr 3 0) :: U64 (U8 (U2 ([]))))
@[reducible] def yU : List (Nat × GP) := [(2, .box 64 [.dat y63 false]), (3, .box 64 [.dat y63 false]), (4294967296, .box 222 [.dat af true])]
def vZ (v : fX) (r : (Ty.T y63) × (Ty.T af)) : Ex × St := (.normal, ax zy yU (v.2.2.2.1, r.1, r.2, ()))
def eo (v : fX) {Z : Type} (κ : (Ty.T y63) × (Ty.T af) -> Option Z) : Option Z := cond v.2.1 (cond (bm [0, 99, 100] v.2.2.1) (κ (((ah [0, 99, 100] v.2.2.1).1, v.2.2.2.2.1.2), (ah [0, 99, 100] v.2.2.1).2)) (none)) (cond (v.1 == (1 : Int)) (cond (bm [(-1), 2, 3] v.2.2.1) (κ ((v.2.2.2.2.1.1, (ah [(-1), 2, 3] v.2.2.1).1, v.2.2.2.2.1.2.2), (ah [(-1), 2, 3] v.2.2.1).2)) (none)) (cond (v.1 == (2 : Int)) (cond (bm [(-1), 2, 3] v.2.2.1) (κ ((v.2.2.2.2.1.1, v.2.2.2.2.1.2.1, (ah [(-1), 2, 3] v.2.2.1).1, v.2.2.2.2.1.2.2.2), (ah [(-1), 2, 3] v.2.2.1).2)) (none)) (cond (v.1 == (3 : Int)) (cond (bm [0, 1, 4, 5] v.2.2.1) (κ ((v.2.2.2.2.1.1, v.2.2.2.2.1.2.1, v.2.2.2.2.1.2.2.1, (ah [0, 1, 4, 5] v.2.2.1).1, v.2.2.2.2.1.2.2.2.2), (ah [0, 1, 4, 5] v.2.2.1).2)) (none)) (cond (v.1 == (4 : Int)) (cond (bm [(-1), 9999, 10000] v.2.2.1) (κ ((v.2.2.2.2.1.1, v.2.2.2.2.1.2.1, v.2.2.2.2.1.2.2.1, v.2.2.2.2.1.2.2.2.1, (ah [(-1), 9999, 10000] v.2.2.1).1, v.2.2.2.2.1.2.2.2.2.2), (ah [(-1), 9999, 10000] v.2.2.1).2)) (none)) (cond (v.1 == (5 : Int)) (cond (bm [(-1), 999, 1000] v.2.2.1) (κ ((v.2.2.2.2.1.1, v.2.2.2.2.1.2.1, v.2.2.2.2.1.2.2.1, v.2.2.2.2.1.2.2.2.1, v.2.2.2.2.1.2.2.2.2.1, (ah [(-1), 999, 1000] v.2.2.1).1, v.2.2.2.2.1.2.2.2.2.2.2), (ah [(-1), 999, 1000] v.2.2.1).2)) (none)) (cond (v.1 == (6 : Int)) (cond (bm [(-1), 999, 1000] v.2.2.1) (κ ((v.2.2.2.2.1.1, v.2.2.2.2.1.2.1, v.2.2.2.2.1.2.2.1, v.2.2.2.2.1.2.2.2.1, v.2.2.2.2.1.2.2.2.2.1, v.2.2.2.2.1.2.2.2.2.2.1, (ah [(-1), 999, 1000] v.2.2.1).1, v.2.2.2.2.1.2.2.2.2.2.2.2), (ah [(-1), 999, 1000] v.2.2.1).2)) (none)) (cond (v.1 == (7 : Int)) (cond (bm [(-1), 63, 64] v.2.2.1) (κ ((v.2.2.2.2.1.1, v.2.2.2.2.1.2.1, v.2.2.2.2.1.2.2.1, v.2.2.2.2.1.2.2.2.1, v.2.2.2.2.1.2.2.2.2.1, v.2.2.2.2.1.2.2.2.2.2.1, v.2.2.2.2.1.2.2.2.2.2.2.1, (ah [(-1), 63, 64] v.2.2.1).1, v.2.2.2.2.1.2.2.2.2.2.2.2.2), (ah [(-1), 63, 64] v.2.2.1).2)) (none)) (cond (v.1 == (8 : Int)) (cond (mN v.2.2.1) (κ ((v.2.2.2.2.1.1, v.2.2.2.2.1.2.1, v.2.2.2.2.1.2.2.1, v.2.2.2.2.1.2.2.2.1, v.2.2.2.2.1.2.2.2.2.1, v.2.2.2.2.1.2.2.2.2.2.1, v.2.2.2.2.1.2.2.2.2.2.2.1, v.2.2.2.2.1.2.2.2.2.2.2.2.1, (e4 v.2.2.1).1, v.2.2.2.2.1.2.2.2.2.2.2.2.2.2), (e4 v.2.2.1).2)) (none)) (cond (v.1 == (9 : Int)) (cond (mN v.2.2.1) (κ ((v.2.2.2.2.1.1, v.2.2.2.2.1.2.1, v.2.2.2.2.1.2.2.1, v.2.2.2.2.1.2.2.2.1, v.2.2.2.2.1.2.2.2.2.1, v.2.2.2.2.1.2.2.2.2.2.1, v.2.2.2.2.1.2.2.2.2.2.2.1, v.2.2.2.2.1.2.2.2.2.2.2.2.1, v.2.2.2.2.1.2.2.2.2.2.2.2.2.1, (e4 v.2.2.1).1, v.2.2.2.2.1.2.2.2.2.2.2.2.2.2.2), (e4 v.2.2.1).2)) (none)) (cond (v.1 == (10 : Int)) (cond (mN v.2.2.1) (κ ((v.2.2.2.2.1.1, v.2.2.2.2.1.2.1, v.2.2.2.2.1.2.2.1, v.2.2.2.2.1.2.2.2.1, v.2.2.2.2.1.2.2.2.2.1, v.2.2.2.2.1.2.2.2.2.2.1, v.2.2.2.2.1.2.2.2.2.2.2.1, v.2.2.2.2.1.2.2.2.2.2.2.2.1, v.2.2.2.2.1.2.2.2.2.2.2.2.2.1, v.2.2.2.2.1.2.2.2.2.2.2.2.2.2.1, (e4 v.2.2.1).1, v.2.2.2.2.1.2.2.2.2.2.2.2.2.2.2.2), (e4 v.2.2.1).2)) (none)) (cond (v.1 == (11 : Int)) (κ ((v.2.2.2.2.1.1, v.2.2.2.2.1.2.1, v.2.2.2.2.1.2.2.1, v.2.2.2.2.1.2.2.2.1, v.2.2.2.2.1.2.2.2.2.1, v.2.2.2.2.1.2.2.2.2.2.1, v.2.2.2.2.1.2.2.2.2.2.2.1, v.2.2.2.2.1.2.2.2.2.2.2.2.1, v.2.2.2.2.1.2.2.2.2.2.2.2.2.1, v.2.2.2.2.1.2.2.2.2.2.2.2.2.2.1, v.2.2.2.2.1.2.2.2.2.2.2.2.2.2.2.1, true, v.2.2.2.2.1.2.2.2.2.2.2.2.2.2.2.2.2), v.2.2.1)) (κ (v.2.2.2.2.1, v.2.2.1)))))))))))))
def mb (v : fX) : (Ty.T y63) × (Ty.T af) := (eo v some).getD ((Ty.zero y63), (Ty.zero af))
def yn (v : fX) : Bool := (eo v some).isSome
def El (v : fX) : aP (Ex × St) := .br (yn v) (.done (vZ v (mb v))) .no
theorem Ou : aK Tryz.prog (aw (pb 5 27) (ae Tryz.f117)) zU zr El := aA (lt := .none) (sx := zy) (gx := yU) PG.ok aj (ag.no _) fun v => Eq.trans (b := eo v (sm (vZ v))) (by kernel_rfl) (al (show eo v (sm (vZ v)) = (eo v some).bind _ from by unfold eo; simp only [bb]))
def Q6 := PG.l (g := 117) (t := (aD (pb 5 27) (ae Tryz.f117) .none (.sum zU zr El))) (aZ Tryz.func117 (ag.bP (az (by kernel_rfl)) (ag.no _) Ou))
def kH (a0 : Ty.T af) {Z : Type} (κ : (Ty.T y63) × (Ty.T af) -> Option Z) : Option Z := cond (bn 9 a0) (cond (qQ (IntKind.wrap .i64 ((1 : Int) + (aa 9 a0).1)) (aa 9 a0).2) (cond (bn 20 (cU (IntKind.wrap .i64 ((1 : Int) + (aa 9 a0).1)) (aa 9 a0).2).2) (cond (yn ((aa 20 (cU (IntKind.wrap .i64 ((1 : Int) + (aa 9 a0).1)) (aa 9 a0).2).2).1, ((aa 20 (cU (IntKind.wrap .i64 ((1 : Int) + (aa 9 a0).1)) (aa 9 a0).2).2).1 == (0 : Int)), (aa 20 (cU (IntKind.wrap .i64 ((1 : Int) + (aa 9 a0).1)) (aa 9 a0).2).2).2, (0, 0, 0, 0, 0, 0, 0, 0, 0, 0, 0, false, false), (cU (IntKind.wrap .i64 ((1 : Int) + (aa 9 a0).1)) (aa 9 a0).2).1, ())) (κ ((mb ((aa 20 (cU (IntKind.wrap .i64 ((1 : Int) + (aa 9 a0).1)) (aa 9 a0).2).2).1, ((aa 20 (cU (IntKind.wrap .i64 ((1 : Int) + (aa 9 a0).1)) (aa 9 a0).2).2).1 == (0 : Int)), (aa 20 (cU (IntKind.wrap .i64 ((1 : Int) + (aa 9 a0).1)) (aa 9 a0).2).2).2, (0, 0, 0, 0, 0, 0, 0, 0, 0, 0, 0, false, false), (cU (IntKind.wrap .i64 ((1 : Int) + (aa 9 a0).1)) (aa 9 a0).2).1, ())).1, (mb ((aa 20 (cU (IntKind.wrap .i64 ((1 : Int) + (aa 9 a0).1)) (aa 9 a0).2).2).1, ((aa 20 (cU (IntKind.wrap .i64 ((1 : Int) + (aa 9 a0).1)) (aa 9 a0).2).2).1 == (0 : Int)), (aa 20 (cU (IntKind.wrap .i64 ((1 : Int) + (aa 9 a0).1)) (aa 9 a0).2).2).2, (0, 0, 0, 0, 0, 0, 0, 0, 0, 0, 0, false, false), (cU (IntKind.wrap .i64 ((1 : Int) + (aa 9 a0).1)) (aa 9 a0).2).1, ())).2)) (none)) (none)) (none)) (none)
def xw (a0 : Ty.T af) : (Ty.T y63) × (Ty.T af) := (kH a0 some).getD ((Ty.zero y63), (Ty.zero af))
def BT (a0 : Ty.T af) : Bool := (kH a0 some).isSome
def Tv : Gen := ⟨[false], [.one (.ptr 4294967296 0)], [(4294967296, .box 222 [.dat af true])], fun v => .br (BT v.1) (.done (HC (xw v.1))) .no⟩
theorem IX : dp Tryz.prog 117 Tv := b9 Q6.ok aj (az (by kernel_rfl)) ⟨Tryz.f117, ae Tryz.f117, by kernel_rfl, by kernel_rfl⟩ fun v => Eq.trans (b := (kH v.1 (sm HC))) (by kernel_rfl) (al (show kH v.1 (sm HC) = (kH v.1 some).bind _ from (bC (bC (bC (bC rfl rfl) rfl) rfl) rfl)))
def f29 (r : (Ty.T y63)) : AV × Sig := (.agg (y63.cells false r), [])
def E29 := ((E0.g IX).p Ju)
def t29 (a0 : List (Ty.T (.int .u8))) {Z : Type} (κ : (Ty.T y63) -> Option Z) : Option Z := cond (d116 a0) (cond (BT (b8 a0)) (κ (xw (b8 a0)).1) (none)) (none)
def v29 (a0 : List (Ty.T (.int .u8))) : (Ty.T y63) := (t29 a0 some).getD (Ty.zero y63)
def d29 (a0 : List (Ty.T (.int .u8))) : Bool := (t29 a0 some).isSome
def p29 : Prim := ⟨[.one (.dat (.sl 5 (.int .u8)) true)], fun v => .br (d29 v.1) (.done (f29 (v29 v.1))) .no⟩
theorem aba : PO 29 p29 := pK E29 fun v => Eq.trans (b := (t29 v.1 (sm f29))) (by kernel_rfl) (al (show t29 v.1 (sm f29) = (t29 v.1 some).bind _ from (bC (bC rfl rfl) rfl)))
def f215 (r : (Ty.T aB) × (List (Ty.T y63)) × (List (Ty.T aM))) : AV × Sig := (.agg ([.sl 4096] ++ [.sl 8192] ++ (aB.cells false r.1)), [(4096, .arr 64 y63 r.2.1 false), (8192, .arr 191 aM r.2.2 false)])
def acb := E0
def WM (a0 : Int) : Option (AV × Sig) := cond (a0 == (3 : Int)) (if ([(20, 0, false), (20, 0, false)] ++ [(20, 0, false)] : List (Ty.T aM)).length * 24 <= 140737488351232 then (some (.agg [.sl 4096, .sl 8192, .int .i64 0, .int .i64 0], [(4096, .arr 64 y63 [] false), (8192, .arr 191 aM ([(20, 0, false), (20, 0, false)] ++ [(20, 0, false)]) false)])) else none) (some (.agg [.sl 4096, .sl 8192, .int .i64 0, .int .i64 0], [(4096, .arr 64 y63 [] false), (8192, .arr 191 aM [(20, 0, false), (20, 0, false)] false)]))
def tT (a0 : Int) : (Ty.T aB) × (List (Ty.T y63)) × (List (Ty.T aM)) := cond (a0 == (3 : Int)) (((0, 0), [], [(20, 0, false), (20, 0, false)] ++ [(20, 0, false)])) (((0, 0), [], [(20, 0, false), (20, 0, false)]))
def d215 (a0 : Int) : Bool := cond (a0 == (3 : Int)) (decide (([(20, 0, false), (20, 0, false)] ++ [(20, 0, false)] : List (Ty.T aM)).length * 24 <= 140737488351232) && (true)) (true)
theorem afr (a0 : Int) : WM a0 = cond (d215 a0) (some (f215 (tT a0))) none := (pC (pI (pS _)) (pS _))
def aaV : Prim := ⟨[oI], fun v => .br (d215 v.1) (.done (f215 (tT v.1))) .no⟩
theorem Ww : PO 215 aaV := pK acb fun v => Eq.trans (b := WM v.1) (by kernel_rfl) (afr v.1)
def Hv (r : (Ty.T aB) × (Ty.T af) × (List (Ty.T y63)) × (List (Ty.T aM))) : AV × Sig := (.agg ([.sl 33554432] ++ [.sl 33558528] ++ (aB.cells false r.1)), [(4294967296, .box 222 ((af.cells true r.2.1))), (33554432, .arr 64 y63 r.2.2.1 false), (33558528, .arr 191 aM r.2.2.2 false)])
def yb := ((((E0.g dw).g ug).g dX).p Ww)
@[reducible] def Ab : List SP := .one (.ptr 4294967296 0) :: .und :: .one (.ptr 2 0) :: .one (.ptr 3 0) :: oI :: U8 (U2 (.und :: oI :: .one (.dat .bool true) :: U32 (U8 ([]))))
@[reducible] def cT : List (Nat × GP) := [(4294967296, .box 222 [.dat af true]), (2, .box 37 [.dat y36 false]), (3, .box 37 [.own 4104, .own 8200, .dat aB false]), (4104, .arr 64 y63 false), (8200, .arr 191 aM false)]
@[reducible] def m7 : Type := Int × Int × Bool × (Ty.T af) × (Ty.T y36) × (Ty.T aB) × (List (Ty.T y63)) × (List (Ty.T aM)) × Unit
@[reducible] def nK : List SP := .one (.ptr 4294967296 0) :: .und :: .one (.ptr 2 0) :: .one (.ptr 3 0) :: oI :: U8 (U2 (.und :: oI :: .one (.dat .bool true) :: U2 (.one (.ptr 3 1) :: .one (.own 8200) :: oI :: .one (.ptr 4294967296 0) :: .one (.dat (.sl 3 (.int .i64)) false) :: oI :: U32 ([]))))
def ve (v : m7) (r : (List (Ty.T aM))) : Ex × St := (.normal, ax nK cT (v.1, v.2.1, v.2.2.1, v.1, [20, 20, 3, 1, 10], (ah [20, 20, 3, 1, 10] v.2.2.2.1).1, (ah [20, 20, 3, 1, 10] v.2.2.2.1).2, v.2.2.2.2.1, v.2.2.2.2.2.1, v.2.2.2.2.2.2.1, r, ()))
def eV (v : m7) {Z : Type} (κ : (List (Ty.T aM)) -> Option Z) : Option Z := cond (bm [20, 20, 3, 1, 10] v.2.2.2.1) (if 0 <= v.1 then (if v.1 < ((v.2.2.2.2.2.2.2.1).length : Int) then (bc ((v.2.2.2.2.2.2.2.1)[(v.1).toNat]?) (fun x1 => κ (v.2.2.2.2.2.2.2.1.set ((v.1).toNat) ((ah [20, 20, 3, 1, 10] v.2.2.2.1).1, x1.2)))) else none) else none) (none)
def dy (v : m7) : (List (Ty.T aM)) := (eV v some).getD []
def qM (v : m7) : Bool := (eV v some).isSome
def FD (v : m7) : aP (Ex × St) := .br (qM v) (.done (ve v (dy v))) .no
theorem LG : aK Tryz.prog (aw [true, false, false] (aO (pb 6 47) (ae Tryz.f119))) Ab cT FD := bA (by kernel_rfl) (sx := nK) (gx := cT) yb.ok aj (by kernel_rfl) 2 fun v => Eq.trans (b := List.replicate 2 (eV v (sm (ve v)))) (by kernel_rfl) (congrArg (List.replicate 2) (al (show eV v (sm (ve v)) = (eV v some).bind _ from (bC (bI (bI (bO fun x1 => rfl))) rfl))))
@[reducible] def mK : Type := Int × Int × Bool × Int × (List (Ty.T (.int .i64))) × Int × (Ty.T af) × (Ty.T y36) × (Ty.T aB) × (List (Ty.T y63)) × (List (Ty.T aM)) × Unit
@[reducible] def zl : List SP := .one (.ptr 4294967296 0) :: .und :: .one (.ptr 2 0) :: .one (.ptr 3 0) :: oI :: U8 (U2 (.und :: oI :: .one (.dat .bool true) :: U2 (.one (.ptr 3 1) :: .one (.own 8200) :: oI :: .one (.ptr 4294967296 0) :: .one (.dat (.sl 3 (.int .i64)) false) :: oI :: U2 (.one (.ptr 3 1) :: .one (.own 8200) :: oI :: .one (.ptr 4294967296 0) :: .one (.dat (.sl 3 (.int .i64)) false) :: oI :: U16 (U8 ([]))))))
def wC (v : mK) (r : (List (Ty.T aM))) : Ex × St := (.normal, ax zl cT (v.1, v.2.1, v.2.2.1, v.2.2.2.1, v.2.2.2.2.1, v.2.2.2.2.2.1, v.1, [0, 0, 8, 1], (ah [0, 0, 8, 1] v.2.2.2.2.2.2.1).1, (ah [0, 0, 8, 1] v.2.2.2.2.2.2.1).2, v.2.2.2.2.2.2.2.1, v.2.2.2.2.2.2.2.2.1, v.2.2.2.2.2.2.2.2.2.1, r, ()))
def eW (v : mK) {Z : Type} (κ : (List (Ty.T aM)) -> Option Z) : Option Z := cond (bm [0, 0, 8, 1] v.2.2.2.2.2.2.1) (if 0 <= v.1 then (if v.1 < ((v.2.2.2.2.2.2.2.2.2.2.1).length : Int) then (bc ((v.2.2.2.2.2.2.2.2.2.2.1)[(v.1).toNat]?) (fun x2 => κ (v.2.2.2.2.2.2.2.2.2.2.1.set ((v.1).toNat) (x2.1, (ah [0, 0, 8, 1] v.2.2.2.2.2.2.1).1, x2.2.2)))) else none) else none) (none)
def qe (v : mK) : (List (Ty.T aM)) := (eW v some).getD []
def qu (v : mK) : Bool := (eW v some).isSome
def Er (v : mK) : aP (Ex × St) := .br (qu v) (.done (wC v (qe v))) .no
theorem Ps : aK Tryz.prog (aw [true, false, true] (aO (pb 6 47) (ae Tryz.f119))) nK cT Er := bA (by kernel_rfl) (sx := zl) (gx := cT) yb.ok aj (by kernel_rfl) 2 fun v => Eq.trans (b := List.replicate 2 (eW v (sm (wC v)))) (by kernel_rfl) (congrArg (List.replicate 2) (al (show eW v (sm (wC v)) = (eW v some).bind _ from (bC (bI (bI (bO fun x2 => rfl))) rfl))))
@[reducible] def sO : List SP := .one (.ptr 4294967296 0) :: .und :: .one (.ptr 2 0) :: .one (.ptr 3 0) :: oI :: U32 (U16 (U4 (.und :: [])))
@[reducible] def iI : Type := Int × (Ty.T af) × (Ty.T y36) × (Ty.T aB) × (List (Ty.T y63)) × (List (Ty.T aM)) × Unit
def jY (v : iI) {Z : Type} (κ : Nat × iI -> Option Z) : Option Z := cond (decide (v.1 < (2 : Int))) (cond (qM (v.1, v.1, decide (v.1 < (2 : Int)), v.2.1, v.2.2.1, v.2.2.2.1, v.2.2.2.2.1, v.2.2.2.2.2.1, ())) (cond (qu (v.1, v.1, (decide (v.1 < (2 : Int))), v.1, [20, 20, 3, 1, 10], (ah [20, 20, 3, 1, 10] v.2.1).1, (ah [20, 20, 3, 1, 10] v.2.1).2, v.2.2.1, v.2.2.2.1, v.2.2.2.2.1, (dy (v.1, v.1, decide (v.1 < (2 : Int)), v.2.1, v.2.2.1, v.2.2.2.1, v.2.2.2.2.1, v.2.2.2.2.2.1, ())), ())) (κ (0, (IntKind.wrap .i64 (v.1 + (1 : Int)), (ah [0, 0, 8, 1] (ah [20, 20, 3, 1, 10] v.2.1).2).2, v.2.2.1, v.2.2.2.1, v.2.2.2.2.1, (qe (v.1, v.1, (decide (v.1 < (2 : Int))), v.1, [20, 20, 3, 1, 10], (ah [20, 20, 3, 1, 10] v.2.1).1, (ah [20, 20, 3, 1, 10] v.2.1).2, v.2.2.1, v.2.2.2.1, v.2.2.2.2.1, (dy (v.1, v.1, decide (v.1 < (2 : Int)), v.2.1, v.2.2.1, v.2.2.2.1, v.2.2.2.2.1, v.2.2.2.2.2.1, ())), ())), ()))) (none)) (none)) (κ (1, (v.1, v.2.1, v.2.2.1, v.2.2.2.1, v.2.2.2.2.1, v.2.2.2.2.2.1, ())))
def gY (v : iI) : Option (Nat × iI) := jY v some
def g7 (v : iI) : Nat := v.1.toNat + v.2.1.1.length + v.2.2.1.1.length + v.2.2.1.2.1.length + v.2.2.2.2.1.length + v.2.2.2.2.2.1.length + 100
def xd (h0 : Int) (h1 : Ty.T af) (h2 : Ty.T y36) (h3 : Ty.T aB) (h4 : List (Ty.T y63)) (h5 : List (Ty.T aM)) (c : Nat) : Bool := iK gY g7 (h0, h1, h2, h3, h4, h5, ()) c
def xv (h0 : Int) (h1 : Ty.T af) (h2 : Ty.T y36) (h3 : Ty.T aB) (h4 : List (Ty.T y63)) (h5 : List (Ty.T aM)) : iI := iW gY g7 (h0, h1, h2, h3, h4, h5, ())
def FX (v : iI) : aP (Ex × St) := bz gY (g7 v) v (ax sO cT) [.exit 0] 0
theorem Oa : bw Tryz.prog (aO (pb 6 47) (ae Tryz.f119)) sO cT FX := aE (lt := (aD [true, false, true] (aO (pb 6 47) (ae Tryz.f119)) (aD [true, false, false] (aO (pb 6 47) (ae Tryz.f119)) .none (.sum Ab cT FD)) (.sum nK cT Er))) yb.ok aj (ag.bP (az (by kernel_rfl)) (ag.bP (az (by kernel_rfl)) (ag.no _) LG) Ps) fun n v K => Eq.trans (b := jY v (dt _ _ _ _ _ K)) (by kernel_rfl) (show jY v _ = (jY v some).bind _ from (bC (bC (bC rfl rfl) rfl) rfl))
@[reducible] def rJ : List SP := .one (.ptr 4294967296 0) :: .und :: .one (.ptr 2 0) :: .one (.ptr 3 0) :: .und :: oI :: oI :: U32 (U16 (U2 (.und :: [])))
@[reducible] def g9 : Type := Int × Int × (Ty.T af) × (Ty.T y36) × (Ty.T aB) × (List (Ty.T y63)) × (List (Ty.T aM)) × Unit
def jz (v : g9) {Z : Type} (κ : Nat × g9 -> Option Z) : Option Z := cond (decide (v.2.1 > (0 : Int))) (cond (bn 2 v.2.2.1) (cond (qQ (IntKind.wrap .i64 ((IntKind.wrap .i64 (v.1 + (1 : Int))) + (aa 2 v.2.2.1).1)) (aa 2 v.2.2.1).2) (if (v.2.2.2.2.2.1 ++ [(cU (IntKind.wrap .i64 ((IntKind.wrap .i64 (v.1 + (1 : Int))) + (aa 2 v.2.2.1).1)) (aa 2 v.2.2.1).2).1] : List (Ty.T y63)).length * 96 <= 140737488351232 then (κ (0, (IntKind.wrap .i64 ((IntKind.wrap .i64 (v.1 + (1 : Int))) + (aa 2 v.2.2.1).1), IntKind.wrap .i64 (v.2.1 - (1 : Int)), (cU (IntKind.wrap .i64 ((IntKind.wrap .i64 (v.1 + (1 : Int))) + (aa 2 v.2.2.1).1)) (aa 2 v.2.2.1).2).2, v.2.2.2.1, v.2.2.2.2.1, v.2.2.2.2.2.1 ++ [(cU (IntKind.wrap .i64 ((IntKind.wrap .i64 (v.1 + (1 : Int))) + (aa 2 v.2.2.1).1)) (aa 2 v.2.2.1).2).1], v.2.2.2.2.2.2.1, ()))) else none) (none)) (none)) (κ (1, (v.1, v.2.1, v.2.2.1, v.2.2.2.1, v.2.2.2.2.1, v.2.2.2.2.2.1, v.2.2.2.2.2.2.1, ())))
def gX (v : g9) : Option (Nat × g9) := jz v some
def hY (v : g9) : Nat := v.1.toNat + v.2.1.toNat + v.2.2.1.1.length + v.2.2.2.1.1.length + v.2.2.2.1.2.1.length + v.2.2.2.2.2.1.length + v.2.2.2.2.2.2.1.length + 100
def qn (h0 : Int) (h1 : Int) (h2 : Ty.T af) (h3 : Ty.T y36) (h4 : Ty.T aB) (h5 : List (Ty.T y63)) (h6 : List (Ty.T aM)) (c : Nat) : Bool := iK gX hY (h0, h1, h2, h3, h4, h5, h6, ()) c
def v8 (h0 : Int) (h1 : Int) (h2 : Ty.T af) (h3 : Ty.T y36) (h4 : Ty.T aB) (h5 : List (Ty.T y63)) (h6 : List (Ty.T aM)) : g9 := iW gX hY (h0, h1, h2, h3, h4, h5, h6, ())
def DI (v : g9) : aP (Ex × St) := bz gX (hY v) v (ax rJ cT) [.exit 2] 0
theorem MV : bw Tryz.prog (aO (pb 8 191) (ae Tryz.f119)) rJ cT DI := aE (lt := .none) yb.ok aj (ag.no _) fun n v K => Eq.trans (b := jz v (dt _ _ _ _ _ K)) (by kernel_rfl) (show jz v _ = (jz v some).bind _ from (bC (bC (bC (bI rfl) rfl) rfl) rfl))
def Qk := yb.l (g := 119) (t := (aD (pb 8 191) (ae Tryz.f119) (aD (pb 6 47) (ae Tryz.f119) .none (.sum sO cT FX)) (.sum rJ cT DI))) (aZ Tryz.func119 (ag.wL (by kernel_rfl) (az (by kernel_rfl)) (ag.wL (by kernel_rfl) (az (by kernel_rfl)) (ag.no _) Oa) MV))
def dh (a0 : Ty.T af) := (xv 0 (aa 2 (aa 3 a0).2).2 ([], [], 0, 0) ((aa 2 (aa 3 a0).2).1, IntKind.wrap .i64 ((2 : Int) + (aa 3 a0).1)) (tT 2).2.1 (tT 2).2.2)
def fJ (a0 : Ty.T af) := (v8 0 (IntKind.wrap .i64 ((1 : Int) + (aa 5 (dh a0).2.1).1)) (aa 5 (dh a0).2.1).2 (dh a0).2.2.1 (dh a0).2.2.2.1 (dh a0).2.2.2.2.1 (dh a0).2.2.2.2.2.1)
def jq (a0 : Ty.T af) {Z : Type} (κ : (Ty.T aB) × (Ty.T af) × (List (Ty.T y63)) × (List (Ty.T aM)) -> Option Z) : Option Z := cond (d215 2) (cond (bn 3 a0) (cond (bn 2 (aa 3 a0).2) (cond (xd 0 (aa 2 (aa 3 a0).2).2 ([], [], 0, 0) ((aa 2 (aa 3 a0).2).1, IntKind.wrap .i64 ((2 : Int) + (aa 3 a0).1)) (tT 2).2.1 (tT 2).2.2 0) (cond (bn 5 (dh a0).2.1) (cond (qn 0 (IntKind.wrap .i64 ((1 : Int) + (aa 5 (dh a0).2.1).1)) (aa 5 (dh a0).2.1).2 (dh a0).2.2.1 (dh a0).2.2.2.1 (dh a0).2.2.2.2.1 (dh a0).2.2.2.2.2.1 0) (κ ((fJ a0).2.2.2.2.1, (fJ a0).2.2.1, (fJ a0).2.2.2.2.2.1, (fJ a0).2.2.2.2.2.2.1)) (none)) (none)) (none)) (none)) (none)) (none)
def bf (a0 : Ty.T af) : (Ty.T aB) × (Ty.T af) × (List (Ty.T y63)) × (List (Ty.T aM)) := (jq a0 some).getD ((Ty.zero aB), (Ty.zero af), [], [])
def Cv (a0 : Ty.T af) : Bool := (jq a0 some).isSome
def UM : Gen := ⟨[false], [.one (.ptr 4294967296 0)], [(4294967296, .box 222 [.dat af true])], fun v => .br (Cv v.1) (.done (Hv (bf v.1))) .no⟩
theorem JB : dp Tryz.prog 119 UM := b9 Qk.ok aj (az (by kernel_rfl)) ⟨Tryz.f119, ae Tryz.f119, by kernel_rfl, by kernel_rfl⟩ fun v => Eq.trans (b := (jq v.1 (sm Hv))) (by kernel_rfl) (al (show jq v.1 (sm Hv) = (jq v.1 some).bind _ from by unfold jq; simp only [bb]))
def Hm (r : Int × (Ty.T af)) : AV × Sig := (.one (.int .i64 r.1), [(4294967296, .box 222 ((af.cells true r.2)))])
def MN := ((E0.g dw).g fF)
@[reducible] def y5 : List SP := .one (.ptr 4294967296 0) :: U2 (.one (.ptr 3 0) :: oI :: U16 (U4 (.und :: [])))
@[reducible] def Af : List (Nat × GP) := [(4294967296, .box 222 [.dat af true]), (3, .box 37 [.dat y36 false])]
@[reducible] def mL : Type := Int × (Ty.T af) × (Ty.T y36) × Unit
@[reducible] def zx : List SP := U4 (oI :: U16 (U4 (.und :: [])))
@[reducible] def yQ : List (Nat × GP) := [(4294967296, .box 222 [.dat af true])]
def xk (v : mL) (r : Int) : Ex × St := (.normal, ax zx yQ (r, (aa ((v.2.2.1.1).length : Int) v.2.1).2, ()))
def iG (v : mL) {Z : Type} (κ : Int -> Option Z) : Option Z := cond (bn ((v.2.2.1.1).length : Int) v.2.1) (if 0 <= (aa ((v.2.2.1.1).length : Int) v.2.1).1 then (bc ((v.2.2.1.1)[((aa ((v.2.2.1.1).length : Int) v.2.1).1).toNat]?) (fun x1 => κ x1.1)) else none) (none)
def D0 (v : mL) : Int := (iG v some).getD 0
def vJ (v : mL) : Bool := (iG v some).isSome
def EI (v : mL) : aP (Ex × St) := .br (vJ v) (.done (xk v (D0 v))) .no
theorem NX : aK Tryz.prog (aw (pb 3 3) (ae Tryz.f265)) y5 Af EI := bA (by kernel_rfl) (sx := zx) (gx := yQ) MN.ok aj (by kernel_rfl) 2 fun v => Eq.trans (b := List.replicate 2 (iG v (sm (xk v)))) (by kernel_rfl) (congrArg (List.replicate 2) (al (show iG v (sm (xk v)) = (iG v some).bind _ from (bC (bI (bO fun x1 => rfl)) rfl))))
def PY := MN.l (g := 265) (t := (aD (pb 3 3) (ae Tryz.f265) .none (.sum y5 Af EI))) (aZ Tryz.func265 (ag.bP (az (by kernel_rfl)) (ag.no _) NX))
def mV (a0 : Ty.T y36) (a1 : Ty.T af) {Z : Type} (κ : Int × (Ty.T af) -> Option Z) : Option Z := cond (((a0.1).length : Int) == (0 : Int)) (cond (bn 9 a1) (κ (IntKind.wrap .i64 ((1 : Int) + (aa 9 a1).1), (aa 9 a1).2)) (none)) (cond (cE 8 a1) (cond (an 8 a1).1 (cond (bn 9 (an 8 a1).2) (κ (IntKind.wrap .i64 ((1 : Int) + (aa 9 (an 8 a1).2).1), (aa 9 (an 8 a1).2).2)) (none)) (cond (vJ (0, (an 8 a1).2, a0, ())) (κ ((D0 (0, (an 8 a1).2, a0, ())), (aa ((a0.1).length : Int) (an 8 a1).2).2)) (none))) (none))
def bN (a0 : Ty.T y36) (a1 : Ty.T af) : Int × (Ty.T af) := (mV a0 a1 some).getD (0, (Ty.zero af))
def iE (a0 : Ty.T y36) (a1 : Ty.T af) : Bool := (mV a0 a1 some).isSome
def TA : Gen := ⟨[false, false], [.one (.ptr 4294967296 0), .agg [.dat y36 false]], [(4294967296, .box 222 [.dat af true])], fun v => .br (iE v.1 v.2.1) (.done (Hm (bN v.1 v.2.1))) .no⟩
theorem uG : dp Tryz.prog 265 TA := b9 PY.ok aj (az (by kernel_rfl)) ⟨Tryz.f265, ae Tryz.f265, by kernel_rfl, by kernel_rfl⟩ fun v => Eq.trans (b := (mV v.1 v.2.1 (sm Hm))) (by kernel_rfl) (al (show mV v.1 v.2.1 (sm Hm) = (mV v.1 v.2.1 some).bind _ from by unfold mV; simp only [bb]))
def Hh (r : (Ty.T bS) × (Ty.T af)) : AV × Sig := (.agg (bS.cells false r.1), [(4294967296, .box 222 ((af.cells true r.2)))])
def yr := (((E0.g fF).g dX).g uG)
@[reducible] def yO : List SP := .one (.ptr 4294967296 0) :: U2 (.one (.ptr 3 0) :: .one (.ptr 4 0) :: .one (.ptr 5 0) :: U8 (.one (.dat .bool true) :: U32 (U8 (U4 ([])))))
@[reducible] def cQ : List (Nat × GP) := [(4294967296, .box 222 [.dat af true]), (3, .box 37 [.dat y36 false]), (4, .box 103 [.dat bS false]), (5, .box 103 [.dat bS false])]
@[reducible] def cY : Type := Bool × (Ty.T af) × (Ty.T y36) × (Ty.T bS) × (Ty.T bS) × Unit
@[reducible] def gF : List SP := .one (.ptr 4294967296 0) :: U2 (.one (.ptr 3 0) :: .one (.ptr 4 0) :: .one (.ptr 5 0) :: U32 (U16 (U4 (.und :: []))))
def vU (v : cY) (r : (Ty.T af) × (Ty.T bS)) : Ex × St := (.normal, ax gF cQ (r.1, v.2.2.1, v.2.2.2.1, r.2, ()))
def hO (v : cY) {Z : Type} (κ : (Ty.T af) × (Ty.T bS) -> Option Z) : Option Z := cond v.1 (cond (bm [1, 2, 3] v.2.1) (κ ((ah [1, 2, 3] v.2.1).2, (v.2.2.2.2.1.1, v.2.2.2.2.1.2.1, v.2.2.2.2.1.2.2.1, v.2.2.2.2.1.2.2.2.1, v.2.2.2.2.1.2.2.2.2.1, (ah [1, 2, 3] v.2.1).1, v.2.2.2.2.1.2.2.2.2.2.2))) (none)) (κ (v.2.1, v.2.2.2.2.1))
def vt (v : cY) : (Ty.T af) × (Ty.T bS) := (hO v some).getD ((Ty.zero af), (Ty.zero bS))
def xH (v : cY) : Bool := (hO v some).isSome
def DA (v : cY) : aP (Ex × St) := .br (xH v) (.done (vU v (vt v))) .no
theorem N5 : aK Tryz.prog (aw (pb 4 11) (ae Tryz.f266)) yO cQ DA := aA (lt := .none) (sx := gF) (gx := cQ) yr.ok aj (ag.no _) fun v => Eq.trans (b := hO v (sm (vU v))) (by kernel_rfl) (al (show hO v (sm (vU v)) = (hO v some).bind _ from (bC (bC rfl rfl) rfl)))
@[reducible] def y6 : List SP := .one (.ptr 4294967296 0) :: U2 (.one (.ptr 3 0) :: .one (.ptr 4 0) :: .one (.ptr 5 0) :: U8 (U4 (U2 (oI :: .one (.dat .bool true) :: U32 (U4 (.und :: []))))))
@[reducible] def fS : Type := Int × Bool × (Ty.T af) × (Ty.T y36) × (Ty.T bS) × (Ty.T bS) × Unit
def vE (v : fS) (r : (Ty.T af) × (Ty.T bS)) : Ex × St := (.normal, ax gF cQ (r.1, v.2.2.2.1, v.2.2.2.2.1, r.2, ()))
def fH (v : fS) {Z : Type} (κ : (Ty.T af) × (Ty.T bS) -> Option Z) : Option Z := cond v.2.1 (cond (cE 5 v.2.2.1) (cond (an 5 v.2.2.1).1 (cond (iE v.2.2.2.1 (an 5 v.2.2.1).2) (cond (cE 5 (bN v.2.2.2.1 (an 5 v.2.2.1).2).2) (cond (an 5 (bN v.2.2.2.1 (an 5 v.2.2.1).2).2).1 (cond (bm [1, 2, 4, 3] (an 5 (bN v.2.2.2.1 (an 5 v.2.2.1).2).2).2) (κ ((ah [1, 2, 4, 3] (an 5 (bN v.2.2.2.1 (an 5 v.2.2.1).2).2).2).2, (v.2.2.2.2.2.1.1, v.2.2.2.2.2.1.2.1, (bN v.2.2.2.1 (an 5 v.2.2.1).2).1, (ah [1, 2, 4, 3] (an 5 (bN v.2.2.2.1 (an 5 v.2.2.1).2).2).2).1, v.2.2.2.2.2.1.2.2.2.2))) (none)) (κ ((an 5 (bN v.2.2.2.1 (an 5 v.2.2.1).2).2).2, (v.2.2.2.2.2.1.1, v.2.2.2.2.2.1.2.1, (bN v.2.2.2.1 (an 5 v.2.2.1).2).1, v.2.2.2.2.2.1.2.2.2)))) (none)) (none)) (cond (cE 5 (an 5 v.2.2.1).2) (cond (an 5 (an 5 v.2.2.1).2).1 (cond (bm [1, 2, 4, 3] (an 5 (an 5 v.2.2.1).2).2) (κ ((ah [1, 2, 4, 3] (an 5 (an 5 v.2.2.1).2).2).2, (v.2.2.2.2.2.1.1, v.2.2.2.2.2.1.2.1, v.2.2.2.2.2.1.2.2.1, (ah [1, 2, 4, 3] (an 5 (an 5 v.2.2.1).2).2).1, v.2.2.2.2.2.1.2.2.2.2))) (none)) (κ ((an 5 (an 5 v.2.2.1).2).2, v.2.2.2.2.2.1))) (none))) (none)) (cond (v.1 == (2 : Int)) (cond (bm [0, 3, 2] v.2.2.1) (κ ((ah [0, 3, 2] v.2.2.1).2, (v.2.2.2.2.2.1.1, v.2.2.2.2.2.1.2.1, v.2.2.2.2.2.1.2.2.1, v.2.2.2.2.2.1.2.2.2.1, v.2.2.2.2.2.1.2.2.2.2.1, 0, (ah [0, 3, 2] v.2.2.1).1))) (none)) (κ (v.2.2.1, v.2.2.2.2.2.1)))
def xI (v : fS) : (Ty.T af) × (Ty.T bS) := (fH v some).getD ((Ty.zero af), (Ty.zero bS))
def vM (v : fS) : Bool := (fH v some).isSome
def EF (v : fS) : aP (Ex × St) := .br (vM v) (.done (vE v (xI v))) .no
theorem N1 : aK Tryz.prog (aw (pb 6 55) (ae Tryz.f266)) y6 cQ EF := aA (lt := .none) (sx := gF) (gx := cQ) yr.ok aj (ag.no _) fun v => Eq.trans (b := fH v (sm (vE v))) (by kernel_rfl) (al (show fH v (sm (vE v)) = (fH v some).bind _ from by unfold fH; simp only [bb]))
@[reducible] def fQ : Type := (Ty.T af) × (Ty.T y36) × (Ty.T bS) × (Ty.T bS) × Unit
@[reducible] def nP : List SP := .one (.ptr 4294967296 0) :: U2 (.one (.ptr 3 0) :: .one (.ptr 4 0) :: .one (.ptr 5 0) :: U32 (U8 (U4 (U2 (.und :: .one (.dat .bool true) :: U4 (.und :: []))))))
def vQ (v : fQ) (r : Bool × (Ty.T af)) : Ex × St := (.normal, ax nP cQ (r.1, r.2, v.2.1, v.2.2.1, v.2.2.2.1, ()))
def gQ (v : fQ) {Z : Type} (κ : Bool × (Ty.T af) -> Option Z) : Option Z := cond (v.2.2.2.1.1 != (3 : Int)) (cond (v.2.2.2.1.1 != (4 : Int)) (cond (cE 5 v.1) (κ ((an 5 v.1).1, (an 5 v.1).2)) (none)) (κ (false, v.1))) (κ (false, v.1))
def wJ (v : fQ) : Bool × (Ty.T af) := (gQ v some).getD (false, (Ty.zero af))
def vC (v : fQ) : Bool := (gQ v some).isSome
def FM (v : fQ) : aP (Ex × St) := .br (vC v) (.done (vQ v (wJ v))) .no
theorem PR : aK Tryz.prog (aw (pb 6 15) (ae Tryz.f266)) gF cQ FM := aA (lt := .none) (sx := nP) (gx := cQ) yr.ok aj (ag.no _) fun v => Eq.trans (b := gQ v (sm (vQ v))) (by kernel_rfl) (al (show gQ v (sm (vQ v)) = (gQ v some).bind _ from (bC (bC (bC rfl rfl) rfl) rfl)))
@[reducible] def Aq : List SP := U4 (.one (.ptr 4 0) :: .one (.ptr 5 0) :: U32 (U16 (U4 (.und :: []))))
@[reducible] def Ac : List (Nat × GP) := [(4, .box 103 [.dat bS false]), (5, .box 103 [.dat bS false]), (4294967296, .box 222 [.dat af true])]
def ya (v : cY) (r : (Ty.T bS) × (Ty.T af)) : Ex × St := (.normal, ax Aq Ac (v.2.2.2.1, r.1, r.2, ()))
def gP (v : cY) {Z : Type} (κ : (Ty.T bS) × (Ty.T af) -> Option Z) : Option Z := cond v.1 (cond (iE v.2.2.1 v.2.1) (κ ((v.2.2.2.2.1.1, v.2.2.2.2.1.2.1, v.2.2.2.2.1.2.2.1, v.2.2.2.2.1.2.2.2.1, (bN v.2.2.1 v.2.1).1, v.2.2.2.2.1.2.2.2.2.2), (bN v.2.2.1 v.2.1).2)) (none)) (κ (v.2.2.2.2.1, v.2.1))
def xm (v : cY) : (Ty.T bS) × (Ty.T af) := (gP v some).getD ((Ty.zero bS), (Ty.zero af))
def xP (v : cY) : Bool := (gP v some).isSome
def FE (v : cY) : aP (Ex × St) := .br (xP v) (.done (ya v (xm v))) .no
theorem LB : aK Tryz.prog (aw (pb 6 47) (ae Tryz.f266)) nP cQ FE := aA (lt := .none) (sx := Aq) (gx := Ac) yr.ok aj (ag.no _) fun v => Eq.trans (b := gP v (sm (ya v))) (by kernel_rfl) (al (show gP v (sm (ya v)) = (gP v some).bind _ from (bC (bC rfl rfl) rfl)))
def QZ := yr.l (g := 266) (t := (aD (pb 6 47) (ae Tryz.f266) (aD (pb 6 15) (ae Tryz.f266) (aD (pb 6 55) (ae Tryz.f266) (aD (pb 4 11) (ae Tryz.f266) .none (.sum yO cQ DA)) (.sum y6 cQ EF)) (.sum gF cQ FM)) (.sum nP cQ FE))) (aZ Tryz.func266 (ag.bP (az (by kernel_rfl)) (ag.bP (az (by kernel_rfl)) (ag.bP (az (by kernel_rfl)) (ag.bP (az (by kernel_rfl)) (ag.no _) N5) N1) PR) LB))
def e5 (a1 : Ty.T af) := (ah [0, 0, 1, 2] (ah [1, 1, 1, 1, 2, 2, 3, 4, 5, 6] a1).2)
def ek (a0 : Ty.T y36) (a1 : Ty.T af) := (vt ((an 4 (e5 a1).2).1, (an 4 (e5 a1).2).2, a0, (0, 0, 0, 0, 0, 0, 0), ((ah [1, 1, 1, 1, 2, 2, 3, 4, 5, 6] a1).1, (e5 a1).1, 0, 0, 0, 0, 0), ()))
def fK (a0 : Ty.T y36) (a1 : Ty.T af) := (xI ((ek a0 a1).2.1, ((ek a0 a1).2.1 == (1 : Int)), (ek a0 a1).1, a0, (0, 0, 0, 0, 0, 0, 0), (ek a0 a1).2, ()))
def kg (a0 : Ty.T y36) (a1 : Ty.T af) := (wJ ((fK a0 a1).1, a0, (0, 0, 0, 0, 0, 0, 0), (fK a0 a1).2, ()))
def p8 (a0 : Ty.T y36) (a1 : Ty.T af) := (xm ((kg a0 a1).1, (kg a0 a1).2, a0, (0, 0, 0, 0, 0, 0, 0), (fK a0 a1).2, ()))
def mQ (a0 : Ty.T y36) (a1 : Ty.T af) {Z : Type} (κ : (Ty.T bS) × (Ty.T af) -> Option Z) : Option Z := cond (bm [1, 1, 1, 1, 2, 2, 3, 4, 5, 6] a1) (cond (bm [0, 0, 1, 2] (ah [1, 1, 1, 1, 2, 2, 3, 4, 5, 6] a1).2) (cond (cE 4 (e5 a1).2) (cond (xH ((an 4 (e5 a1).2).1, (an 4 (e5 a1).2).2, a0, (0, 0, 0, 0, 0, 0, 0), ((ah [1, 1, 1, 1, 2, 2, 3, 4, 5, 6] a1).1, (e5 a1).1, 0, 0, 0, 0, 0), ())) (cond (vM ((ek a0 a1).2.1, ((ek a0 a1).2.1 == (1 : Int)), (ek a0 a1).1, a0, (0, 0, 0, 0, 0, 0, 0), (ek a0 a1).2, ())) (cond (vC ((fK a0 a1).1, a0, (0, 0, 0, 0, 0, 0, 0), (fK a0 a1).2, ())) (cond (xP ((kg a0 a1).1, (kg a0 a1).2, a0, (0, 0, 0, 0, 0, 0, 0), (fK a0 a1).2, ())) (κ ((p8 a0 a1).1, (p8 a0 a1).2)) (none)) (none)) (none)) (none)) (none)) (none)) (none)
def du (a0 : Ty.T y36) (a1 : Ty.T af) : (Ty.T bS) × (Ty.T af) := (mQ a0 a1 some).getD ((Ty.zero bS), (Ty.zero af))
def GF (a0 : Ty.T y36) (a1 : Ty.T af) : Bool := (mQ a0 a1 some).isSome
def Tm : Gen := ⟨[false, false], [.one (.ptr 4294967296 0), .agg [.dat y36 false]], [(4294967296, .box 222 [.dat af true])], fun v => .br (GF v.1 v.2.1) (.done (Hh (du v.1 v.2.1))) .no⟩
theorem PX : dp Tryz.prog 266 Tm := b9 QZ.ok aj (az (by kernel_rfl)) ⟨Tryz.f266, ae Tryz.f266, by kernel_rfl, by kernel_rfl⟩ fun v => Eq.trans (b := (mQ v.1 v.2.1 (sm Hh))) (by kernel_rfl) (al (show mQ v.1 v.2.1 (sm Hh) = (mQ v.1 v.2.1 some).bind _ from by unfold mQ; simp only [bb]))
def GN (r : (Ty.T aB) × (Ty.T af)) : AV × Sig := (.agg (aB.cells false r.1), [(4294967296, .box 222 ((af.cells true r.2)))])
def T6 := (((E0.g dw).g fF).g dX)
def nj (a0 : Ty.T af) {Z : Type} (κ : (Ty.T aB) × (Ty.T af) -> Option Z) : Option Z := cond (cE 3 a0) (cond (!(an 3 a0).1) (κ ((0, 0), (an 3 a0).2)) (cond (bn 4 (an 3 a0).2) (cond ((IntKind.wrap .i64 ((1 : Int) + (aa 4 (an 3 a0).2).1)) == (1 : Int)) (cond (bm [3, 10, 20, 1] (aa 4 (an 3 a0).2).2) (κ ((IntKind.wrap .i64 ((1 : Int) + (aa 4 (an 3 a0).2).1), (ah [3, 10, 20, 1] (aa 4 (an 3 a0).2).2).1), (ah [3, 10, 20, 1] (aa 4 (an 3 a0).2).2).2)) (none)) (cond ((IntKind.wrap .i64 ((1 : Int) + (aa 4 (an 3 a0).2).1)) == (2 : Int)) (cond ((IntKind.wrap .i64 ((1 : Int) + (aa 4 (an 3 a0).2).1)) == (2 : Int)) (cond (bm [0, 1, 2] (aa 4 (an 3 a0).2).2) (κ ((IntKind.wrap .i64 ((1 : Int) + (aa 4 (an 3 a0).2).1), (ah [0, 1, 2] (aa 4 (an 3 a0).2).2).1), (ah [0, 1, 2] (aa 4 (an 3 a0).2).2).2)) (none)) (κ ((IntKind.wrap .i64 ((1 : Int) + (aa 4 (an 3 a0).2).1), 0), (aa 4 (an 3 a0).2).2))) (cond ((IntKind.wrap .i64 ((1 : Int) + (aa 4 (an 3 a0).2).1)) == (4 : Int)) (cond (bm [0, 1, 2] (aa 4 (an 3 a0).2).2) (κ ((IntKind.wrap .i64 ((1 : Int) + (aa 4 (an 3 a0).2).1), (ah [0, 1, 2] (aa 4 (an 3 a0).2).2).1), (ah [0, 1, 2] (aa 4 (an 3 a0).2).2).2)) (none)) (κ ((IntKind.wrap .i64 ((1 : Int) + (aa 4 (an 3 a0).2).1), 0), (aa 4 (an 3 a0).2).2))))) (none))) (none)
def iu (a0 : Ty.T af) : (Ty.T aB) × (Ty.T af) := (nj a0 some).getD ((Ty.zero aB), (Ty.zero af))
def Hk (a0 : Ty.T af) : Bool := (nj a0 some).isSome
def Td : Gen := ⟨[false], [.one (.ptr 4294967296 0)], [(4294967296, .box 222 [.dat af true])], fun v => .br (Hk v.1) (.done (GN (iu v.1))) .no⟩
theorem Qh : dp Tryz.prog 267 Td := b9 T6.ok aj (az (by kernel_rfl)) ⟨Tryz.f267, ae Tryz.f267, by kernel_rfl, by kernel_rfl⟩ fun v => Eq.trans (b := (nj v.1 (sm GN))) (by kernel_rfl) (al (show nj v.1 (sm GN) = (nj v.1 some).bind _ from by unfold nj; simp only [bb]))
def G7 (r : (Ty.T y27) × (Ty.T af)) : AV × Sig := (.agg (y27.cells false r.1), [(4294967296, .box 222 ((af.cells true r.2)))])
def Sy := ((((E0.g dw).g fF).g dX).g uG)
def aY (a1 : Ty.T af) := (ah [1, 2, 3, 5, 0, 8, 2147483647] (ah [1, 1, 1, 2, 2, 3, 4, 5, 6] a1).2)
def kh (a0 : Ty.T y36) (a1 : Ty.T af) := (ah [0, 0, 1, 2] (ah [3, 3, 1, 2, 4] (bN a0 (aY a1).2).2).2)
def lP (a0 : Ty.T y36) (a1 : Ty.T af) {Z : Type} (κ : (Ty.T y27) × (Ty.T af) -> Option Z) : Option Z := cond (bm [1, 1, 1, 2, 2, 3, 4, 5, 6] a1) (cond (bm [1, 2, 3, 5, 0, 8, 2147483647] (ah [1, 1, 1, 2, 2, 3, 4, 5, 6] a1).2) (cond ((ah [1, 1, 1, 2, 2, 3, 4, 5, 6] a1).1 == (1 : Int)) (cond (iE a0 (aY a1).2) (cond (cE 2 (bN a0 (aY a1).2).2) (cond (an 2 (bN a0 (aY a1).2).2).1 (cond (bn 2 (an 2 (bN a0 (aY a1).2).2).2) (κ (((ah [1, 1, 1, 2, 2, 3, 4, 5, 6] a1).1, (bN a0 (aY a1).2).1, 0, (aa 2 (an 2 (bN a0 (aY a1).2).2).2).1, (aY a1).1, 0, false), (aa 2 (an 2 (bN a0 (aY a1).2).2).2).2)) (none)) (cond (iE a0 (an 2 (bN a0 (aY a1).2).2).2) (κ (((ah [1, 1, 1, 2, 2, 3, 4, 5, 6] a1).1, (bN a0 (aY a1).2).1, (bN a0 (an 2 (bN a0 (aY a1).2).2).2).1, (-1), (aY a1).1, 0, false), (bN a0 (an 2 (bN a0 (aY a1).2).2).2).2)) (none))) (none)) (none)) (cond ((ah [1, 1, 1, 2, 2, 3, 4, 5, 6] a1).1 == (2 : Int)) (cond (iE a0 (aY a1).2) (cond (bm [3, 3, 1, 2, 4] (bN a0 (aY a1).2).2) (cond ((ah [3, 3, 1, 2, 4] (bN a0 (aY a1).2).2).1 == (2 : Int)) (cond (bm [0, 0, 1, 2] (ah [3, 3, 1, 2, 4] (bN a0 (aY a1).2).2).2) (cond (cE 3 (kh a0 a1).2) (κ (((ah [1, 1, 1, 2, 2, 3, 4, 5, 6] a1).1, 0, (bN a0 (aY a1).2).1, (-1), (kh a0 a1).1, (ah [3, 3, 1, 2, 4] (bN a0 (aY a1).2).2).1, (an 3 (kh a0 a1).2).1), (an 3 (kh a0 a1).2).2)) (none)) (none)) (κ (((ah [1, 1, 1, 2, 2, 3, 4, 5, 6] a1).1, 0, (bN a0 (aY a1).2).1, (-1), 0, (ah [3, 3, 1, 2, 4] (bN a0 (aY a1).2).2).1, false), (ah [3, 3, 1, 2, 4] (bN a0 (aY a1).2).2).2))) (none)) (none)) (cond ((ah [1, 1, 1, 2, 2, 3, 4, 5, 6] a1).1 == (3 : Int)) (cond ((ah [1, 1, 1, 2, 2, 3, 4, 5, 6] a1).1 == (3 : Int)) (cond (bn 2 (aY a1).2) (κ (((ah [1, 1, 1, 2, 2, 3, 4, 5, 6] a1).1, 0, 0, (aa 2 (aY a1).2).1, (aY a1).1, 0, false), (aa 2 (aY a1).2).2)) (none)) (cond (iE a0 (aY a1).2) (κ (((ah [1, 1, 1, 2, 2, 3, 4, 5, 6] a1).1, 0, (bN a0 (aY a1).2).1, (-1), (aY a1).1, 0, false), (bN a0 (aY a1).2).2)) (none))) (cond ((ah [1, 1, 1, 2, 2, 3, 4, 5, 6] a1).1 == (4 : Int)) (cond (bn 2 (aY a1).2) (κ (((ah [1, 1, 1, 2, 2, 3, 4, 5, 6] a1).1, 0, 0, (aa 2 (aY a1).2).1, (aY a1).1, 0, false), (aa 2 (aY a1).2).2)) (none)) (cond (iE a0 (aY a1).2) (κ (((ah [1, 1, 1, 2, 2, 3, 4, 5, 6] a1).1, 0, (bN a0 (aY a1).2).1, (-1), (aY a1).1, 0, false), (bN a0 (aY a1).2).2)) (none)))))) (none)) (none)
def ar (a0 : Ty.T y36) (a1 : Ty.T af) : (Ty.T y27) × (Ty.T af) := (lP a0 a1 some).getD ((Ty.zero y27), (Ty.zero af))
def o8 (a0 : Ty.T y36) (a1 : Ty.T af) : Bool := (lP a0 a1 some).isSome
def Tb : Gen := ⟨[false, false], [.one (.ptr 4294967296 0), .agg [.dat y36 false]], [(4294967296, .box 222 [.dat af true])], fun v => .br (o8 v.1 v.2.1) (.done (G7 (ar v.1 v.2.1))) .no⟩
theorem ue : dp Tryz.prog 237 Tb := b9 Sy.ok aj (az (by kernel_rfl)) ⟨Tryz.f237, ae Tryz.f237, by kernel_rfl, by kernel_rfl⟩ fun v => Eq.trans (b := (lP v.1 v.2.1 (sm G7))) (by kernel_rfl) (al (show lP v.1 v.2.1 (sm G7) = (lP v.1 v.2.1 some).bind _ from by unfold lP; simp only [bb]))
def Hq (r : (Ty.T q1) × (Ty.T af) × (List (Ty.T y27))) : AV × Sig := (.agg ((q1.cells false r.1) ++ [.sl 33579008]), [(4294967296, .box 222 ((af.cells true r.2.1))), (33579008, .arr 41 y27 r.2.2 false)])
def nb := ((((((E0.g dw).g fF).g dX).g ue).g uG).p PU)
@[reducible] def jQ : List SP := .one (.ptr 4294967296 0) :: .und :: oI :: .und :: .one (.ptr 4 0) :: .und :: .one (.ptr 6 0) :: .one (.ptr 7 0) :: oI :: U64 (U16 (U4 (.und :: [])))
@[reducible] def cy : List (Nat × GP) := [(4294967296, .box 222 [.dat af true]), (4, .box 37 [.dat y36 false]), (6, .box 107 [.dat bo false]), (7, .box 107 [.dat q1 false, .own 52191232]), (52191232, .arr 41 y27 false)]
@[reducible] def dT : Type := Int × Int × (Ty.T af) × (Ty.T y36) × (Ty.T bo) × (Ty.T q1) × (List (Ty.T y27)) × Unit
@[reducible] def zo : List SP := .one (.ptr 4294967296 0) :: .und :: oI :: .und :: .one (.ptr 4 0) :: .und :: .one (.ptr 6 0) :: .one (.ptr 7 0) :: oI :: U4 (U2 (oI :: .one (.dat .bool true) :: .one (.dat .bool true) :: U4 (.one (.dat .bool true) :: U64 (U4 (U2 (.und :: []))))))
def ql (v : dT) (r : Bool × Bool) : Ex × St := (.normal, ax zo cy (v.1, v.2.1, v.2.1, decide (v.2.1 < (6 : Int)), r.1, r.2, v.2.2.1, v.2.2.2.1, v.2.2.2.2.1, v.2.2.2.2.2.1, v.2.2.2.2.2.2.1, ()))
def mv (v : dT) {Z : Type} (κ : Bool × Bool -> Z) : Z := cond (decide (v.2.1 < (6 : Int))) (κ (true, !(lF (v.2.2.2.2.2.1.1, v.2.2.2.2.2.1.2.1, v.2.2.2.2.2.1.2.2.1, v.2.2.2.2.2.1.2.2.2.1, v.2.2.2.2.2.1.2.2.2.2.1, v.2.2.2.2.2.1.2.2.2.2.2, v.2.2.2.2.2.2.1) v.1))) (κ (false, false))
def yf (v : dT) : Bool × Bool := mv v id
def FB (v : dT) : aP (Ex × St) := .done (ql v (yf v))
theorem Lz : aK Tryz.prog (aw [false, false] (aO (pb 4 11) (ae Tryz.f268))) jQ cy FB := aA (lt := .none) (sx := zo) (gx := cy) nb.ok aj (ag.no _) fun v => Eq.trans (b := mv v (sm (ql v))) (by kernel_rfl) (show mv v (sm (ql v)) = some (ql v (mv v id)) from (tC rfl rfl))
def lO (v : dT) {Z : Type} (κ : Nat × dT -> Option Z) : Option Z := cond (yf (v.1, v.2.1, v.2.2.1, v.2.2.2.1, v.2.2.2.2.1, v.2.2.2.2.2.1, v.2.2.2.2.2.2.1, ())).2 (cond (bn 9 v.2.2.1) (κ (0, (v.1, IntKind.wrap .i64 (v.2.1 + (1 : Int)), (aa 9 v.2.2.1).2, v.2.2.2.1, v.2.2.2.2.1, (IntKind.wrap .i64 ((1 : Int) + (aa 9 v.2.2.1).1), v.2.2.2.2.2.1.2), v.2.2.2.2.2.2.1, ()))) (none)) (κ (1, (v.1, v.2.1, v.2.2.1, v.2.2.2.1, v.2.2.2.2.1, v.2.2.2.2.2.1, v.2.2.2.2.2.2.1, ())))
def lY (v : dT) : Option (Nat × dT) := lO v some
def ng (v : dT) : Nat := v.1.toNat + v.2.1.toNat + v.2.2.1.1.length + v.2.2.2.1.1.length + v.2.2.2.1.2.1.length + v.2.2.2.2.1.2.2.2.2.2.2.length + v.2.2.2.2.2.1.1.toNat + v.2.2.2.2.2.1.2.1.toNat + v.2.2.2.2.2.1.2.2.1.toNat + v.2.2.2.2.2.1.2.2.2.1.toNat + v.2.2.2.2.2.1.2.2.2.2.1.toNat + v.2.2.2.2.2.2.1.length + 100
def vq (h0 : Int) (h1 : Int) (h2 : Ty.T af) (h3 : Ty.T y36) (h4 : Ty.T bo) (h5 : Ty.T q1) (h6 : List (Ty.T y27)) (c : Nat) : Bool := iK lY ng (h0, h1, h2, h3, h4, h5, h6, ()) c
def mm (h0 : Int) (h1 : Int) (h2 : Ty.T af) (h3 : Ty.T y36) (h4 : Ty.T bo) (h5 : Ty.T q1) (h6 : List (Ty.T y27)) : dT := iW lY ng (h0, h1, h2, h3, h4, h5, h6, ())
def Ev (v : dT) : aP (Ex × St) := bz lY (ng v) v (ax jQ cy) [.exit 0] 0
theorem Pl : bw Tryz.prog (aO (pb 4 11) (ae Tryz.f268)) jQ cy Ev := aE (lt := (aD [false, false] (aO (pb 4 11) (ae Tryz.f268)) .none (.sum jQ cy FB))) nb.ok aj (ag.bP (az (by kernel_rfl)) (ag.no _) Lz) fun n v K => Eq.trans (b := lO v (dt _ _ _ _ _ K)) (by kernel_rfl) (show lO v _ = (lO v some).bind _ from (bC (bC rfl rfl) rfl))
@[reducible] def At : List SP := .one (.ptr 4294967296 0) :: U2 (.und :: .one (.ptr 4 0) :: .und :: .one (.ptr 6 0) :: .one (.ptr 7 0) :: U16 (U8 (.one (.dat .bool true) :: U32 (U16 (U8 (U4 (.und :: [])))))))
@[reducible] def dG : Type := Bool × (Ty.T af) × (Ty.T y36) × (Ty.T bo) × (Ty.T q1) × (List (Ty.T y27)) × Unit
@[reducible] def zf : List SP := .one (.ptr 4294967296 0) :: U2 (.und :: .one (.ptr 4 0) :: .und :: .one (.ptr 6 0) :: .one (.ptr 7 0) :: U64 (U16 (U4 (U2 ([])))))
def qb (v : dG) (r : (Ty.T q1)) : Ex × St := (.normal, ax zf cy (v.2.1, v.2.2.1, v.2.2.2.1, r, v.2.2.2.2.2.1, ()))
def pW (v : dG) {Z : Type} (κ : (Ty.T q1) -> Z) : Z := cond v.1 (κ (1, v.2.2.2.2.1.2)) (κ v.2.2.2.2.1)
def EJ (v : dG) : (Ty.T q1) := pW v id
def Fb (v : dG) : aP (Ex × St) := .done (qb v (EJ v))
theorem MH : aK Tryz.prog (aw (pb 5 23) (ae Tryz.f268)) At cy Fb := aA (lt := .none) (sx := zf) (gx := cy) nb.ok aj (ag.no _) fun v => Eq.trans (b := pW v (sm (qb v))) (by kernel_rfl) (show pW v (sm (qb v)) = some (qb v (pW v id)) from (tC rfl rfl))
@[reducible] def zi : List SP := .one (.ptr 4294967296 0) :: U2 (.und :: .one (.ptr 4 0) :: .und :: .one (.ptr 6 0) :: .one (.ptr 7 0) :: U32 (U4 (.und :: .one (.dat .bool true) :: U32 (U16 ([])))))
@[reducible] def Ap : List SP := U4 (U2 (.one (.ptr 6 0) :: .one (.ptr 7 0) :: U64 (U16 (U4 (U2 ([]))))))
@[reducible] def zC : List (Nat × GP) := [(6, .box 107 [.dat bo false]), (7, .box 107 [.dat q1 false, .own 52191232]), (4294967296, .box 222 [.dat af true]), (52191232, .arr 41 y27 false)]
def xD (v : dG) (r : (Ty.T q1) × (Ty.T af)) : Ex × St := (.normal, ax Ap zC (v.2.2.2.1, r.1, r.2, v.2.2.2.2.2.1, ()))
def iH (v : dG) {Z : Type} (κ : (Ty.T q1) × (Ty.T af) -> Option Z) : Option Z := cond v.1 (cond (bn 2 v.2.1) (κ ((v.2.2.2.2.1.1, v.2.2.2.2.1.2.1, v.2.2.2.2.1.2.2.1, (aa 2 v.2.1).1, v.2.2.2.2.1.2.2.2.2), (aa 2 v.2.1).2)) (none)) (cond (iE v.2.2.1 v.2.1) (κ ((v.2.2.2.2.1.1, v.2.2.2.2.1.2.1, (bN v.2.2.1 v.2.1).1, v.2.2.2.2.1.2.2.2), (bN v.2.2.1 v.2.1).2)) (none))
def xM (v : dG) : (Ty.T q1) × (Ty.T af) := (iH v some).getD ((Ty.zero q1), (Ty.zero af))
def vm (v : dG) : Bool := (iH v some).isSome
def FQ (v : dG) : aP (Ex × St) := .br (vm v) (.done (xD v (xM v))) .no
theorem PQ : aK Tryz.prog (aw (pb 11 1519) (ae Tryz.f268)) zi cy FQ := aA (lt := .none) (sx := Ap) (gx := zC) nb.ok aj (ag.no _) fun v => Eq.trans (b := iH v (sm (xD v))) (by kernel_rfl) (al (show iH v (sm (xD v)) = (iH v some).bind _ from (bC (bC rfl rfl) (bC rfl rfl))))
@[reducible] def zE : List SP := .one (.ptr 4294967296 0) :: U2 (.und :: .one (.ptr 4 0) :: .und :: .one (.ptr 6 0) :: .one (.ptr 7 0) :: .und :: oI :: .one (.ptr 10 0) :: U32 (U16 (U8 (U4 (.und :: oI :: .one (.dat .bool true) :: U2 (.one (.ptr 4294967296 0) :: .agg [.dat y36 false] :: .agg [.dat y27 false] :: U8 (U4 (U2 (.und :: [])))))))))
@[reducible] def eE : List (Nat × GP) := [(4294967296, .box 222 [.dat af true]), (4, .box 37 [.dat y36 false]), (6, .box 107 [.dat bo false]), (7, .box 107 [.dat q1 false, .own 52191232]), (10, .box 41 [.dat y27 false]), (52191232, .arr 41 y27 false)]
@[reducible] def fN : Type := Int × Int × Bool × (Ty.T y36) × (Ty.T y27) × (Ty.T af) × (Ty.T y36) × (Ty.T bo) × (Ty.T q1) × (Ty.T y27) × (List (Ty.T y27)) × Unit
@[reducible] def gH : List SP := .one (.ptr 4294967296 0) :: U2 (.und :: .one (.ptr 4 0) :: .und :: .one (.ptr 6 0) :: .one (.ptr 7 0) :: .und :: oI :: .one (.ptr 10 0) :: U32 (U16 (U8 (U4 (.und :: oI :: .one (.dat .bool true) :: U2 (.one (.ptr 4294967296 0) :: .agg [.dat y36 false] :: .agg [.dat y27 false] :: .one (.ptr 10 0) :: oI :: .one (.dat .bool true) :: .one (.dat .bool true) :: U2 (.one (.dat .bool true) :: U8 ([]))))))))
def vA (v : fN) (r : Bool × Bool × (Ty.T af)) : Ex × St := (.normal, ax gH eE (v.1, v.2.1, v.2.2.1, v.2.2.2.1, v.2.2.2.2.1, v.2.2.2.2.2.2.2.2.2.1.1, (v.2.2.2.2.2.2.2.2.2.1.1 != (2 : Int)), r.1, r.2.1, r.2.2, v.2.2.2.2.2.2.1, v.2.2.2.2.2.2.2.1, v.2.2.2.2.2.2.2.2.1, v.2.2.2.2.2.2.2.2.2.1, v.2.2.2.2.2.2.2.2.2.2.1, ()))
def gW (v : fN) {Z : Type} (κ : Bool × Bool × (Ty.T af) -> Option Z) : Option Z := cond (v.2.2.2.2.2.2.2.2.2.1.1 != (2 : Int)) (cond (cE 2 v.2.2.2.2.2.1) (κ (true, (an 2 v.2.2.2.2.2.1).1, (an 2 v.2.2.2.2.2.1).2)) (none)) (κ (false, false, v.2.2.2.2.2.1))
def eO (v : fN) : Bool × Bool × (Ty.T af) := (gW v some).getD (false, false, (Ty.zero af))
def wx (v : fN) : Bool := (gW v some).isSome
def Ec (v : fN) : aP (Ex × St) := .br (wx v) (.done (vA v (eO v))) .no
theorem Nd : aK Tryz.prog (aw [true, false, true, false, false] (aO (pb 17 98287) (ae Tryz.f268))) zE eE Ec := aA (lt := .none) (sx := gH) (gx := eE) nb.ok aj (ag.no _) fun v => Eq.trans (b := gW v (sm (vA v))) (by kernel_rfl) (al (show gW v (sm (vA v)) = (gW v some).bind _ from (bC (bC rfl rfl) rfl)))
@[reducible] def qj : Type := Int × Int × Bool × (Ty.T y36) × (Ty.T y27) × Int × Bool × Bool × Bool × (Ty.T af) × (Ty.T y36) × (Ty.T bo) × (Ty.T q1) × (Ty.T y27) × (List (Ty.T y27)) × Unit
def qz (v : qj) (r : (Ty.T y27)) : Ex × St := (.normal, ax gH eE (v.1, v.2.1, v.2.2.1, v.2.2.2.1, v.2.2.2.2.1, v.2.2.2.2.2.1, v.2.2.2.2.2.2.1, v.2.2.2.2.2.2.2.1, v.2.2.2.2.2.2.2.2.1, v.2.2.2.2.2.2.2.2.2.1, v.2.2.2.2.2.2.2.2.2.2.1, v.2.2.2.2.2.2.2.2.2.2.2.1, v.2.2.2.2.2.2.2.2.2.2.2.2.1, r, v.2.2.2.2.2.2.2.2.2.2.2.2.2.2.1, ()))
def p9 (v : qj) {Z : Type} (κ : (Ty.T y27) -> Z) : Z := cond v.2.2.2.2.2.2.2.2.1 (κ (v.2.2.2.2.2.2.2.2.2.2.2.2.2.1.1, v.2.2.2.2.2.2.2.2.2.2.2.2.2.1.2.1, v.2.2.2.2.2.2.2.2.2.2.2.2.2.1.2.2.1, v.2.2.2.2.2.2.2.2.2.2.2.2.2.1.2.2.2.1, (-1), v.2.2.2.2.2.2.2.2.2.2.2.2.2.1.2.2.2.2.2)) (κ v.2.2.2.2.2.2.2.2.2.2.2.2.2.1)
def xS (v : qj) : (Ty.T y27) := p9 v id
def Ep (v : qj) : aP (Ex × St) := .done (qz v (xS v))
theorem Og : aK Tryz.prog (aw [true, false, true, false, true] (aO (pb 17 98287) (ae Tryz.f268))) gH eE Ep := aA (lt := .none) (sx := gH) (gx := eE) nb.ok aj (ag.no _) fun v => Eq.trans (b := p9 v (sm (qz v))) (by kernel_rfl) (show p9 v (sm (qz v)) = some (qz v (p9 v id)) from (tC rfl rfl))
@[reducible] def sA : List SP := .one (.ptr 4294967296 0) :: U2 (.und :: .one (.ptr 4 0) :: .und :: .one (.ptr 6 0) :: .one (.ptr 7 0) :: .und :: oI :: U64 (U16 (U4 ([]))))
@[reducible] def gL : Type := Int × (Ty.T af) × (Ty.T y36) × (Ty.T bo) × (Ty.T q1) × (List (Ty.T y27)) × Unit
def mR (v : gL) {Z : Type} (κ : Nat × gL -> Option Z) : Option Z := cond (decide (v.1 > (0 : Int))) (cond (o8 v.2.2.1 v.2.1) (cond (wx (v.1, v.1, decide (v.1 > (0 : Int)), v.2.2.1, (ar v.2.2.1 v.2.1).1, (ar v.2.2.1 v.2.1).2, v.2.2.1, v.2.2.2.1, v.2.2.2.2.1, (ar v.2.2.1 v.2.1).1, v.2.2.2.2.2.1, ())) (if (v.2.2.2.2.2.1 ++ [(xS (v.1, v.1, (decide (v.1 > (0 : Int))), v.2.2.1, (ar v.2.2.1 v.2.1).1, (ar v.2.2.1 v.2.1).1.1, ((ar v.2.2.1 v.2.1).1.1 != (2 : Int)), (eO (v.1, v.1, decide (v.1 > (0 : Int)), v.2.2.1, (ar v.2.2.1 v.2.1).1, (ar v.2.2.1 v.2.1).2, v.2.2.1, v.2.2.2.1, v.2.2.2.2.1, (ar v.2.2.1 v.2.1).1, v.2.2.2.2.2.1, ())).1, (eO (v.1, v.1, decide (v.1 > (0 : Int)), v.2.2.1, (ar v.2.2.1 v.2.1).1, (ar v.2.2.1 v.2.1).2, v.2.2.1, v.2.2.2.1, v.2.2.2.2.1, (ar v.2.2.1 v.2.1).1, v.2.2.2.2.2.1, ())).2.1, (eO (v.1, v.1, decide (v.1 > (0 : Int)), v.2.2.1, (ar v.2.2.1 v.2.1).1, (ar v.2.2.1 v.2.1).2, v.2.2.1, v.2.2.2.1, v.2.2.2.2.1, (ar v.2.2.1 v.2.1).1, v.2.2.2.2.2.1, ())).2.2, v.2.2.1, v.2.2.2.1, v.2.2.2.2.1, (ar v.2.2.1 v.2.1).1, v.2.2.2.2.2.1, ()))] : List (Ty.T y27)).length * 56 <= 140737488351232 then (κ (0, (IntKind.wrap .i64 (v.1 - (1 : Int)), (eO (v.1, v.1, decide (v.1 > (0 : Int)), v.2.2.1, (ar v.2.2.1 v.2.1).1, (ar v.2.2.1 v.2.1).2, v.2.2.1, v.2.2.2.1, v.2.2.2.2.1, (ar v.2.2.1 v.2.1).1, v.2.2.2.2.2.1, ())).2.2, v.2.2.1, v.2.2.2.1, v.2.2.2.2.1, v.2.2.2.2.2.1 ++ [(xS (v.1, v.1, (decide (v.1 > (0 : Int))), v.2.2.1, (ar v.2.2.1 v.2.1).1, (ar v.2.2.1 v.2.1).1.1, ((ar v.2.2.1 v.2.1).1.1 != (2 : Int)), (eO (v.1, v.1, decide (v.1 > (0 : Int)), v.2.2.1, (ar v.2.2.1 v.2.1).1, (ar v.2.2.1 v.2.1).2, v.2.2.1, v.2.2.2.1, v.2.2.2.2.1, (ar v.2.2.1 v.2.1).1, v.2.2.2.2.2.1, ())).1, (eO (v.1, v.1, decide (v.1 > (0 : Int)), v.2.2.1, (ar v.2.2.1 v.2.1).1, (ar v.2.2.1 v.2.1).2, v.2.2.1, v.2.2.2.1, v.2.2.2.2.1, (ar v.2.2.1 v.2.1).1, v.2.2.2.2.2.1, ())).2.1, (eO (v.1, v.1, decide (v.1 > (0 : Int)), v.2.2.1, (ar v.2.2.1 v.2.1).1, (ar v.2.2.1 v.2.1).2, v.2.2.1, v.2.2.2.1, v.2.2.2.2.1, (ar v.2.2.1 v.2.1).1, v.2.2.2.2.2.1, ())).2.2, v.2.2.1, v.2.2.2.1, v.2.2.2.2.1, (ar v.2.2.1 v.2.1).1, v.2.2.2.2.2.1, ()))], ()))) else none) (none)) (none)) (κ (1, (v.1, v.2.1, v.2.2.1, v.2.2.2.1, v.2.2.2.2.1, v.2.2.2.2.2.1, ())))
def mZ (v : gL) : Option (Nat × gL) := mR v some
def me (v : gL) : Nat := v.1.toNat + v.2.1.1.length + v.2.2.1.1.length + v.2.2.1.2.1.length + v.2.2.2.1.2.2.2.2.2.2.length + v.2.2.2.2.1.1.toNat + v.2.2.2.2.1.2.1.toNat + v.2.2.2.2.1.2.2.1.toNat + v.2.2.2.2.1.2.2.2.1.toNat + v.2.2.2.2.1.2.2.2.2.1.toNat + v.2.2.2.2.2.1.length + 100
def vO (h0 : Int) (h1 : Ty.T af) (h2 : Ty.T y36) (h3 : Ty.T bo) (h4 : Ty.T q1) (h5 : List (Ty.T y27)) (c : Nat) : Bool := iK mZ me (h0, h1, h2, h3, h4, h5, ()) c
def mH (h0 : Int) (h1 : Ty.T af) (h2 : Ty.T y36) (h3 : Ty.T bo) (h4 : Ty.T q1) (h5 : List (Ty.T y27)) : gL := iW mZ me (h0, h1, h2, h3, h4, h5, ())
def Dt (v : gL) : aP (Ex × St) := bz mZ (me v) v (ax sA cy) [.exit 3] 0
theorem Mj : bw Tryz.prog (aO (pb 17 98287) (ae Tryz.f268)) sA cy Dt := aE (lt := (aD [true, false, true, false, true] (aO (pb 17 98287) (ae Tryz.f268)) (aD [true, false, true, false, false] (aO (pb 17 98287) (ae Tryz.f268)) .none (.sum zE eE Ec)) (.sum gH eE Ep))) nb.ok aj (ag.bP (az (by kernel_rfl)) (ag.bP (az (by kernel_rfl)) (ag.no _) Nd) Og) fun n v K => Eq.trans (b := mR v (dt _ _ _ _ _ K)) (by kernel_rfl) (show mR v _ = (mR v some).bind _ from (bC (bC (bC (bI rfl) rfl) rfl) rfl))
def QS := nb.l (g := 268) (t := (aD (pb 17 98287) (ae Tryz.f268) (aD (pb 11 1519) (ae Tryz.f268) (aD (pb 5 23) (ae Tryz.f268) (aD (pb 4 11) (ae Tryz.f268) .none (.sum jQ cy Ev)) (.sum At cy Fb)) (.sum zi cy FQ)) (.sum sA cy Dt))) (aZ Tryz.func268 (ag.wL (by kernel_rfl) (az (by kernel_rfl)) (ag.bP (az (by kernel_rfl)) (ag.bP (az (by kernel_rfl)) (ag.wL (by kernel_rfl) (az (by kernel_rfl)) (ag.no _) Pl) MH) PQ) Mj))
def aH (a0 : Ty.T y36) (a1 : Int) (a2 : Ty.T af) := (mm a1 0 (ah [1, 2, 2, 3, 3, 4, 5, 6, 6, 7, 8, 8, 9, 9] a2).2 a0 (0, 0, 0, 0, 0, false, []) ((ah [1, 2, 2, 3, 3, 4, 5, 6, 6, 7, 8, 8, 9, 9] a2).1, 0, 0, (-1), 0, false) [])
def OQ (a0 : Ty.T y36) (a1 : Int) (a2 : Ty.T af) := (lF ((aH a0 a1 a2).2.2.2.2.2.1.1, (aH a0 a1 a2).2.2.2.2.2.1.2.1, (aH a0 a1 a2).2.2.2.2.2.1.2.2.1, (aH a0 a1 a2).2.2.2.2.2.1.2.2.2.1, (aH a0 a1 a2).2.2.2.2.2.1.2.2.2.2.1, (aH a0 a1 a2).2.2.2.2.2.1.2.2.2.2.2, (aH a0 a1 a2).2.2.2.2.2.2.1) (aH a0 a1 a2).1)
def cq (a0 : Ty.T y36) (a1 : Int) (a2 : Ty.T af) := (EJ (!(OQ a0 a1 a2), (aH a0 a1 a2).2.2.1, (aH a0 a1 a2).2.2.2.1, (aH a0 a1 a2).2.2.2.2.1, (aH a0 a1 a2).2.2.2.2.2.1, (aH a0 a1 a2).2.2.2.2.2.2.1, ()))
def p4 (a0 : Ty.T y36) (a1 : Int) (a2 : Ty.T af) := (xM ((an 2 (aH a0 a1 a2).2.2.1).1, (an 2 (aH a0 a1 a2).2.2.1).2, (aH a0 a1 a2).2.2.2.1, (aH a0 a1 a2).2.2.2.2.1, (cq a0 a1 a2), (aH a0 a1 a2).2.2.2.2.2.2.1, ()))
def iA (a0 : Ty.T y36) (a1 : Int) (a2 : Ty.T af) := (mH (IntKind.wrap .i64 ((1 : Int) + (aa 2 (aH a0 a1 a2).2.2.1).1)) (aa 2 (aH a0 a1 a2).2.2.1).2 (aH a0 a1 a2).2.2.2.1 (aH a0 a1 a2).2.2.2.2.1 (cq a0 a1 a2) (aH a0 a1 a2).2.2.2.2.2.2.1)
def mC (a0 : Ty.T y36) (a1 : Int) (a2 : Ty.T af) {Z : Type} (κ : (Ty.T q1) × (Ty.T af) × (List (Ty.T y27)) -> Option Z) : Option Z := cond (bm [1, 2, 2, 3, 3, 4, 5, 6, 6, 7, 8, 8, 9, 9] a2) (cond (vq a1 0 (ah [1, 2, 2, 3, 3, 4, 5, 6, 6, 7, 8, 8, 9, 9] a2).2 a0 (0, 0, 0, 0, 0, false, []) ((ah [1, 2, 2, 3, 3, 4, 5, 6, 6, 7, 8, 8, 9, 9] a2).1, 0, 0, (-1), 0, false) [] 0) (cond ((cq a0 a1 a2).1 == (3 : Int)) (cond (bm [1, 2, 5, 2147483647] (aH a0 a1 a2).2.2.1) (κ (((cq a0 a1 a2).1, (ah [1, 2, 5, 2147483647] (aH a0 a1 a2).2.2.1).1, (cq a0 a1 a2).2.2), (ah [1, 2, 5, 2147483647] (aH a0 a1 a2).2.2.1).2, (aH a0 a1 a2).2.2.2.2.2.2.1)) (none)) (cond ((cq a0 a1 a2).1 == (6 : Int)) (cond (cE 2 (aH a0 a1 a2).2.2.1) (cond (vm ((an 2 (aH a0 a1 a2).2.2.1).1, (an 2 (aH a0 a1 a2).2.2.1).2, (aH a0 a1 a2).2.2.2.1, (aH a0 a1 a2).2.2.2.2.1, (cq a0 a1 a2), (aH a0 a1 a2).2.2.2.2.2.2.1, ())) (κ ((p4 a0 a1 a2).1, (p4 a0 a1 a2).2, (aH a0 a1 a2).2.2.2.2.2.2.1)) (none)) (none)) (cond ((cq a0 a1 a2).1 == (7 : Int)) (cond (bm [1, 4, 3, 2] (aH a0 a1 a2).2.2.1) (κ (((cq a0 a1 a2).1, (cq a0 a1 a2).2.1, (cq a0 a1 a2).2.2.1, (cq a0 a1 a2).2.2.2.1, (ah [1, 4, 3, 2] (aH a0 a1 a2).2.2.1).1, (cq a0 a1 a2).2.2.2.2.2), (ah [1, 4, 3, 2] (aH a0 a1 a2).2.2.1).2, (aH a0 a1 a2).2.2.2.2.2.2.1)) (none)) (cond ((cq a0 a1 a2).1 == (8 : Int)) (cond (bn 3 (aH a0 a1 a2).2.2.1) (cond (cE 3 (aa 3 (aH a0 a1 a2).2.2.1).2) (κ (((cq a0 a1 a2).1, (aa 3 (aH a0 a1 a2).2.2.1).1, (cq a0 a1 a2).2.2.1, (cq a0 a1 a2).2.2.2.1, (cq a0 a1 a2).2.2.2.2.1, (an 3 (aa 3 (aH a0 a1 a2).2.2.1).2).1), (an 3 (aa 3 (aH a0 a1 a2).2.2.1).2).2, (aH a0 a1 a2).2.2.2.2.2.2.1)) (none)) (none)) (cond ((cq a0 a1 a2).1 == (9 : Int)) (cond (bn 2 (aH a0 a1 a2).2.2.1) (cond (vO (IntKind.wrap .i64 ((1 : Int) + (aa 2 (aH a0 a1 a2).2.2.1).1)) (aa 2 (aH a0 a1 a2).2.2.1).2 (aH a0 a1 a2).2.2.2.1 (aH a0 a1 a2).2.2.2.2.1 (cq a0 a1 a2) (aH a0 a1 a2).2.2.2.2.2.2.1 0) (κ ((iA a0 a1 a2).2.2.2.2.1, (iA a0 a1 a2).2.1, (iA a0 a1 a2).2.2.2.2.2.1)) (none)) (none)) (κ ((cq a0 a1 a2), (aH a0 a1 a2).2.2.1, (aH a0 a1 a2).2.2.2.2.2.2.1))))))) (none)) (none)
def yj (a0 : Ty.T y36) (a1 : Int) (a2 : Ty.T af) : (Ty.T q1) × (Ty.T af) × (List (Ty.T y27)) := (mC a0 a1 a2 some).getD ((Ty.zero q1), (Ty.zero af), [])
def Hb (a0 : Ty.T y36) (a1 : Int) (a2 : Ty.T af) : Bool := (mC a0 a1 a2 some).isSome
def Sq : Gen := ⟨[false, false, false], [.one (.ptr 4294967296 0), .agg [.dat y36 false], oI], [(4294967296, .box 222 [.dat af true])], fun v => .br (Hb v.1 v.2.1 v.2.2.1) (.done (Hq (yj v.1 v.2.1 v.2.2.1))) .no⟩
theorem Q9 : dp Tryz.prog 268 Sq := b9 QS.ok aj (az (by kernel_rfl)) ⟨Tryz.f268, ae Tryz.f268, by kernel_rfl, by kernel_rfl⟩ fun v => Eq.trans (b := (mC v.1 v.2.1 v.2.2.1 (sm Hq))) (by kernel_rfl) (al (show mC v.1 v.2.1 v.2.2.1 (sm Hq) = (mC v.1 v.2.1 v.2.2.1 some).bind _ from by unfold mC; simp only [bb]))
end
end Go.Proofs.YtahlaccdpmddbaaGreat.Vm
