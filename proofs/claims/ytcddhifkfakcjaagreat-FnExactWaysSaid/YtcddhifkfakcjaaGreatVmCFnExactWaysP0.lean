/- Contracts. No condition. -/
import Derived.Test.YtcddhifkfakcjaaGreatVmT
import Derived.Test.YtcddhifkfakcjaaGreatVmLibFour
namespace Go.Proofs.YtcddhifkfakcjaaGreat.Vm
open Go Go.Proofs.YtcddhifkfakcjaaGreat.Lib
noncomputable section
set_option maxRecDepth 100000
set_option linter.unusedVariables false
@[reducible] def q0 : Ty := (.pair (.int .i64) (.pair (.int .i64) (.pair (.int .i64) aD)))
@[reducible] def q2 : Ty := (.pair (.int .i64) (.pair (.int .i64) (.pair (.int .i64) (.pair (.int .i64) y48))))
@[reducible] def q1 : Ty := (.pair (.int .i64) (.pair (.int .i64) (.pair (.int .i64) (.pair (.int .i64) (.pair y96 (.pair y98 q0))))))
def f73 (r : Int) : AV × Sig := (.one (.int .i64 r),[])
def E73 := E0
def u73 (a0 : List (Ty.T ah)) (a1 : Int) : Option (AV × Sig) := cond (decide ((IntKind.wrap .i64 (a1 - ((a0).length : Int))) < (0 : Int))) (some (.one (.int .i64 (-1)),[])) (some (.one (.int .i64 (IntKind.wrap .i64 (a1 - ((a0).length : Int)))),[]))
def v73 (a0 : List (Ty.T ah)) (a1 : Int) : Int := cond (decide ((IntKind.wrap .i64 (a1 - ((a0).length : Int))) < (0 : Int))) ((-1)) (IntKind.wrap .i64 (a1 - ((a0).length : Int)))
theorem o73 (a0 : List (Ty.T ah)) (a1 : Int) : u73 a0 a1 = some (f73 (v73 a0 a1)) := (tC rfl rfl)
def p73 : Prim := ⟨[.one (.dat (.sl 200 ah) true),oI],fun v => .done (f73 (v73 v.1 v.2.1))⟩
theorem aaF : PO 73 p73 := pK E73 fun v => et (u73 v.1 v.2.1) (by kernel_rfl) (o73 v.1 v.2.1)
def f74 (r : Int) : AV × Sig := (.one (.int .i64 r),[])
def E74 := E0
def u74 (a0 : List (Ty.T aD)) (a1 : Int) : Option (AV × Sig) := cond (decide ((IntKind.wrap .i64 (a1 - ((a0).length : Int))) < (0 : Int))) (some (.one (.int .i64 (-1)),[])) (some (.one (.int .i64 (IntKind.wrap .i64 (a1 - ((a0).length : Int)))),[]))
def v74 (a0 : List (Ty.T aD)) (a1 : Int) : Int := cond (decide ((IntKind.wrap .i64 (a1 - ((a0).length : Int))) < (0 : Int))) ((-1)) (IntKind.wrap .i64 (a1 - ((a0).length : Int)))
theorem o74 (a0 : List (Ty.T aD)) (a1 : Int) : u74 a0 a1 = some (f74 (v74 a0 a1)) := (tC rfl rfl)
def p74 : Prim := ⟨[.one (.dat (.sl 202 aD) true),oI],fun v => .done (f74 (v74 v.1 v.2.1))⟩
theorem Zn : PO 74 p74 := pK E74 fun v => et (u74 v.1 v.2.1) (by kernel_rfl) (o74 v.1 v.2.1)
def f17 (r : Int) : AV × Sig := (.one (.int .i64 r),[])
def E17 := ((E0.p aaF).p Zn)
def u17 (a0 : Ty.T y24) (a1 : Int) : Option (AV × Sig) := cond (decide ((v73 a0.1 a1) < (0 : Int))) (some (.one (.int .i64 (-1)),[])) (cond (decide ((v74 a0.2.1 (v73 a0.1 a1)) < (0 : Int))) (some (.one (.int .i64 (-1)),[])) (some (.one (.int .i64 (v74 a0.2.1 (v73 a0.1 a1))),[])))
def v17 (a0 : Ty.T y24) (a1 : Int) : Int := cond (decide ((v73 a0.1 a1) < (0 : Int))) ((-1)) (cond (decide ((v74 a0.2.1 (v73 a0.1 a1)) < (0 : Int))) ((-1)) ((v74 a0.2.1 (v73 a0.1 a1))))
theorem o17 (a0 : Ty.T y24) (a1 : Int) : u17 a0 a1 = some (f17 (v17 a0 a1)) := (tC rfl (tC rfl rfl))
def p17 : Prim := ⟨[.agg [.dat y24 true],oI],fun v => .done (f17 (v17 v.1 v.2.1))⟩
theorem YZ : PO 17 p17 := pK E17 fun v => et (u17 v.1 v.2.1) (by kernel_rfl) (o17 v.1 v.2.1)
def f162 (r : Int) : AV × Sig := (.one (.int .i64 r),[])
def YO := E0
def UU (a0 : List (Ty.T y48)) (a1 : Int) : Option (AV × Sig) := cond (decide ((IntKind.wrap .i64 (a1 - ((a0).length : Int))) < (0 : Int))) (some (.one (.int .i64 (-1)),[])) (some (.one (.int .i64 (IntKind.wrap .i64 (a1 - ((a0).length : Int)))),[]))
def ua (a0 : List (Ty.T y48)) (a1 : Int) : Int := cond (decide ((IntKind.wrap .i64 (a1 - ((a0).length : Int))) < (0 : Int))) ((-1)) (IntKind.wrap .i64 (a1 - ((a0).length : Int)))
theorem XP (a0 : List (Ty.T y48)) (a1 : Int) : UU a0 a1 = some (f162 (ua a0 a1)) := (tC rfl rfl)
def Zl : Prim := ⟨[.one (.dat (.sl 49 y48) true),oI],fun v => .done (f162 (ua v.1 v.2.1))⟩
theorem Rc : PO 162 Zl := pK YO fun v => et (UU v.1 v.2.1) (by kernel_rfl) (XP v.1 v.2.1)
def f146 (r : Int) : AV × Sig := (.one (.int .i64 r),[])
def Zx := (E0.p Rc)
def Qo (a0 : Ty.T jx) (a1 : Int) : Option (AV × Sig) := cond (decide ((ua a0.2.2.2.2.2.2 a1) < (0 : Int))) (some (.one (.int .i64 (-1)),[])) (some (.one (.int .i64 (ua a0.2.2.2.2.2.2 a1)),[]))
def uk (a0 : Ty.T jx) (a1 : Int) : Int := cond (decide ((ua a0.2.2.2.2.2.2 a1) < (0 : Int))) ((-1)) ((ua a0.2.2.2.2.2.2 a1))
theorem abu (a0 : Ty.T jx) (a1 : Int) : Qo a0 a1 = some (f146 (uk a0 a1)) := (tC rfl rfl)
def Wo : Prim := ⟨[.agg [.dat jx true],oI],fun v => .done (f146 (uk v.1 v.2.1))⟩
theorem Tb : PO 146 Wo := pK Zx fun v => et (Qo v.1 v.2.1) (by kernel_rfl) (abu v.1 v.2.1)
def f75 (r : Int) : AV × Sig := (.one (.int .i64 r),[])
def E75 := (E0.p Tb)
def u75 (a0 : Ty.T bF) (a1 : Int) : Option (AV × Sig) := cond (decide ((uk a0.2.2.2.2.2.2.1 a1) < (0 : Int))) (some (.one (.int .i64 (-1)),[])) (some (.one (.int .i64 (uk a0.2.2.2.2.2.2.1 a1)),[]))
def v75 (a0 : Ty.T bF) (a1 : Int) : Int := cond (decide ((uk a0.2.2.2.2.2.2.1 a1) < (0 : Int))) ((-1)) ((uk a0.2.2.2.2.2.2.1 a1))
theorem o75 (a0 : Ty.T bF) (a1 : Int) : u75 a0 a1 = some (f75 (v75 a0 a1)) := (tC rfl rfl)
def p75 : Prim := ⟨[.agg [.dat bF true],oI],fun v => .done (f75 (v75 v.1 v.2.1))⟩
theorem W4 : PO 75 p75 := pK E75 fun v => et (u75 v.1 v.2.1) (by kernel_rfl) (o75 v.1 v.2.1)
def f18 (r : Int) : AV × Sig := (.one (.int .i64 r),[])
def E18 := (E0.p W4)
@[reducible] def Dw : List SP := .one (.dat (.sl 122 bF) true) :: oI :: U2 (oI :: oI :: U16 (U4 (.und :: [])))
@[reducible] def aB : List (Nat × GP) := []
@[reducible] def tB : Type := (List (Ty.T bF)) × Int × Int × Int × Unit
def uG (v : tB) {Z : Type} (κ : Nat × tB -> Option Z) : Option Z := cond (decide (v.2.2.2.1 < ((v.1).length : Int))) (if 0 <= v.2.2.2.1 then (ay ((v.1)[(v.2.2.2.1).toNat]?) (fun x1 => cond (decide ((v75 x1 v.2.1) < (0 : Int))) (κ (1,(v.1,(v75 x1 v.2.1),(-1),v.2.2.2.1,()))) (κ (0,(v.1,(v75 x1 v.2.1),v.2.2.1,IntKind.wrap .i64 (v.2.2.2.1 + (1 : Int)),()))))) else none) (κ (2,(v.1,v.2.1,v.2.2.1,v.2.2.2.1,())))
def vR (v : tB) : Option (Nat × tB) := uG v some
def Aq (v : tB) : Nat := v.1.length + v.2.1.toNat + v.2.2.1.toNat + v.2.2.2.1.toNat + 100
def mL (h0 : List (Ty.T bF)) (h1 : Int) (h2 : Int) (h3 : Int) (c : Nat) : Bool := iK vR Aq (h0,h1,h2,h3,()) c
def vE (h0 : List (Ty.T bF)) (h1 : Int) (h2 : Int) (h3 : Int) : tB := iW vR Aq (h0,h1,h2,h3,())
def MP (v : tB) : aL (Ex × St) := aM vR (Aq v) v (ar Dw aB) [.ret,.exit 0] 0
theorem P4 : aH Tryz.prog (aw (pb 5 23) (ab Tryz.f18)) Dw aB MP := ag (lt := .none) E18.ok ak (af.no _) fun n v K => et (uG v (bL _ _ _ _ _ K)) (by kernel_rfl) (show uG v _ = (uG v some).bind _ from (bC (bI (bO fun x1 => (bC rfl rfl))) rfl))
def Xi := E18.l (g := 18) (t := (a9 (pb 5 23) (ab Tryz.f18) .none (.sum Dw aB MP))) (aC Tryz.func18 (af.put (aA (by kernel_rfl)) (af.no _) P4))
def u18 (a0 : List (Ty.T bF)) (a1 : Int) : Option (AV × Sig) := cond (decide ((IntKind.wrap .i64 (a1 - ((a0).length : Int))) < (0 : Int))) (some (.one (.int .i64 (-1)),[])) (cond (mL a0 (IntKind.wrap .i64 (a1 - ((a0).length : Int))) 0 0 0) (some (.one (.int .i64 (vE a0 (IntKind.wrap .i64 (a1 - ((a0).length : Int))) 0 0).2.2.1),[])) (cond (mL a0 (IntKind.wrap .i64 (a1 - ((a0).length : Int))) 0 0 1) (some (.one (.int .i64 (vE a0 (IntKind.wrap .i64 (a1 - ((a0).length : Int))) 0 0).2.1),[])) (none)))
def v18 (a0 : List (Ty.T bF)) (a1 : Int) : Int := cond (decide ((IntKind.wrap .i64 (a1 - ((a0).length : Int))) < (0 : Int))) ((-1)) (cond (mL a0 (IntKind.wrap .i64 (a1 - ((a0).length : Int))) 0 0 0) ((vE a0 (IntKind.wrap .i64 (a1 - ((a0).length : Int))) 0 0).2.2.1) (cond (mL a0 (IntKind.wrap .i64 (a1 - ((a0).length : Int))) 0 0 1) ((vE a0 (IntKind.wrap .i64 (a1 - ((a0).length : Int))) 0 0).2.1) (0)))
def d18 (a0 : List (Ty.T bF)) (a1 : Int) : Bool := cond (decide ((IntKind.wrap .i64 (a1 - ((a0).length : Int))) < (0 : Int))) (true) (cond (mL a0 (IntKind.wrap .i64 (a1 - ((a0).length : Int))) 0 0 0) (true) (cond (mL a0 (IntKind.wrap .i64 (a1 - ((a0).length : Int))) 0 0 1) (true) (false)))
theorem o18 (a0 : List (Ty.T bF)) (a1 : Int) : u18 a0 a1 = cond (d18 a0 a1) (some (f18 (v18 a0 a1))) none := (pC (pS _) (pC (pS _) (pC (pS _) (pN _))))
def p18 : Prim := ⟨[.one (.dat (.sl 122 bF) true),oI],fun v => .br (d18 v.1 v.2.1) (.done (f18 (v18 v.1 v.2.1))) .no⟩
theorem aaK : PO 18 p18 := pK Xi fun v => et (u18 v.1 v.2.1) (by kernel_rfl) (o18 v.1 v.2.1)
def f129 (r : Bool) : AV × Sig := (.one (.bool r),[])
def W1 := E0
def Ra (a0 : Int) (a1 : Int) (a2 : Int) : Option (AV × Sig) := cond (decide (a0 ≥ a1)) (some (.one (.bool (decide (a0 <= a2))),[])) (some (.one (.bool false),[]))
def aY (a0 : Int) (a1 : Int) (a2 : Int) : Bool := cond (decide (a0 ≥ a1)) (decide (a0 <= a2)) (false)
theorem acT (a0 : Int) (a1 : Int) (a2 : Int) : Ra a0 a1 a2 = some (f129 (aY a0 a1 a2)) := (tC rfl rfl)
def abF : Prim := ⟨[oI,oI,oI],fun v => .done (f129 (aY v.1 v.2.1 v.2.2.1))⟩
theorem km : PO 129 abF := pK W1 fun v => et (Ra v.1 v.2.1 v.2.2.1) (by kernel_rfl) (acT v.1 v.2.1 v.2.2.1)
def f198 (r : Bool) : AV × Sig := (.one (.bool r),[])
def X5 := (E0.p km)
def t198 (a0 : Ty.T ah) {Z : Type} (κ : Bool -> Z) : Z := cond (!(aY a0.1 1 99)) (κ false) (cond (!(aY a0.2.1 0 2)) (κ false) (cond (!(aY a0.2.2.1 0 2)) (κ false) (cond (!(aY a0.2.2.2.1 1 4)) (κ false) (cond (!(aY a0.2.2.2.2.1 0 9999)) (κ false) (cond (!(aY a0.2.2.2.2.2.1 0 999)) (κ false) (cond (!(aY a0.2.2.2.2.2.2.1 0 999)) (κ false) (cond (!(aY a0.2.2.2.2.2.2.2.1 0 63)) (κ false) (cond (!(aY a0.2.2.2.2.2.2.2.2.1 0 2147483647)) (κ false) (cond (!(aY a0.2.2.2.2.2.2.2.2.2.1 0 2147483647)) (κ false) (cond (!(aY a0.2.2.2.2.2.2.2.2.2.2.1 0 2147483647)) (κ false) (cond (a0.2.2.2.1 == (2 : Int)) (κ true) (cond (a0.2.2.1 == a0.2.1) (cond (a0.2.2.2.2.2.2.2.2.1 == (0 : Int)) (cond (a0.2.2.2.2.2.2.2.2.2.1 == (0 : Int)) (cond (a0.2.2.2.2.2.2.2.2.2.2.1 == (0 : Int)) (cond (!a0.2.2.2.2.2.2.2.2.2.2.2.1) (κ (!a0.2.2.2.2.2.2.2.2.2.2.2.2)) (κ false)) (κ false)) (κ false)) (κ false)) (κ false)))))))))))))
def zz (a0 : Ty.T ah) : Bool := t198 a0 fun r => r
def YC : Prim := ⟨[.agg [.dat ah true]],fun v => .done (f198 (zz v.1))⟩
theorem QR : PO 198 YC := pK X5 fun v => et ((t198 v.1 (sm f198))) (by kernel_rfl) (show t198 v.1 (sm f198) = some (f198 (t198 v.1 fun r => r)) from (tC rfl (tC rfl (tC rfl (tC rfl (tC rfl (tC rfl (tC rfl (tC rfl (tC rfl (tC rfl (tC rfl (tC rfl (tC (tC (tC (tC (tC rfl rfl) rfl) rfl) rfl) rfl))))))))))))))
def f199 (r : Bool) : AV × Sig := (.one (.bool r),[])
def X7 := (E0.p km)
def Sw (a0 : Ty.T aD) : Option (AV × Sig) := cond (aY a0.1 (-2147483647) 2147483647) (some (.one (.bool (aY a0.2.1 0 2147483647)),[])) (some (.one (.bool false),[]))
def jh (a0 : Ty.T aD) : Bool := cond (aY a0.1 (-2147483647) 2147483647) ((aY a0.2.1 0 2147483647)) (false)
theorem Wm (a0 : Ty.T aD) : Sw a0 = some (f199 (jh a0)) := (tC rfl rfl)
def aaQ : Prim := ⟨[.agg [.dat aD true]],fun v => .done (f199 (jh v.1))⟩
theorem Rt : PO 199 aaQ := pK X7 fun v => et (Sw v.1) (by kernel_rfl) (Wm v.1)
def f125 (r : Bool) : AV × Sig := (.one (.bool r),[])
def OF := (((E0.p km).p QR).p Rt)
@[reducible] def ye : List SP := .und :: .one (.ptr 1 0) :: .one (.dat .bool true) :: oI :: U64 (U32 (.und :: []))
@[reducible] def fc : List (Nat × GP) := [(1,.box 37 [.dat y36 true])]
@[reducible] def dS : Type := Bool × Int × (Ty.T y36) × Unit
def kq (v : dS) {Z : Type} (κ : Nat × dS -> Option Z) : Option Z := cond (decide (v.2.1 < ((v.2.2.1.1).length : Int))) (if 0 <= v.2.1 then (ay ((v.2.2.1.1)[(v.2.1).toNat]?) (fun x1 => cond (!(zz x1)) (κ (1,(false,v.2.1,v.2.2.1,()))) (cond (decide (v.2.1 > (0 : Int))) (if 0 <= (IntKind.wrap .i64 (v.2.1 - (1 : Int))) then (ay ((v.2.2.1.1)[(IntKind.wrap .i64 (v.2.1 - (1 : Int))).toNat]?) (fun x2 => cond (decide (x2.1 ≥ x1.1)) (κ (1,(false,v.2.1,v.2.2.1,()))) (cond (decide (x1.2.1 ≥ ((v.2.2.1.2.1).length : Int))) (κ (1,(false,v.2.1,v.2.2.1,()))) (cond (decide (x1.2.2.1 ≥ ((v.2.2.1.2.1).length : Int))) (κ (1,(false,v.2.1,v.2.2.1,()))) (cond (decide (x1.2.2.2.2.1 > v.2.2.1.2.2.2)) (κ (1,(false,v.2.1,v.2.2.1,()))) (κ (0,(v.1,IntKind.wrap .i64 (v.2.1 + (1 : Int)),v.2.2.1,())))))))) else none) (cond (decide (x1.2.1 ≥ ((v.2.2.1.2.1).length : Int))) (κ (1,(false,v.2.1,v.2.2.1,()))) (cond (decide (x1.2.2.1 ≥ ((v.2.2.1.2.1).length : Int))) (κ (1,(false,v.2.1,v.2.2.1,()))) (cond (decide (x1.2.2.2.2.1 > v.2.2.1.2.2.2)) (κ (1,(false,v.2.1,v.2.2.1,()))) (κ (0,(v.1,IntKind.wrap .i64 (v.2.1 + (1 : Int)),v.2.2.1,()))))))))) else none) (κ (2,(v.1,v.2.1,v.2.2.1,())))
def gJ (v : dS) : Option (Nat × dS) := kq v some
def pt (v : dS) : Nat := v.2.1.toNat + v.2.2.1.1.length + v.2.2.1.2.1.length + 100
def q7 (h0 : Bool) (h1 : Int) (h2 : Ty.T y36) (c : Nat) : Bool := iK gJ pt (h0,h1,h2,()) c
def iQ (h0 : Bool) (h1 : Int) (h2 : Ty.T y36) : dS := iW gJ pt (h0,h1,h2,())
def JW (v : dS) : aL (Ex × St) := aM gJ (pt v) v (ar ye fc) [.ret,.exit 0] 0
theorem Pn : aH Tryz.prog (aw (pb 4 11) (ab Tryz.f125)) ye fc JW := ag (lt := .none) OF.ok ak (af.no _) fun n v K => et (kq v (bL _ _ _ _ _ K)) (by kernel_rfl) (show kq v _ = (kq v some).bind _ from (bC (bI (bO fun x1 => (bC rfl (bC (bI (bO fun x2 => (bC rfl (bC rfl (bC rfl (bC rfl rfl)))))) (bC rfl (bC rfl (bC rfl rfl))))))) rfl))
@[reducible] def wv : List SP := .und :: .one (.ptr 1 0) :: .one (.dat .bool true) :: U2 (oI :: U64 (U16 (U8 (U4 (U2 (.und :: []))))))
def oJ (v : dS) {Z : Type} (κ : Nat × dS -> Option Z) : Option Z := cond (decide (v.2.1 < ((v.2.2.1.2.1).length : Int))) (if 0 <= v.2.1 then (ay ((v.2.2.1.2.1)[(v.2.1).toNat]?) (fun x3 => cond (!(jh x3)) (κ (1,(false,v.2.1,v.2.2.1,()))) (κ (0,(v.1,IntKind.wrap .i64 (v.2.1 + (1 : Int)),v.2.2.1,()))))) else none) (κ (2,(v.1,v.2.1,v.2.2.1,())))
def pj (v : dS) : Option (Nat × dS) := oJ v some
def sk (v : dS) : Nat := v.2.1.toNat + v.2.2.1.1.length + v.2.2.1.2.1.length + 100
def rK (h0 : Bool) (h1 : Int) (h2 : Ty.T y36) (c : Nat) : Bool := iK pj sk (h0,h1,h2,()) c
def Dc (h0 : Bool) (h1 : Int) (h2 : Ty.T y36) : dS := iW pj sk (h0,h1,h2,())
def Iw (v : dS) : aL (Ex × St) := aM pj (sk v) v (ar wv fc) [.ret,.exit 2] 0
theorem Pg : aH Tryz.prog (aw (pb 5 23) (ab Tryz.f125)) wv fc Iw := ag (lt := .none) OF.ok ak (af.no _) fun n v K => et (oJ v (bL _ _ _ _ _ K)) (by kernel_rfl) (show oJ v _ = (oJ v some).bind _ from (bC (bI (bO fun x3 => (bC rfl rfl))) rfl))
def TW := OF.l (g := 125) (t := (a9 (pb 5 23) (ab Tryz.f125) (a9 (pb 4 11) (ab Tryz.f125) .none (.sum ye fc JW)) (.sum wv fc Iw))) (aC Tryz.func125 (af.put (aA (by kernel_rfl)) (af.put (aA (by kernel_rfl)) (af.no _) Pn) Pg))
def t125 (a0 : Ty.T y36) {Z : Type} (κ : Bool -> Option Z) : Option Z := cond (decide (((a0.1).length : Int) > (8 : Int))) (κ false) (cond (!(aY ((a0.2.1).length : Int) 2 3)) (κ false) (cond (!(aY a0.2.2.1 0 (IntKind.wrap .i64 (((a0.2.1).length : Int) - (1 : Int))))) (κ false) (cond (!(aY a0.2.2.2 0 9999)) (κ false) (cond (q7 false 0 a0 0) (κ (iQ false 0 a0).1) (cond (q7 false 0 a0 1) (cond (rK (iQ false 0 a0).1 0 (iQ false 0 a0).2.2.1 0) (κ (Dc (iQ false 0 a0).1 0 (iQ false 0 a0).2.2.1).1) (cond (rK (iQ false 0 a0).1 0 (iQ false 0 a0).2.2.1 1) (κ true) (none))) (none))))))
def Gf (a0 : Ty.T y36) : Bool := (t125 a0 some).getD false
def d125 (a0 : Ty.T y36) : Bool := (t125 a0 some).isSome
def XC : Prim := ⟨[.agg [.dat y36 true]],fun v => .br (d125 v.1) (.done (f125 (Gf v.1))) .no⟩
theorem P2 : PO 125 XC := pK TW fun v => et ((t125 v.1 (sm f125))) (by kernel_rfl) (aN (show t125 v.1 (sm f125) = (t125 v.1 some).bind _ from by unfold t125; simp only [bb]))
def f241 (r : Bool) : AV × Sig := (.one (.bool r),[])
def abO := (E0.p km)
def t241 (a0 : Ty.T y96) {Z : Type} (κ : Bool -> Z) : Z := cond (!(aY a0.1 1 6)) (κ false) (cond (!(aY a0.2.1 0 2)) (κ false) (cond (!(aY a0.2.2.2.2.1 0 99)) (κ false) (cond (!(aY a0.2.2.2.2.2.1 0 2147483647)) (κ false) (cond (!(aY a0.2.2.1 0 99)) (κ false) (cond (!(aY a0.2.2.2.1 0 63)) (κ false) (cond (!(aY a0.2.2.2.2.2.2 0 4)) (κ false) (cond (a0.1 != (1 : Int)) (cond (a0.2.2.1 != (0 : Int)) (κ false) (cond (a0.2.2.2.1 != (0 : Int)) (κ false) (cond (a0.1 != (2 : Int)) (cond (a0.2.2.2.2.2.2 != (0 : Int)) (κ false) (cond (a0.1 != (3 : Int)) (cond (a0.1 != (4 : Int)) (κ true) (κ (a0.2.2.2.2.1 == (0 : Int)))) (κ (a0.2.2.2.2.1 == (0 : Int))))) (cond (a0.1 != (3 : Int)) (cond (a0.1 != (4 : Int)) (κ true) (κ (a0.2.2.2.2.1 == (0 : Int)))) (κ (a0.2.2.2.2.1 == (0 : Int))))))) (cond (a0.1 != (2 : Int)) (cond (a0.2.2.2.2.2.2 != (0 : Int)) (κ false) (cond (a0.1 != (3 : Int)) (cond (a0.1 != (4 : Int)) (κ true) (κ (a0.2.2.2.2.1 == (0 : Int)))) (κ (a0.2.2.2.2.1 == (0 : Int))))) (cond (a0.1 != (3 : Int)) (cond (a0.1 != (4 : Int)) (κ true) (κ (a0.2.2.2.2.1 == (0 : Int)))) (κ (a0.2.2.2.2.1 == (0 : Int))))))))))))
def qt (a0 : Ty.T y96) : Bool := t241 a0 fun r => r
def abU : Prim := ⟨[.agg [.dat y96 true]],fun v => .done (f241 (qt v.1))⟩
theorem M1 : PO 241 abU := pK abO fun v => et ((t241 v.1 (sm f241))) (by kernel_rfl) (show t241 v.1 (sm f241) = some (f241 (t241 v.1 fun r => r)) from (tC rfl (tC rfl (tC rfl (tC rfl (tC rfl (tC rfl (tC rfl (tC (tC rfl (tC rfl (tC (tC rfl (tC (tC rfl rfl) rfl)) (tC (tC rfl rfl) rfl)))) (tC (tC rfl (tC (tC rfl rfl) rfl)) (tC (tC rfl rfl) rfl)))))))))))
def f242 (r : Bool) : AV × Sig := (.one (.bool r),[])
def aaZ := (E0.p km)
def t242 (a0 : Ty.T y98) {Z : Type} (κ : Bool -> Z) : Z := cond (a0.1 == (0 : Int)) (cond (a0.1 == (0 : Int)) (κ (a0.2 == (0 : Int))) (cond (a0.1 == (1 : Int)) (κ (aY a0.2 (-2147483647) 2147483647)) (cond (a0.1 == (2 : Int)) (κ (aY a0.2 0 8)) (cond (a0.1 == (4 : Int)) (κ (aY a0.2 0 8)) (κ false))))) (cond (a0.1 == (3 : Int)) (κ (a0.2 == (0 : Int))) (cond (a0.1 == (1 : Int)) (κ (aY a0.2 (-2147483647) 2147483647)) (cond (a0.1 == (2 : Int)) (κ (aY a0.2 0 8)) (cond (a0.1 == (4 : Int)) (κ (aY a0.2 0 8)) (κ false)))))
def sP (a0 : Ty.T y98) : Bool := t242 a0 fun r => r
def acs : Prim := ⟨[.agg [.dat y98 true]],fun v => .done (f242 (sP v.1))⟩
theorem MV : PO 242 acs := pK aaZ fun v => et ((t242 v.1 (sm f242))) (by kernel_rfl) (show t242 v.1 (sm f242) = some (f242 (t242 v.1 fun r => r)) from (tC (tC rfl (tC rfl (tC rfl (tC rfl rfl)))) (tC rfl (tC rfl (tC rfl (tC rfl rfl))))))
def f277 (r : Bool) : AV × Sig := (.one (.bool r),[])
def Y2 := E0
def Ub (a0 : Ty.T aZ) : Option (AV × Sig) := cond (a0.2.2.1 == (0 : Int)) (cond (a0.2.2.2.1 == (-1 : Int)) (cond (a0.2.2.2.2.1 == (0 : Int)) (cond (!a0.2.2.2.2.2.1) (some (.one (.bool (((a0.2.2.2.2.2.2).length : Int) == (0 : Int))),[])) (some (.one (.bool false),[]))) (some (.one (.bool false),[]))) (some (.one (.bool false),[]))) (some (.one (.bool false),[]))
def Gv (a0 : Ty.T aZ) : Bool := cond (a0.2.2.1 == (0 : Int)) (cond (a0.2.2.2.1 == (-1 : Int)) (cond (a0.2.2.2.2.1 == (0 : Int)) (cond (!a0.2.2.2.2.2.1) ((((a0.2.2.2.2.2.2).length : Int) == (0 : Int))) (false)) (false)) (false)) (false)
theorem VS (a0 : Ty.T aZ) : Ub a0 = some (f277 (Gv a0)) := (tC (tC (tC (tC rfl rfl) rfl) rfl) rfl)
def Wn : Prim := ⟨[.agg [.dat aZ true]],fun v => .done (f277 (Gv v.1))⟩
theorem Rl : PO 277 Wn := pK Y2 fun v => et (Ub v.1) (by kernel_rfl) (VS v.1)
def f148 (r : Bool) : AV × Sig := (.one (.bool r),[])
def XJ := (E0.p km)
def t148 (a0 : Ty.T y48) {Z : Type} (κ : Bool -> Z) : Z := cond (aY a0.2.2.1 1 99) (cond (a0.2.2.1 == (0 : Int)) (cond (!(aY a0.2.2.2.2.1 0 2147483647)) (κ false) (cond (a0.1 == (1 : Int)) (cond (aY a0.2.1 1 99) (cond (a0.2.2.2.1 == (-1 : Int)) (cond (a0.2.2.2.2.2.1 == (0 : Int)) (κ (!a0.2.2.2.2.2.2)) (κ false)) (cond (aY a0.2.2.2.1 0 2) (cond (a0.2.2.2.2.2.1 == (0 : Int)) (κ (!a0.2.2.2.2.2.2)) (κ false)) (κ false))) (κ false)) (cond (a0.1 == (2 : Int)) (cond (a0.2.1 == (0 : Int)) (cond (a0.2.2.2.1 == (-1 : Int)) (cond (aY a0.2.2.2.2.2.1 1 4) (cond (decide (a0.2.2.2.2.1 <= (99 : Int))) (cond (a0.2.2.2.2.2.1 == (2 : Int)) (κ true) (cond (a0.2.2.2.2.1 == (0 : Int)) (κ (!a0.2.2.2.2.2.2)) (κ false))) (κ false)) (κ false)) (κ false)) (κ false)) (cond (a0.1 == (3 : Int)) (cond (a0.1 == (3 : Int)) (cond (a0.2.1 == (0 : Int)) (cond (aY a0.2.2.2.1 0 2) (cond (a0.2.2.2.2.2.1 == (0 : Int)) (κ (!a0.2.2.2.2.2.2)) (κ false)) (κ false)) (κ false)) (cond (a0.1 == (5 : Int)) (cond (a0.1 == (5 : Int)) (cond (a0.2.1 == (0 : Int)) (cond (a0.2.2.2.1 == (-1 : Int)) (cond (a0.2.2.2.2.2.1 == (0 : Int)) (κ (!a0.2.2.2.2.2.2)) (κ false)) (κ false)) (κ false)) (κ false)) (cond (a0.1 == (6 : Int)) (cond (a0.2.1 == (0 : Int)) (cond (a0.2.2.2.1 == (-1 : Int)) (cond (a0.2.2.2.2.2.1 == (0 : Int)) (κ (!a0.2.2.2.2.2.2)) (κ false)) (κ false)) (κ false)) (κ false)))) (cond (a0.1 == (4 : Int)) (cond (a0.2.1 == (0 : Int)) (cond (aY a0.2.2.2.1 0 2) (cond (a0.2.2.2.2.2.1 == (0 : Int)) (κ (!a0.2.2.2.2.2.2)) (κ false)) (κ false)) (κ false)) (cond (a0.1 == (5 : Int)) (cond (a0.1 == (5 : Int)) (cond (a0.2.1 == (0 : Int)) (cond (a0.2.2.2.1 == (-1 : Int)) (cond (a0.2.2.2.2.2.1 == (0 : Int)) (κ (!a0.2.2.2.2.2.2)) (κ false)) (κ false)) (κ false)) (κ false)) (cond (a0.1 == (6 : Int)) (cond (a0.2.1 == (0 : Int)) (cond (a0.2.2.2.1 == (-1 : Int)) (cond (a0.2.2.2.2.2.1 == (0 : Int)) (κ (!a0.2.2.2.2.2.2)) (κ false)) (κ false)) (κ false)) (κ false)))))))) (cond (!(aY a0.2.2.2.2.1 0 2147483647)) (κ false) (cond (a0.1 == (1 : Int)) (cond (aY a0.2.1 1 99) (cond (a0.2.2.2.1 == (-1 : Int)) (cond (a0.2.2.2.2.2.1 == (0 : Int)) (κ (!a0.2.2.2.2.2.2)) (κ false)) (κ false)) (κ false)) (cond (a0.1 == (2 : Int)) (cond (a0.2.1 == (0 : Int)) (cond (a0.2.2.2.1 == (-1 : Int)) (cond (aY a0.2.2.2.2.2.1 1 4) (cond (decide (a0.2.2.2.2.1 <= (99 : Int))) (cond (a0.2.2.2.2.2.1 == (2 : Int)) (κ true) (cond (a0.2.2.2.2.1 == (0 : Int)) (κ (!a0.2.2.2.2.2.2)) (κ false))) (κ false)) (κ false)) (κ false)) (κ false)) (cond (a0.1 == (3 : Int)) (cond (a0.1 == (3 : Int)) (cond (a0.2.1 == (0 : Int)) (κ false) (κ false)) (cond (a0.1 == (5 : Int)) (cond (a0.1 == (5 : Int)) (cond (a0.2.1 == (0 : Int)) (cond (a0.2.2.2.1 == (-1 : Int)) (cond (a0.2.2.2.2.2.1 == (0 : Int)) (κ (!a0.2.2.2.2.2.2)) (κ false)) (κ false)) (κ false)) (κ false)) (cond (a0.1 == (6 : Int)) (cond (a0.2.1 == (0 : Int)) (cond (a0.2.2.2.1 == (-1 : Int)) (cond (a0.2.2.2.2.2.1 == (0 : Int)) (κ (!a0.2.2.2.2.2.2)) (κ false)) (κ false)) (κ false)) (κ false)))) (cond (a0.1 == (4 : Int)) (cond (a0.2.1 == (0 : Int)) (κ false) (κ false)) (cond (a0.1 == (5 : Int)) (cond (a0.1 == (5 : Int)) (cond (a0.2.1 == (0 : Int)) (cond (a0.2.2.2.1 == (-1 : Int)) (cond (a0.2.2.2.2.2.1 == (0 : Int)) (κ (!a0.2.2.2.2.2.2)) (κ false)) (κ false)) (κ false)) (κ false)) (cond (a0.1 == (6 : Int)) (cond (a0.2.1 == (0 : Int)) (cond (a0.2.2.2.1 == (-1 : Int)) (cond (a0.2.2.2.2.2.1 == (0 : Int)) (κ (!a0.2.2.2.2.2.2)) (κ false)) (κ false)) (κ false)) (κ false))))))))) (cond (a0.2.2.1 == (0 : Int)) (cond (!(aY a0.2.2.2.2.1 0 2147483647)) (κ false) (cond (a0.1 == (1 : Int)) (cond (aY a0.2.1 1 99) (cond (aY a0.2.2.2.1 0 2) (cond (a0.2.2.2.2.2.1 == (0 : Int)) (κ (!a0.2.2.2.2.2.2)) (κ false)) (κ false)) (κ false)) (cond (a0.1 == (2 : Int)) (cond (a0.2.1 == (0 : Int)) (κ false) (κ false)) (cond (a0.1 == (3 : Int)) (cond (a0.1 == (3 : Int)) (cond (a0.2.1 == (0 : Int)) (cond (aY a0.2.2.2.1 0 2) (cond (a0.2.2.2.2.2.1 == (0 : Int)) (κ (!a0.2.2.2.2.2.2)) (κ false)) (κ false)) (κ false)) (cond (a0.1 == (5 : Int)) (cond (a0.1 == (5 : Int)) (cond (a0.2.1 == (0 : Int)) (κ false) (κ false)) (κ false)) (cond (a0.1 == (6 : Int)) (cond (a0.2.1 == (0 : Int)) (κ false) (κ false)) (κ false)))) (cond (a0.1 == (4 : Int)) (cond (a0.2.1 == (0 : Int)) (cond (aY a0.2.2.2.1 0 2) (cond (a0.2.2.2.2.2.1 == (0 : Int)) (κ (!a0.2.2.2.2.2.2)) (κ false)) (κ false)) (κ false)) (cond (a0.1 == (5 : Int)) (cond (a0.1 == (5 : Int)) (cond (a0.2.1 == (0 : Int)) (κ false) (κ false)) (κ false)) (cond (a0.1 == (6 : Int)) (cond (a0.2.1 == (0 : Int)) (κ false) (κ false)) (κ false)))))))) (cond (!(aY a0.2.2.2.2.1 0 2147483647)) (κ false) (cond (a0.1 == (1 : Int)) (cond (aY a0.2.1 1 99) (κ false) (κ false)) (cond (a0.1 == (2 : Int)) (cond (a0.2.1 == (0 : Int)) (κ false) (κ false)) (cond (a0.1 == (3 : Int)) (cond (a0.1 == (3 : Int)) (cond (a0.2.1 == (0 : Int)) (κ false) (κ false)) (cond (a0.1 == (5 : Int)) (cond (a0.1 == (5 : Int)) (cond (a0.2.1 == (0 : Int)) (κ false) (κ false)) (κ false)) (cond (a0.1 == (6 : Int)) (cond (a0.2.1 == (0 : Int)) (κ false) (κ false)) (κ false)))) (cond (a0.1 == (4 : Int)) (cond (a0.2.1 == (0 : Int)) (κ false) (κ false)) (cond (a0.1 == (5 : Int)) (cond (a0.1 == (5 : Int)) (cond (a0.2.1 == (0 : Int)) (κ false) (κ false)) (κ false)) (cond (a0.1 == (6 : Int)) (cond (a0.2.1 == (0 : Int)) (κ false) (κ false)) (κ false)))))))))
def dO (a0 : Ty.T y48) : Bool := t148 a0 fun r => r
def YB : Prim := ⟨[.agg [.dat y48 true]],fun v => .done (f148 (dO v.1))⟩
theorem E7 : PO 148 YB := pK XJ fun v => et ((t148 v.1 (sm f148))) (by kernel_rfl) (show t148 v.1 (sm f148) = some (f148 (t148 v.1 fun r => r)) from (tC (tC (tC rfl (tC (tC (tC (tC rfl rfl) (tC (tC rfl rfl) rfl)) rfl) (tC (tC (tC (tC (tC (tC rfl (tC rfl rfl)) rfl) rfl) rfl) rfl) (tC (tC (tC (tC (tC rfl rfl) rfl) rfl) (tC (tC (tC (tC (tC rfl rfl) rfl) rfl) rfl) (tC (tC (tC (tC rfl rfl) rfl) rfl) rfl))) (tC (tC (tC (tC rfl rfl) rfl) rfl) (tC (tC (tC (tC (tC rfl rfl) rfl) rfl) rfl) (tC (tC (tC (tC rfl rfl) rfl) rfl) rfl))))))) (tC rfl (tC (tC (tC (tC rfl rfl) rfl) rfl) (tC (tC (tC (tC (tC (tC rfl (tC rfl rfl)) rfl) rfl) rfl) rfl) (tC (tC (tC rfl rfl) (tC (tC (tC (tC (tC rfl rfl) rfl) rfl) rfl) (tC (tC (tC (tC rfl rfl) rfl) rfl) rfl))) (tC (tC rfl rfl) (tC (tC (tC (tC (tC rfl rfl) rfl) rfl) rfl) (tC (tC (tC (tC rfl rfl) rfl) rfl) rfl)))))))) (tC (tC rfl (tC (tC (tC (tC rfl rfl) rfl) rfl) (tC (tC rfl rfl) (tC (tC (tC (tC (tC rfl rfl) rfl) rfl) (tC (tC (tC rfl rfl) rfl) (tC (tC rfl rfl) rfl))) (tC (tC (tC (tC rfl rfl) rfl) rfl) (tC (tC (tC rfl rfl) rfl) (tC (tC rfl rfl) rfl))))))) (tC rfl (tC (tC rfl rfl) (tC (tC rfl rfl) (tC (tC (tC rfl rfl) (tC (tC (tC rfl rfl) rfl) (tC (tC rfl rfl) rfl))) (tC (tC rfl rfl) (tC (tC (tC rfl rfl) rfl) (tC (tC rfl rfl) rfl))))))))))
def f278 (r : Bool) : AV × Sig := (.one (.bool r),[])
def aaS := (E0.p E7)
def Qy (a0 : Ty.T y48) : Option (AV × Sig) := cond (a0.2.2.2.2.1 == (-1 : Int)) (cond (a0.1 != (2 : Int)) (some (.one (.bool (dO (a0.1,a0.2.1,a0.2.2.1,a0.2.2.2.1,0,a0.2.2.2.2.2))),[])) (some (.one (.bool (dO a0)),[]))) (some (.one (.bool (dO a0)),[]))
def jy (a0 : Ty.T y48) : Bool := cond (a0.2.2.2.2.1 == (-1 : Int)) (cond (a0.1 != (2 : Int)) ((dO (a0.1,a0.2.1,a0.2.2.1,a0.2.2.2.1,0,a0.2.2.2.2.2))) ((dO a0))) ((dO a0))
theorem Wb (a0 : Ty.T y48) : Qy a0 = some (f278 (jy a0)) := (tC (tC rfl rfl) rfl)
def ZC : Prim := ⟨[.agg [.dat y48 true]],fun v => .done (f278 (jy v.1))⟩
theorem Un : PO 278 ZC := pK aaS fun v => et (Qy v.1) (by kernel_rfl) (Wb v.1)
def f243 (r : Bool) : AV × Sig := (.one (.bool r),[])
def y6 := (((E0.p km).p Rl).p Un)
@[reducible] def qD : List SP := .und :: .one (.ptr 1 0) :: .one (.dat .bool true) :: U2 (oI :: .one (.dat .bool true) :: U64 (U64 (U32 (U2 (.und :: [])))))
@[reducible] def bh : List (Nat × GP) := [(1,.box 101 [.dat aZ true])]
@[reducible] def kh : Type := Bool × Int × Bool × (Ty.T aZ) × Unit
def wo (v : kh) (r : Bool) : Ex × St := (.normal,ar qD bh (v.1,v.2.1,r,v.2.2.2.1,()))
def oA (v : kh) {Z : Type} (κ : Bool -> Z) : Z := cond v.2.2.1 (κ v.2.2.1) (cond (v.2.1 == (2 : Int)) (κ (v.2.1 == (2 : Int))) (cond (v.2.1 == (4 : Int)) (κ (v.2.1 == (4 : Int))) (κ (v.2.1 == (5 : Int)))))
def xx (v : kh) : Bool := oA v id
def KD (v : kh) : aL (Ex × St) := .done (wo v (xx v))
theorem Oy : bo Tryz.prog (aO (pb 5 21) (ab Tryz.f243)) qD bh KD := bf (lt := .none) (sx := qD) (gx := bh) y6.ok ak (af.no _) fun v => et (oA v (sm (wo v))) (by kernel_rfl) (show oA v (sm (wo v)) = some (wo v (oA v id)) from (tC rfl (tC rfl (tC rfl rfl))))
@[reducible] def dw : List SP := .und :: .one (.ptr 1 0) :: .one (.dat .bool true) :: U64 (U64 (U32 (U4 (U2 (.und :: [])))))
@[reducible] def bm : Type := Bool × (Ty.T aZ) × Unit
@[reducible] def dx : List SP := U2 (.one (.dat .bool true) :: U64 (U64 (U32 (U4 (U2 (.und :: []))))))
def xt (v : bm) (r : Bool) : Ex × St := (.normal,ar dx aB (r,()))
def o6 (v : bm) {Z : Type} (κ : Bool -> Z) : Z := cond (Gv v.2.1) (κ (v.2.1.2.1 == (0 : Int))) (κ false)
def xG (v : bm) : Bool := o6 v id
def G0 (v : bm) : aL (Ex × St) := .done (xt v (xG v))
theorem PN : bo Tryz.prog (aO (pb 6 13) (ab Tryz.f243)) dw bh G0 := bf (lt := .none) (sx := dx) (gx := aB) y6.ok ak (af.no _) fun v => et (o6 v (sm (xt v))) (by kernel_rfl) (show o6 v (sm (xt v)) = some (xt v (o6 v id)) from (tC rfl rfl))
def yH (v : bm) (r : Bool) : Ex × St := (.normal,ar dx aB (r,()))
def nP (v : bm) {Z : Type} (κ : Bool -> Z) : Z := cond (Gv v.2.1) (κ (aY v.2.1.2.1 1 2147483647)) (κ false)
def xQ (v : bm) : Bool := nP v id
def HQ (v : bm) : aL (Ex × St) := .done (yH v (xQ v))
theorem O0 : bo Tryz.prog (aO (pb 8 61) (ab Tryz.f243)) dw bh HQ := bf (lt := .none) (sx := dx) (gx := aB) y6.ok ak (af.no _) fun v => et (nP v (sm (yH v))) (by kernel_rfl) (show nP v (sm (yH v)) = some (yH v (nP v id)) from (tC rfl rfl))
def xe (v : bm) (r : Bool) : Ex × St := (.normal,ar dx aB (r,()))
def o5 (v : bm) {Z : Type} (κ : Bool -> Z) : Z := cond (v.2.1.2.1 == (0 : Int)) (cond (v.2.1.2.2.2.2.1 == (0 : Int)) (cond (!v.2.1.2.2.2.2.2.1) (cond (((v.2.1.2.2.2.2.2.2).length : Int) == (0 : Int)) (cond (aY v.2.1.2.2.1 1 99) (cond (v.2.1.2.2.2.1 == (-1 : Int)) (κ true) (cond (v.2.1.2.2.1 == (0 : Int)) (κ (aY v.2.1.2.2.2.1 0 2)) (κ false))) (cond (v.2.1.2.2.1 == (0 : Int)) (κ (aY v.2.1.2.2.2.1 0 2)) (κ false))) (κ false)) (κ false)) (κ false)) (κ false)
def yL (v : bm) : Bool := o5 v id
def IV (v : bm) : aL (Ex × St) := .done (xe v (yL v))
theorem PF : bo Tryz.prog (aO (pb 10 253) (ab Tryz.f243)) dw bh IV := bf (lt := .none) (sx := dx) (gx := aB) y6.ok ak (af.no _) fun v => et (o5 v (sm (xe v))) (by kernel_rfl) (show o5 v (sm (xe v)) = some (xe v (o5 v id)) from (tC (tC (tC (tC (tC (tC rfl (tC rfl rfl)) (tC rfl rfl)) rfl) rfl) rfl) rfl))
def xa (v : bm) (r : Bool) : Ex × St := (.normal,ar dx aB (r,()))
def o0 (v : bm) {Z : Type} (κ : Bool -> Z) : Z := cond (v.2.1.2.1 == (0 : Int)) (cond (v.2.1.2.2.1 == (0 : Int)) (cond (v.2.1.2.2.2.1 == (-1 : Int)) (cond (!v.2.1.2.2.2.2.2.1) (cond (((v.2.1.2.2.2.2.2.2).length : Int) == (0 : Int)) (κ (aY v.2.1.2.2.2.2.1 1 4)) (κ false)) (κ false)) (κ false)) (κ false)) (κ false)
def wu (v : bm) : Bool := o0 v id
def Hd (v : bm) : aL (Ex × St) := .done (xa v (wu v))
theorem O7 : bo Tryz.prog (aO (pb 12 1021) (ab Tryz.f243)) dw bh Hd := bf (lt := .none) (sx := dx) (gx := aB) y6.ok ak (af.no _) fun v => et (o0 v (sm (xa v))) (by kernel_rfl) (show o0 v (sm (xa v)) = some (xa v (o0 v id)) from (tC (tC (tC (tC (tC rfl rfl) rfl) rfl) rfl) rfl))
def yE (v : bm) (r : Bool) : Ex × St := (.normal,ar dx aB (r,()))
def oF (v : bm) {Z : Type} (κ : Bool -> Z) : Z := cond (aY v.2.1.2.1 0 99) (cond (v.2.1.2.2.1 == (0 : Int)) (cond (v.2.1.2.2.2.1 == (-1 : Int)) (cond (v.2.1.2.2.2.2.1 == (0 : Int)) (κ (((v.2.1.2.2.2.2.2.2).length : Int) == (0 : Int))) (κ false)) (κ false)) (κ false)) (κ false)
def yO (v : bm) : Bool := oF v id
def G4 (v : bm) : aL (Ex × St) := .done (yE v (yO v))
theorem OO : bo Tryz.prog (aO (pb 14 4093) (ab Tryz.f243)) dw bh G4 := bf (lt := .none) (sx := dx) (gx := aB) y6.ok ak (af.no _) fun v => et (oF v (sm (yE v))) (by kernel_rfl) (show oF v (sm (yE v)) = some (yE v (oF v id)) from (tC (tC (tC (tC rfl rfl) rfl) rfl) rfl))
@[reducible] def wM : List SP := .und :: .one (.ptr 1 0) :: .one (.dat .bool true) :: oI :: U64 (U64 (U32 (U4 (U2 ([])))))
@[reducible] def mB : Type := Bool × Int × (Ty.T aZ) × Unit
def od (v : mB) {Z : Type} (κ : Nat × mB -> Option Z) : Option Z := cond (decide (v.2.1 < ((v.2.2.1.2.2.2.2.2.2).length : Int))) (if 0 <= v.2.1 then (ay ((v.2.2.1.2.2.2.2.2.2)[(v.2.1).toNat]?) (fun x1 => cond (!(jy x1)) (κ (1,(false,v.2.1,v.2.2.1,()))) (κ (0,(v.1,IntKind.wrap .i64 (v.2.1 + (1 : Int)),v.2.2.1,()))))) else none) (κ (2,(v.1,v.2.1,v.2.2.1,())))
def o3 (v : mB) : Option (Nat × mB) := od v some
def s9 (v : mB) : Nat := v.2.1.toNat + v.2.2.1.2.2.2.2.2.2.length + 100
def sB (h0 : Bool) (h1 : Int) (h2 : Ty.T aZ) (c : Nat) : Bool := iK o3 s9 (h0,h1,h2,()) c
def rb (h0 : Bool) (h1 : Int) (h2 : Ty.T aZ) : mB := iW o3 s9 (h0,h1,h2,())
def J4 (v : mB) : aL (Ex × St) := aM o3 (s9 v) v (ar wM bh) [.ret,.exit 1] 0
theorem N4 : aH Tryz.prog (aw (pb 17 81917) (ab Tryz.f243)) wM bh J4 := ag (lt := .none) y6.ok ak (af.no _) fun n v K => et (od v (bL _ _ _ _ _ K)) (by kernel_rfl) (show od v _ = (od v some).bind _ from (bC (bI (bO fun x1 => (bC rfl rfl))) rfl))
def xS (v : bm) (r : Bool) : Ex × St := (.normal,ar dx aB (r,()))
def pw (v : bm) {Z : Type} (κ : Bool -> Z) : Z := cond (v.2.1.2.1 == (0 : Int)) (cond (v.2.1.2.2.1 == (0 : Int)) (cond (v.2.1.2.2.2.1 == (-1 : Int)) (cond (v.2.1.2.2.2.2.1 == (0 : Int)) (cond (!v.2.1.2.2.2.2.2.1) (κ (aY ((v.2.1.2.2.2.2.2.2).length : Int) 1 3)) (κ false)) (κ false)) (κ false)) (κ false)) (κ false)
def we (v : bm) : Bool := pw v id
def KU (v : bm) : aL (Ex × St) := .done (xS v (we v))
theorem OW : bo Tryz.prog (aO (pb 17 49149) (ab Tryz.f243)) dw bh KU := bf (lt := .none) (sx := dx) (gx := aB) y6.ok ak (af.no _) fun v => et (pw v (sm (xS v))) (by kernel_rfl) (show pw v (sm (xS v)) = some (xS v (pw v id)) from (tC (tC (tC (tC (tC rfl rfl) rfl) rfl) rfl) rfl))
def Vu := y6.l (g := 243) (t := (aX (pb 17 49149) (ab Tryz.f243) (aX (pb 17 81917) (ab Tryz.f243) (aX (pb 14 4093) (ab Tryz.f243) (aX (pb 12 1021) (ab Tryz.f243) (aX (pb 10 253) (ab Tryz.f243) (aX (pb 8 61) (ab Tryz.f243) (aX (pb 6 13) (ab Tryz.f243) (aX (pb 5 21) (ab Tryz.f243) .none (.sum qD bh KD)) (.sum dw bh G0)) (.sum dw bh HQ)) (.sum dw bh IV)) (.sum dw bh Hd)) (.sum dw bh G4)) (.sum wM bh J4)) (.sum dw bh KU))) (aC Tryz.func243 (af.cX (aA (by kernel_rfl)) (af.zZ (by kernel_rfl) (aA (by kernel_rfl)) (af.cX (aA (by kernel_rfl)) (af.cX (aA (by kernel_rfl)) (af.cX (aA (by kernel_rfl)) (af.cX (aA (by kernel_rfl)) (af.cX (aA (by kernel_rfl)) (af.cX (aA (by kernel_rfl)) (af.no _) Oy) PN) O0) PF) O7) OO) N4) OW))
def t243 (a0 : Ty.T aZ) {Z : Type} (κ : Bool -> Option Z) : Option Z := cond (xx (false,a0.1,(a0.1 == (1 : Int)),a0,())) (κ (xG (false,a0,()))) (cond (a0.1 == (3 : Int)) (κ (xQ (false,a0,()))) (cond (a0.1 == (6 : Int)) (κ (yL (false,a0,()))) (cond (a0.1 == (7 : Int)) (κ (wu (false,a0,()))) (cond (a0.1 == (8 : Int)) (κ (yO (false,a0,()))) (cond (a0.1 == (9 : Int)) (cond (sB false 0 a0 0) (κ (rb false 0 a0).1) (cond (sB false 0 a0 1) (κ (we ((rb false 0 a0).1,(rb false 0 a0).2.2.1,()))) (none))) (κ false))))))
def ue (a0 : Ty.T aZ) : Bool := (t243 a0 some).getD false
def d243 (a0 : Ty.T aZ) : Bool := (t243 a0 some).isSome
def Ys : Prim := ⟨[.agg [.dat aZ true]],fun v => .br (d243 v.1) (.done (f243 (ue v.1))) .no⟩
theorem Sy : PO 243 Ys := pK Vu fun v => et ((t243 v.1 (sm f243))) (by kernel_rfl) (aN (show t243 v.1 (sm f243) = (t243 v.1 some).bind _ from by unfold t243; simp only [bb]))
def f244 (r : Bool) : AV × Sig := (.one (.bool r),[])
def Xk := (E0.p km)
def t244 (a0 : Ty.T aZ) (a1 : Int) {Z : Type} (κ : Bool -> Z) : Z := cond (!(aY a1 1 6)) (κ false) (cond (a0.1 == (2 : Int)) (cond (a0.1 == (2 : Int)) (κ (a1 == (1 : Int))) (cond (a0.1 == (3 : Int)) (cond (a0.1 == (3 : Int)) (κ (a1 != (2 : Int))) (cond (a0.1 == (7 : Int)) (cond (a0.1 == (7 : Int)) (κ (a1 == (2 : Int))) (cond (a0.1 == (1 : Int)) (κ true) (κ (a0.1 == (9 : Int))))) (cond (a0.1 == (8 : Int)) (κ (a1 == (2 : Int))) (cond (a0.1 == (1 : Int)) (κ true) (κ (a0.1 == (9 : Int))))))) (cond (a0.1 == (4 : Int)) (cond (a0.1 == (4 : Int)) (κ (a1 != (2 : Int))) (cond (a0.1 == (7 : Int)) (cond (a0.1 == (7 : Int)) (κ (a1 == (2 : Int))) (cond (a0.1 == (1 : Int)) (κ true) (κ (a0.1 == (9 : Int))))) (cond (a0.1 == (8 : Int)) (κ (a1 == (2 : Int))) (cond (a0.1 == (1 : Int)) (κ true) (κ (a0.1 == (9 : Int))))))) (cond (a0.1 == (5 : Int)) (κ (a1 != (2 : Int))) (cond (a0.1 == (7 : Int)) (cond (a0.1 == (7 : Int)) (κ (a1 == (2 : Int))) (cond (a0.1 == (1 : Int)) (κ true) (κ (a0.1 == (9 : Int))))) (cond (a0.1 == (8 : Int)) (κ (a1 == (2 : Int))) (cond (a0.1 == (1 : Int)) (κ true) (κ (a0.1 == (9 : Int)))))))))) (cond (a0.1 == (6 : Int)) (κ (a1 == (1 : Int))) (cond (a0.1 == (3 : Int)) (cond (a0.1 == (3 : Int)) (κ (a1 != (2 : Int))) (cond (a0.1 == (7 : Int)) (cond (a0.1 == (7 : Int)) (κ (a1 == (2 : Int))) (cond (a0.1 == (1 : Int)) (κ true) (κ (a0.1 == (9 : Int))))) (cond (a0.1 == (8 : Int)) (κ (a1 == (2 : Int))) (cond (a0.1 == (1 : Int)) (κ true) (κ (a0.1 == (9 : Int))))))) (cond (a0.1 == (4 : Int)) (cond (a0.1 == (4 : Int)) (κ (a1 != (2 : Int))) (cond (a0.1 == (7 : Int)) (cond (a0.1 == (7 : Int)) (κ (a1 == (2 : Int))) (cond (a0.1 == (1 : Int)) (κ true) (κ (a0.1 == (9 : Int))))) (cond (a0.1 == (8 : Int)) (κ (a1 == (2 : Int))) (cond (a0.1 == (1 : Int)) (κ true) (κ (a0.1 == (9 : Int))))))) (cond (a0.1 == (5 : Int)) (κ (a1 != (2 : Int))) (cond (a0.1 == (7 : Int)) (cond (a0.1 == (7 : Int)) (κ (a1 == (2 : Int))) (cond (a0.1 == (1 : Int)) (κ true) (κ (a0.1 == (9 : Int))))) (cond (a0.1 == (8 : Int)) (κ (a1 == (2 : Int))) (cond (a0.1 == (1 : Int)) (κ true) (κ (a0.1 == (9 : Int)))))))))))
def qw (a0 : Ty.T aZ) (a1 : Int) : Bool := t244 a0 a1 fun r => r
def XA : Prim := ⟨[.agg [.dat aZ true],oI],fun v => .done (f244 (qw v.1 v.2.1))⟩
theorem Na : PO 244 XA := pK Xk fun v => et ((t244 v.1 v.2.1 (sm f244))) (by kernel_rfl) (show t244 v.1 v.2.1 (sm f244) = some (f244 (t244 v.1 v.2.1 fun r => r)) from (tC rfl (tC (tC rfl (tC (tC rfl (tC (tC rfl (tC rfl rfl)) (tC rfl (tC rfl rfl)))) (tC (tC rfl (tC (tC rfl (tC rfl rfl)) (tC rfl (tC rfl rfl)))) (tC rfl (tC (tC rfl (tC rfl rfl)) (tC rfl (tC rfl rfl))))))) (tC rfl (tC (tC rfl (tC (tC rfl (tC rfl rfl)) (tC rfl (tC rfl rfl)))) (tC (tC rfl (tC (tC rfl (tC rfl rfl)) (tC rfl (tC rfl rfl)))) (tC rfl (tC (tC rfl (tC rfl rfl)) (tC rfl (tC rfl rfl))))))))))
def f200 (r : Bool) : AV × Sig := (.one (.bool r),[])
def ZN := (((((E0.p km).p M1).p MV).p Sy).p Na)
def t200 (a0 : Ty.T aa) {Z : Type} (κ : Bool -> Option Z) : Option Z := cond (!(aY a0.1 1 99)) (κ false) (cond (!(aY a0.2.1 0 2)) (κ false) (cond (!(aY a0.2.2.1 0 99)) (κ false) (cond (!(aY a0.2.2.2.1 0 4)) (κ false) (cond (!(aY a0.2.2.2.2.2.2.2.1 (-1) 9999)) (κ false) (cond (!(aY a0.2.2.2.2.2.2.2.2 (-1) 2147483647)) (κ false) (cond (a0.2.2.2.1 == (0 : Int)) (cond (a0.2.2.1 == (0 : Int)) (κ false) (cond (a0.2.2.2.2.2.2.1.1 == (2 : Int)) (cond (decide (a0.2.2.2.2.2.2.2.2 < (0 : Int))) (κ false) (cond (qt a0.2.2.2.2.1) (cond (sP a0.2.2.2.2.2.1) (cond (d243 a0.2.2.2.2.2.2.1) (cond (ue a0.2.2.2.2.2.2.1) (κ (qw a0.2.2.2.2.2.2.1 a0.2.2.2.2.1.1)) (κ false)) (none)) (κ false)) (κ false))) (cond (qt a0.2.2.2.2.1) (cond (sP a0.2.2.2.2.2.1) (cond (d243 a0.2.2.2.2.2.2.1) (cond (ue a0.2.2.2.2.2.2.1) (κ (qw a0.2.2.2.2.2.2.1 a0.2.2.2.2.1.1)) (κ false)) (none)) (κ false)) (κ false)))) (cond (a0.2.2.2.2.2.2.1.1 == (2 : Int)) (cond (decide (a0.2.2.2.2.2.2.2.2 < (0 : Int))) (κ false) (cond (qt a0.2.2.2.2.1) (cond (sP a0.2.2.2.2.2.1) (cond (d243 a0.2.2.2.2.2.2.1) (cond (ue a0.2.2.2.2.2.2.1) (κ (qw a0.2.2.2.2.2.2.1 a0.2.2.2.2.1.1)) (κ false)) (none)) (κ false)) (κ false))) (cond (qt a0.2.2.2.2.1) (cond (sP a0.2.2.2.2.2.1) (cond (d243 a0.2.2.2.2.2.2.1) (cond (ue a0.2.2.2.2.2.2.1) (κ (qw a0.2.2.2.2.2.2.1 a0.2.2.2.2.1.1)) (κ false)) (none)) (κ false)) (κ false)))))))))
def iu (a0 : Ty.T aa) : Bool := (t200 a0 some).getD false
def d200 (a0 : Ty.T aa) : Bool := (t200 a0 some).isSome
def Z5 : Prim := ⟨[.agg [.dat aa true]],fun v => .br (d200 v.1) (.done (f200 (iu v.1))) .no⟩
theorem KJ : PO 200 Z5 := pK ZN fun v => et ((t200 v.1 (sm f200))) (by kernel_rfl) (aN (show t200 v.1 (sm f200) = (t200 v.1 some).bind _ from by unfold t200; simp only [bb]))
def f130 (r : Bool) : AV × Sig := (.one (.bool r),[])
def U6 := (E0.p KJ)
@[reducible] def yd : List SP := .one (.dat (.sl 103 aa) true) :: .und :: .one (.dat .bool true) :: oI :: U32 (.und :: [])
@[reducible] def mg : Type := (List (Ty.T aa)) × Bool × Int × Unit
def lE (v : mg) {Z : Type} (κ : Nat × mg -> Option Z) : Option Z := cond (decide (v.2.2.1 < ((v.1).length : Int))) (if 0 <= v.2.2.1 then (ay ((v.1)[(v.2.2.1).toNat]?) (fun x1 => cond (d200 x1) (cond (!(iu x1)) (κ (1,(v.1,false,v.2.2.1,()))) (cond (decide (v.2.2.1 > (0 : Int))) (if 0 <= (IntKind.wrap .i64 (v.2.2.1 - (1 : Int))) then (ay ((v.1)[(IntKind.wrap .i64 (v.2.2.1 - (1 : Int))).toNat]?) (fun x2 => if 0 <= v.2.2.1 then (ay ((v.1)[(v.2.2.1).toNat]?) (fun x3 => cond (decide (x2.1 ≥ x3.1)) (κ (1,(v.1,false,v.2.2.1,()))) (κ (0,(v.1,v.2.1,IntKind.wrap .i64 (v.2.2.1 + (1 : Int)),()))))) else none)) else none) (κ (0,(v.1,v.2.1,IntKind.wrap .i64 (v.2.2.1 + (1 : Int)),()))))) (none))) else none) (κ (2,(v.1,v.2.1,v.2.2.1,())))
def iE (v : mg) : Option (Nat × mg) := lE v some
def pv (v : mg) : Nat := v.1.length + v.2.2.1.toNat + 100
def eX (h0 : List (Ty.T aa)) (h1 : Bool) (h2 : Int) (c : Nat) : Bool := iK iE pv (h0,h1,h2,()) c
def jI (h0 : List (Ty.T aa)) (h1 : Bool) (h2 : Int) : mg := iW iE pv (h0,h1,h2,())
def Jg (v : mg) : aL (Ex × St) := aM iE (pv v) v (ar yd aB) [.ret,.exit 0] 0
theorem Pc : aH Tryz.prog (aw (pb 3 5) (ab Tryz.f130)) yd aB Jg := ag (lt := .none) U6.ok ak (af.no _) fun n v K => et (lE v (bL _ _ _ _ _ K)) (by kernel_rfl) (show lE v _ = (lE v some).bind _ from (bC (bI (bO fun x1 => (bC (bC rfl (bC (bI (bO fun x2 => (bI (bO fun x3 => (bC rfl rfl))))) rfl)) rfl))) rfl))
def P9 := U6.l (g := 130) (t := (a9 (pb 3 5) (ab Tryz.f130) .none (.sum yd aB Jg))) (aC Tryz.func130 (af.put (aA (by kernel_rfl)) (af.no _) Pc))
def TT (a0 : List (Ty.T aa)) : Option (AV × Sig) := cond (eX a0 false 0 0) (some (.one (.bool (jI a0 false 0).2.1),[])) (cond (eX a0 false 0 1) (some (.one (.bool (decide ((((jI a0 false 0).1).length : Int) <= (5 : Int)))),[])) (none))
def xF (a0 : List (Ty.T aa)) : Bool := cond (eX a0 false 0 0) ((jI a0 false 0).2.1) (cond (eX a0 false 0 1) (decide ((((jI a0 false 0).1).length : Int) <= (5 : Int))) (false))
def d130 (a0 : List (Ty.T aa)) : Bool := cond (eX a0 false 0 0) (true) (cond (eX a0 false 0 1) (true) (false))
theorem XK (a0 : List (Ty.T aa)) : TT a0 = cond (d130 a0) (some (f130 (xF a0))) none := (pC (pS _) (pC (pS _) (pN _)))
def aby : Prim := ⟨[.one (.dat (.sl 103 aa) true)],fun v => .br (d130 v.1) (.done (f130 (xF v.1))) .no⟩
theorem RK : PO 130 aby := pK P9 fun v => et (TT v.1) (by kernel_rfl) (XK v.1)
def f249 (r : (Ty.T q0) × (List (Ty.T y48))) : AV × Sig := (.agg ((q0.cells false r.1) ++ [.sl 28672]),[(28672,.arr 56 y48 r.2 false)])
def aah := E0
def Sp (a0 : Ty.T aZ) : Option (AV × Sig) := if ([] ++ a0.2.2.2.2.2.2 : List (Ty.T y48)).length * 56 <= 140737488351232 then (some (.agg [.int .i64 a0.1,.int .i64 a0.2.1,.int .i64 a0.2.2.1,.int .i64 a0.2.2.2.1,.int .i64 a0.2.2.2.2.1,.bool a0.2.2.2.2.2.1,.sl 28672],[(28672,.arr 56 y48 ([] ++ a0.2.2.2.2.2.2) false)])) else none
def Ln (a0 : Ty.T aZ) : (Ty.T q0) × (List (Ty.T y48)) := ((a0.1,a0.2.1,a0.2.2.1,a0.2.2.2.1,a0.2.2.2.2.1,a0.2.2.2.2.2.1),[] ++ a0.2.2.2.2.2.2)
def d249 (a0 : Ty.T aZ) : Bool := decide (([] ++ a0.2.2.2.2.2.2 : List (Ty.T y48)).length * 56 <= 140737488351232) && (true)
theorem aae (a0 : Ty.T aZ) : Sp a0 = cond (d249 a0) (some (f249 (Ln a0))) none := (pI (pS _))
def WC : Prim := ⟨[.agg [.dat aZ true]],fun v => .br (d249 v.1) (.done (f249 (Ln v.1))) .no⟩
theorem Vz : PO 249 WC := pK aah fun v => et (Sp v.1) (by kernel_rfl) (aae v.1)
def f207 (r : (Ty.T q1) × (Ty.T y98) × (List (Ty.T y48))) : AV × Sig := (.agg ((q1.cells false r.1) ++ [.sl 81920] ++ (y98.cells false r.2.1)),[(81920,.arr 56 y48 r.2.2 false)])
def acj := (E0.p Vz)
def t207 (a0 : Ty.T aa) {Z : Type} (κ : (Ty.T q1) × (Ty.T y98) × (List (Ty.T y48)) -> Option Z) : Option Z := cond (d249 a0.2.2.2.2.2.2.1) (κ ((a0.1,a0.2.1,a0.2.2.1,a0.2.2.2.1,a0.2.2.2.2.1,a0.2.2.2.2.2.1,(Ln a0.2.2.2.2.2.2.1).1),a0.2.2.2.2.2.2.2,(Ln a0.2.2.2.2.2.2.1).2)) (none)
def bS (a0 : Ty.T aa) : (Ty.T q1) × (Ty.T y98) × (List (Ty.T y48)) := (t207 a0 some).getD ((Ty.zero q1),(Ty.zero y98),[])
def d207 (a0 : Ty.T aa) : Bool := (t207 a0 some).isSome
def YN : Prim := ⟨[.agg [.dat aa true]],fun v => .br (d207 v.1) (.done (f207 (bS v.1))) .no⟩
theorem E6 : PO 207 YN := pK acj fun v => et ((t207 v.1 (sm f207))) (by kernel_rfl) (aN (show t207 v.1 (sm f207) = (t207 v.1 some).bind _ from (bC rfl rfl)))
def f147 (r : (List (Ty.T aa))) : AV × Sig := (.one (.sl 4096),[(4096,.arr 103 aa r false)])
def Sk := (E0.p E6)
@[reducible] def yh : List SP := .one (.dat (.sl 103 aa) true) :: .und :: .one (.dat (.sl 103 aa) false) :: .one (.own 5) :: oI :: U16 ([])
@[reducible] def wm : List (Nat × GP) := [(5,.arr 103 aa false)]
@[reducible] def mq : Type := (List (Ty.T aa)) × (List (Ty.T aa)) × Int × (List (Ty.T aa)) × Unit
def pe (v : mq) {Z : Type} (κ : Nat × mq -> Option Z) : Option Z := cond (decide (v.2.2.1 < ((v.1).length : Int))) (if 0 <= v.2.2.1 then (ay ((v.1)[(v.2.2.1).toNat]?) (fun x1 => cond (d207 x1) (if (v.2.2.2.1 ++ [((bS x1).1.1,(bS x1).1.2.1,(bS x1).1.2.2.1,(bS x1).1.2.2.2.1,(bS x1).1.2.2.2.2.1,(bS x1).1.2.2.2.2.2.1,((bS x1).1.2.2.2.2.2.2.1,(bS x1).1.2.2.2.2.2.2.2.1,(bS x1).1.2.2.2.2.2.2.2.2.1,(bS x1).1.2.2.2.2.2.2.2.2.2.1,(bS x1).1.2.2.2.2.2.2.2.2.2.2.1,(bS x1).1.2.2.2.2.2.2.2.2.2.2.2,(bS x1).2.2),(bS x1).2.1)] : List (Ty.T aa)).length * 192 <= 140737488351232 then (κ (0,(v.1,v.2.1,IntKind.wrap .i64 (v.2.2.1 + (1 : Int)),v.2.2.2.1 ++ [((bS x1).1.1,(bS x1).1.2.1,(bS x1).1.2.2.1,(bS x1).1.2.2.2.1,(bS x1).1.2.2.2.2.1,(bS x1).1.2.2.2.2.2.1,((bS x1).1.2.2.2.2.2.2.1,(bS x1).1.2.2.2.2.2.2.2.1,(bS x1).1.2.2.2.2.2.2.2.2.1,(bS x1).1.2.2.2.2.2.2.2.2.2.1,(bS x1).1.2.2.2.2.2.2.2.2.2.2.1,(bS x1).1.2.2.2.2.2.2.2.2.2.2.2,(bS x1).2.2),(bS x1).2.1)],()))) else none) (none))) else none) (κ (1,(v.1,v.2.1,v.2.2.1,v.2.2.2.1,())))
def oD (v : mq) : Option (Nat × mq) := pe v some
def tH (v : mq) : Nat := v.1.length + v.2.1.length + v.2.2.1.toNat + v.2.2.2.1.length + 100
def xR (h0 : List (Ty.T aa)) (h1 : List (Ty.T aa)) (h2 : Int) (h3 : List (Ty.T aa)) (c : Nat) : Bool := iK oD tH (h0,h1,h2,h3,()) c
def DZ (h0 : List (Ty.T aa)) (h1 : List (Ty.T aa)) (h2 : Int) (h3 : List (Ty.T aa)) : mq := iW oD tH (h0,h1,h2,h3,())
def K1 (v : mq) : aL (Ex × St) := aM oD (tH v) v (ar yh wm) [.exit 0] 0
theorem Ob : aH Tryz.prog (aw (pb 4 11) (ab Tryz.f147)) yh wm K1 := ag (lt := .none) Sk.ok ak (af.no _) fun n v K => et (pe v (bL _ _ _ _ _ K)) (by kernel_rfl) (show pe v _ = (pe v some).bind _ from (bC (bI (bO fun x1 => (bC (bI rfl) rfl))) rfl))
def RW := Sk.l (g := 147) (t := (a9 (pb 4 11) (ab Tryz.f147) .none (.sum yh wm K1))) (aC Tryz.func147 (af.put (aA (by kernel_rfl)) (af.no _) Ob))
def Rr (a0 : List (Ty.T aa)) : Option (AV × Sig) := cond (xR a0 [] 0 [] 0) (some (.one (.sl 4096),[(4096,.arr 103 aa (DZ a0 [] 0 []).2.2.2.1 false)])) (none)
def gV (a0 : List (Ty.T aa)) : (List (Ty.T aa)) := cond (xR a0 [] 0 [] 0) ((DZ a0 [] 0 []).2.2.2.1) ([])
def d147 (a0 : List (Ty.T aa)) : Bool := cond (xR a0 [] 0 [] 0) (true) (false)
theorem abX (a0 : List (Ty.T aa)) : Rr a0 = cond (d147 a0) (some (f147 (gV a0))) none := (pC (pS _) (pN _))
def Xs : Prim := ⟨[.one (.dat (.sl 103 aa) true)],fun v => .br (d147 v.1) (.done (f147 (gV v.1))) .no⟩
theorem Ny : PO 147 Xs := pK RW fun v => et (Rr v.1) (by kernel_rfl) (abX v.1)
def f250 (r : Bool) : AV × Sig := (.one (.bool r),[])
def U7 := E0
@[reducible] def xI : List SP := .one (.dat (.sl 3 (.int .i64)) true) :: oI :: U2 (.one (.dat .bool true) :: oI :: U8 (U4 ([])))
@[reducible] def lA : Type := (List (Ty.T (.int .i64))) × Int × Bool × Int × Unit
def pD (v : lA) {Z : Type} (κ : Nat × lA -> Option Z) : Option Z := cond (decide (v.2.2.2.1 < ((v.1).length : Int))) (if 0 <= v.2.2.2.1 then (ay ((v.1)[(v.2.2.2.1).toNat]?) (fun x1 => cond (x1 == v.2.1) (κ (1,(v.1,v.2.1,true,v.2.2.2.1,()))) (κ (0,(v.1,v.2.1,v.2.2.1,IntKind.wrap .i64 (v.2.2.2.1 + (1 : Int)),()))))) else none) (κ (2,(v.1,v.2.1,v.2.2.1,v.2.2.2.1,())))
def nW (v : lA) : Option (Nat × lA) := pD v some
def rL (v : lA) : Nat := v.1.length + v.2.1.toNat + v.2.2.2.1.toNat + 100
def jj (h0 : List (Ty.T (.int .i64))) (h1 : Int) (h2 : Bool) (h3 : Int) (c : Nat) : Bool := iK nW rL (h0,h1,h2,h3,()) c
def DO (h0 : List (Ty.T (.int .i64))) (h1 : Int) (h2 : Bool) (h3 : Int) : lA := iW nW rL (h0,h1,h2,h3,())
def Ic (v : lA) : aL (Ex × St) := aM nW (rL v) v (ar xI aB) [.ret,.exit 0] 0
theorem Pk : aH Tryz.prog (aw (pb 3 5) (ab Tryz.f250)) xI aB Ic := ag (lt := .none) U7.ok ak (af.no _) fun n v K => et (pD v (bL _ _ _ _ _ K)) (by kernel_rfl) (show pD v _ = (pD v some).bind _ from (bC (bI (bO fun x1 => (bC rfl rfl))) rfl))
def Sg := U7.l (g := 250) (t := (a9 (pb 3 5) (ab Tryz.f250) .none (.sum xI aB Ic))) (aC Tryz.func250 (af.put (aA (by kernel_rfl)) (af.no _) Pk))
def VJ (a0 : List (Ty.T (.int .i64))) (a1 : Int) : Option (AV × Sig) := cond (jj a0 a1 false 0 0) (some (.one (.bool (DO a0 a1 false 0).2.2.1),[])) (cond (jj a0 a1 false 0 1) (some (.one (.bool false),[])) (none))
def Ak (a0 : List (Ty.T (.int .i64))) (a1 : Int) : Bool := cond (jj a0 a1 false 0 0) ((DO a0 a1 false 0).2.2.1) (cond (jj a0 a1 false 0 1) (false) (false))
def d250 (a0 : List (Ty.T (.int .i64))) (a1 : Int) : Bool := cond (jj a0 a1 false 0 0) (true) (cond (jj a0 a1 false 0 1) (true) (false))
theorem Xd (a0 : List (Ty.T (.int .i64))) (a1 : Int) : VJ a0 a1 = cond (d250 a0 a1) (some (f250 (Ak a0 a1))) none := (pC (pS _) (pC (pS _) (pN _)))
def XY : Prim := ⟨[.one (.dat (.sl 3 (.int .i64)) true),oI],fun v => .br (d250 v.1 v.2.1) (.done (f250 (Ak v.1 v.2.1))) .no⟩
theorem Ng : PO 250 XY := pK Sg fun v => et (VJ v.1 v.2.1) (by kernel_rfl) (Xd v.1 v.2.1)
def f279 (r : Bool) : AV × Sig := (.one (.bool r),[])
def aba := E0
def TC (a0 : Ty.T aa) (a1 : Int) : Option (AV × Sig) := cond (a0.2.2.2.2.2.2.2.2 != (0 : Int)) (cond (a0.2.2.2.2.2.2.2.1 == (-1 : Int)) (some (.one (.bool true),[])) (some (.one (.bool (decide (a0.2.2.2.2.2.2.2.1 ≥ a1))),[]))) (some (.one (.bool false),[]))
def GR (a0 : Ty.T aa) (a1 : Int) : Bool := cond (a0.2.2.2.2.2.2.2.2 != (0 : Int)) (cond (a0.2.2.2.2.2.2.2.1 == (-1 : Int)) (true) (decide (a0.2.2.2.2.2.2.2.1 ≥ a1))) (false)
theorem X8 (a0 : Ty.T aa) (a1 : Int) : TC a0 a1 = some (f279 (GR a0 a1)) := (tC (tC rfl rfl) rfl)
def V9 : Prim := ⟨[.agg [.dat aa true],oI],fun v => .done (f279 (GR v.1 v.2.1))⟩
theorem Th : PO 279 V9 := pK aba fun v => et (TC v.1 v.2.1) (by kernel_rfl) (X8 v.1 v.2.1)
def f280 (r : Bool) : AV × Sig := (.one (.bool r),[])
def aax := E0
def SK (a0 : Ty.T aa) (a1 : Ty.T y48) : Option (AV × Sig) := cond (a0.2.2.2.1 != (0 : Int)) (some (.one (.bool true),[])) (cond (a0.2.2.1 == a1.2.1) (some (.one (.bool true),[])) (some (.one (.bool (a0.2.2.1 == a1.2.2.1)),[])))
def FV (a0 : Ty.T aa) (a1 : Ty.T y48) : Bool := cond (a0.2.2.2.1 != (0 : Int)) (true) (cond (a0.2.2.1 == a1.2.1) (true) ((a0.2.2.1 == a1.2.2.1)))
theorem aau (a0 : Ty.T aa) (a1 : Ty.T y48) : SK a0 a1 = some (f280 (FV a0 a1)) := (tC rfl (tC rfl rfl))
def Wz : Prim := ⟨[.agg [.dat aa true],.agg [.dat y48 true]],fun v => .done (f280 (FV v.1 v.2.1))⟩
theorem Sx : PO 280 Wz := pK aax fun v => et (SK v.1 v.2.1) (by kernel_rfl) (aau v.1 v.2.1)
def f296 (r : Int) : AV × Sig := (.one (.int .i64 r),[])
def QG := E0
@[reducible] def xn : List SP := .und :: oI :: .one (.ptr 2 0) :: .und :: oI :: oI :: oI :: U16 (U8 (U2 (.und :: [])))
@[reducible] def fp : List (Nat × GP) := [(2,.box 37 [.dat y36 true])]
@[reducible] def ef : Type := Int × Int × Int × Int × (Ty.T y36) × Unit
def pR (v : ef) {Z : Type} (κ : Nat × ef -> Option Z) : Option Z := cond (decide (v.2.2.2.1 < ((v.2.2.2.2.1.1).length : Int))) (if 0 <= v.2.2.2.1 then (ay ((v.2.2.2.2.1.1)[(v.2.2.2.1).toNat]?) (fun x1 => cond (x1.2.2.2.1 == (2 : Int)) (if 0 <= v.2.2.2.1 then (ay ((v.2.2.2.2.1.1)[(v.2.2.2.1).toNat]?) (fun x2 => cond (x2.2.2.1 == v.1) (κ (0,(v.1,v.2.1,IntKind.wrap .i64 (v.2.2.1 + (1 : Int)),IntKind.wrap .i64 (v.2.2.2.1 + (1 : Int)),v.2.2.2.2.1,()))) (κ (0,(v.1,v.2.1,v.2.2.1,IntKind.wrap .i64 (v.2.2.2.1 + (1 : Int)),v.2.2.2.2.1,()))))) else none) (κ (0,(v.1,v.2.1,v.2.2.1,IntKind.wrap .i64 (v.2.2.2.1 + (1 : Int)),v.2.2.2.2.1,()))))) else none) (κ (1,(v.1,v.2.1,v.2.2.1,v.2.2.2.1,v.2.2.2.2.1,())))
def pn (v : ef) : Option (Nat × ef) := pR v some
def sY (v : ef) : Nat := v.1.toNat + v.2.1.toNat + v.2.2.1.toNat + v.2.2.2.1.toNat + v.2.2.2.2.1.1.length + v.2.2.2.2.1.2.1.length + 100
def yB (h0 : Int) (h1 : Int) (h2 : Int) (h3 : Int) (h4 : Ty.T y36) (c : Nat) : Bool := iK pn sY (h0,h1,h2,h3,h4,()) c
def CJ (h0 : Int) (h1 : Int) (h2 : Int) (h3 : Int) (h4 : Ty.T y36) : ef := iW pn sY (h0,h1,h2,h3,h4,())
def Kg (v : ef) : aL (Ex × St) := aM pn (sY v) v (ar xn fp) [.exit 0] 0
theorem OK : aH Tryz.prog (aw (pb 4 11) (ab Tryz.f296)) xn fp Kg := ag (lt := .none) QG.ok ak (af.no _) fun n v K => et (pR v (bL _ _ _ _ _ K)) (by kernel_rfl) (show pR v _ = (pR v some).bind _ from (bC (bI (bO fun x1 => (bC (bI (bO fun x2 => (bC rfl rfl))) rfl))) rfl))
def Ss := QG.l (g := 296) (t := (a9 (pb 4 11) (ab Tryz.f296) .none (.sum xn fp Kg))) (aC Tryz.func296 (af.put (aA (by kernel_rfl)) (af.no _) OK))
def UO (a0 : Ty.T y36) (a1 : Int) : Option (AV × Sig) := cond (yB a1 0 0 0 a0 0) (some (.one (.int .i64 (CJ a1 0 0 0 a0).2.2.1),[])) (none)
def IX (a0 : Ty.T y36) (a1 : Int) : Int := cond (yB a1 0 0 0 a0 0) ((CJ a1 0 0 0 a0).2.2.1) (0)
def d296 (a0 : Ty.T y36) (a1 : Int) : Bool := cond (yB a1 0 0 0 a0 0) (true) (false)
theorem WH (a0 : Ty.T y36) (a1 : Int) : UO a0 a1 = cond (d296 a0 a1) (some (f296 (IX a0 a1))) none := (pC (pS _) (pN _))
def acw : Prim := ⟨[.agg [.dat y36 true],oI],fun v => .br (d296 v.1 v.2.1) (.done (f296 (IX v.1 v.2.1))) .no⟩
theorem UG : PO 296 acw := pK Ss fun v => et (UO v.1 v.2.1) (by kernel_rfl) (WH v.1 v.2.1)
def f297 (r : Int) : AV × Sig := (.one (.int .i64 r),[])
def VA := E0
@[reducible] def w7 : List SP := .und :: oI :: .one (.ptr 2 0) :: .und :: oI :: oI :: oI :: U32 (U2 (.und :: []))
def oh (v : ef) {Z : Type} (κ : Nat × ef -> Option Z) : Option Z := cond (decide (v.2.2.2.1 < ((v.2.2.2.2.1.1).length : Int))) (if 0 <= v.2.2.2.1 then (ay ((v.2.2.2.2.1.1)[(v.2.2.2.1).toNat]?) (fun x1 => cond (x1.2.2.2.1 == (2 : Int)) (if 0 <= v.2.2.2.1 then (ay ((v.2.2.2.2.1.1)[(v.2.2.2.1).toNat]?) (fun x2 => cond (x2.2.2.1 == v.1) (if 0 <= v.2.2.2.1 then (ay ((v.2.2.2.2.1.1)[(v.2.2.2.1).toNat]?) (fun x3 => cond x3.2.2.2.2.2.2.2.2.2.2.2.2 (κ (0,(v.1,v.2.1,IntKind.wrap .i64 (v.2.2.1 + (1 : Int)),IntKind.wrap .i64 (v.2.2.2.1 + (1 : Int)),v.2.2.2.2.1,()))) (κ (0,(v.1,v.2.1,v.2.2.1,IntKind.wrap .i64 (v.2.2.2.1 + (1 : Int)),v.2.2.2.2.1,()))))) else none) (κ (0,(v.1,v.2.1,v.2.2.1,IntKind.wrap .i64 (v.2.2.2.1 + (1 : Int)),v.2.2.2.2.1,()))))) else none) (κ (0,(v.1,v.2.1,v.2.2.1,IntKind.wrap .i64 (v.2.2.2.1 + (1 : Int)),v.2.2.2.2.1,()))))) else none) (κ (1,(v.1,v.2.1,v.2.2.1,v.2.2.2.1,v.2.2.2.2.1,())))
def pH (v : ef) : Option (Nat × ef) := oh v some
def qN (v : ef) : Nat := v.1.toNat + v.2.1.toNat + v.2.2.1.toNat + v.2.2.2.1.toNat + v.2.2.2.2.1.1.length + v.2.2.2.2.1.2.1.length + 100
def xy (h0 : Int) (h1 : Int) (h2 : Int) (h3 : Int) (h4 : Ty.T y36) (c : Nat) : Bool := iK pH qN (h0,h1,h2,h3,h4,()) c
def Ct (h0 : Int) (h1 : Int) (h2 : Int) (h3 : Int) (h4 : Ty.T y36) : ef := iW pH qN (h0,h1,h2,h3,h4,())
def HR (v : ef) : aL (Ex × St) := aM pH (qN v) v (ar w7 fp) [.exit 0] 0
theorem Pq : aH Tryz.prog (aw (pb 4 11) (ab Tryz.f297)) w7 fp HR := ag (lt := .none) VA.ok ak (af.no _) fun n v K => et (oh v (bL _ _ _ _ _ K)) (by kernel_rfl) (show oh v _ = (oh v some).bind _ from (bC (bI (bO fun x1 => (bC (bI (bO fun x2 => (bC (bI (bO fun x3 => (bC rfl rfl))) rfl))) rfl))) rfl))
def Vp := VA.l (g := 297) (t := (a9 (pb 4 11) (ab Tryz.f297) .none (.sum w7 fp HR))) (aC Tryz.func297 (af.put (aA (by kernel_rfl)) (af.no _) Pq))
def Tf (a0 : Ty.T y36) (a1 : Int) : Option (AV × Sig) := cond (xy a1 0 0 0 a0 0) (some (.one (.int .i64 (Ct a1 0 0 0 a0).2.2.1),[])) (none)
def KZ (a0 : Ty.T y36) (a1 : Int) : Int := cond (xy a1 0 0 0 a0 0) ((Ct a1 0 0 0 a0).2.2.1) (0)
def d297 (a0 : Ty.T y36) (a1 : Int) : Bool := cond (xy a1 0 0 0 a0 0) (true) (false)
theorem WD (a0 : Ty.T y36) (a1 : Int) : Tf a0 a1 = cond (d297 a0 a1) (some (f297 (KZ a0 a1))) none := (pC (pS _) (pN _))
def XQ : Prim := ⟨[.agg [.dat y36 true],oI],fun v => .br (d297 v.1 v.2.1) (.done (f297 (KZ v.1 v.2.1))) .no⟩
theorem UN : PO 297 XQ := pK Vp fun v => et (Tf v.1 v.2.1) (by kernel_rfl) (WD v.1 v.2.1)
def f281 (r : Bool) : AV × Sig := (.one (.bool r),[])
def Yy := ((((E0.p km).p MV).p UG).p UN)
def t281 (a0 : Ty.T y36) (a1 : Int) (a2 : Ty.T y98) {Z : Type} (κ : Bool -> Option Z) : Option Z := cond (!(sP a2)) (κ false) (cond (!(aY a1 0 (IntKind.wrap .i64 (((a0.2.1).length : Int) - (1 : Int))))) (κ false) (cond (a2.1 == (1 : Int)) (if 0 <= a1 then (ay ((a0.2.1)[(a1).toNat]?) (fun x1 => κ (decide (x1.1 <= a2.2)))) else none) (cond (a2.1 == (2 : Int)) (cond (d296 a0 a1) (κ (decide ((IX a0 a1) ≥ a2.2))) (none)) (cond (a2.1 == (3 : Int)) (κ (a0.2.2.1 == a1)) (cond (a2.1 == (4 : Int)) (cond (d297 a0 a1) (κ (decide ((KZ a0 a1) ≥ a2.2))) (none)) (κ true))))))
def GD (a0 : Ty.T y36) (a1 : Int) (a2 : Ty.T y98) : Bool := (t281 a0 a1 a2 some).getD false
def d281 (a0 : Ty.T y36) (a1 : Int) (a2 : Ty.T y98) : Bool := (t281 a0 a1 a2 some).isSome
def ace : Prim := ⟨[.agg [.dat y36 true],oI,.agg [.dat y98 true]],fun v => .br (d281 v.1 v.2.1 v.2.2.1) (.done (f281 (GD v.1 v.2.1 v.2.2.1))) .no⟩
theorem S5 : PO 281 ace := pK Yy fun v => et ((t281 v.1 v.2.1 v.2.2.1 (sm f281))) (by kernel_rfl) (aN (show t281 v.1 v.2.1 v.2.2.1 (sm f281) = (t281 v.1 v.2.1 v.2.2.1 some).bind _ from by unfold t281; simp only [bb]))
def f285 (r : Int) : AV × Sig := (.one (.int .i64 r),[])
def Vd := E0
@[reducible] def yx : List SP := .und :: oI :: .one (.ptr 2 0) :: .und :: oI :: oI :: U16 ([])
@[reducible] def lI : Type := Int × Int × Int × (Ty.T y36) × Unit
def oy (v : lI) {Z : Type} (κ : Nat × lI -> Option Z) : Option Z := cond (decide (v.2.2.1 < ((v.2.2.2.1.1).length : Int))) (if 0 <= v.2.2.1 then (ay ((v.2.2.2.1.1)[(v.2.2.1).toNat]?) (fun x1 => cond (x1.1 == v.1) (κ (1,(v.1,v.2.2.1,v.2.2.1,v.2.2.2.1,()))) (κ (0,(v.1,v.2.1,IntKind.wrap .i64 (v.2.2.1 + (1 : Int)),v.2.2.2.1,()))))) else none) (κ (2,(v.1,v.2.1,v.2.2.1,v.2.2.2.1,())))
def nR (v : lI) : Option (Nat × lI) := oy v some
def sZ (v : lI) : Nat := v.1.toNat + v.2.1.toNat + v.2.2.1.toNat + v.2.2.2.1.1.length + v.2.2.2.1.2.1.length + 100
def iC (h0 : Int) (h1 : Int) (h2 : Int) (h3 : Ty.T y36) (c : Nat) : Bool := iK nR sZ (h0,h1,h2,h3,()) c
def CG (h0 : Int) (h1 : Int) (h2 : Int) (h3 : Ty.T y36) : lI := iW nR sZ (h0,h1,h2,h3,())
def Ia (v : lI) : aL (Ex × St) := aM nR (sZ v) v (ar yx fp) [.ret,.exit 0] 0
theorem Od : aH Tryz.prog (aw (pb 3 5) (ab Tryz.f285)) yx fp Ia := ag (lt := .none) Vd.ok ak (af.no _) fun n v K => et (oy v (bL _ _ _ _ _ K)) (by kernel_rfl) (show oy v _ = (oy v some).bind _ from (bC (bI (bO fun x1 => (bC rfl rfl))) rfl))
def TS := Vd.l (g := 285) (t := (a9 (pb 3 5) (ab Tryz.f285) .none (.sum yx fp Ia))) (aC Tryz.func285 (af.put (aA (by kernel_rfl)) (af.no _) Od))
def Sv (a0 : Ty.T y36) (a1 : Int) : Option (AV × Sig) := cond (iC a1 0 0 a0 0) (some (.one (.int .i64 (CG a1 0 0 a0).2.1),[])) (cond (iC a1 0 0 a0 1) (some (.one (.int .i64 (-1)),[])) (none))
def iT (a0 : Ty.T y36) (a1 : Int) : Int := cond (iC a1 0 0 a0 0) ((CG a1 0 0 a0).2.1) (cond (iC a1 0 0 a0 1) ((-1)) (0))
def d285 (a0 : Ty.T y36) (a1 : Int) : Bool := cond (iC a1 0 0 a0 0) (true) (cond (iC a1 0 0 a0 1) (true) (false))
theorem ack (a0 : Ty.T y36) (a1 : Int) : Sv a0 a1 = cond (d285 a0 a1) (some (f285 (iT a0 a1))) none := (pC (pS _) (pC (pS _) (pN _)))
def ZR : Prim := ⟨[.agg [.dat y36 true],oI],fun v => .br (d285 v.1 v.2.1) (.done (f285 (iT v.1 v.2.1))) .no⟩
theorem NS : PO 285 ZR := pK TS fun v => et (Sv v.1 v.2.1) (by kernel_rfl) (ack v.1 v.2.1)
def f257 (r : Int) : AV × Sig := (.one (.int .i64 r),[])
def Yf := ((E0.p km).p NS)
def QT (a0 : Ty.T y36) (a1 : Ty.T y48) : Option (AV × Sig) := cond (a1.2.2.1 == (0 : Int)) (cond (!(aY a1.2.2.2.1 0 (IntKind.wrap .i64 (((a0.2.1).length : Int) - (1 : Int))))) (some (.one (.int .i64 (-1)),[])) (some (.one (.int .i64 a1.2.2.2.1),[]))) (cond (d285 a0 a1.2.2.1) (cond (decide ((iT a0 a1.2.2.1) < (0 : Int))) (some (.one (.int .i64 (-1)),[])) (if 0 <= (iT a0 a1.2.2.1) then (ay ((a0.1)[(iT a0 a1.2.2.1).toNat]?) (fun x1 => some (.one (.int .i64 x1.2.2.1),[]))) else none)) (none))
def mV (a0 : Ty.T y36) (a1 : Ty.T y48) : Int := cond (a1.2.2.1 == (0 : Int)) (cond (!(aY a1.2.2.2.1 0 (IntKind.wrap .i64 (((a0.2.1).length : Int) - (1 : Int))))) ((-1)) (a1.2.2.2.1)) (cond (d285 a0 a1.2.2.1) (cond (decide ((iT a0 a1.2.2.1) < (0 : Int))) ((-1)) (qS ((a0.1)[(iT a0 a1.2.2.1).toNat]?) 0 (fun x1 => x1.2.2.1))) (0))
def d257 (a0 : Ty.T y36) (a1 : Ty.T y48) : Bool := cond (a1.2.2.1 == (0 : Int)) (cond (!(aY a1.2.2.2.1 0 (IntKind.wrap .i64 (((a0.2.1).length : Int) - (1 : Int))))) (true) (true)) (cond (d285 a0 a1.2.2.1) (cond (decide ((iT a0 a1.2.2.1) < (0 : Int))) (true) (decide (0 <= (iT a0 a1.2.2.1)) && (o9 ((a0.1)[(iT a0 a1.2.2.1).toNat]?) (fun x1 => true)))) (false))
theorem Z8 (a0 : Ty.T y36) (a1 : Ty.T y48) : QT a0 a1 = cond (d257 a0 a1) (some (f257 (mV a0 a1))) none := (pC (pC (pS _) (pS _)) (pC (pC (pS _) (pI (pO fun x1 => (pS _)))) (pN _)))
def aag : Prim := ⟨[.agg [.dat y36 true],.agg [.dat y48 true]],fun v => .br (d257 v.1 v.2.1) (.done (f257 (mV v.1 v.2.1))) .no⟩
theorem NG : PO 257 aag := pK Yf fun v => et (QT v.1 v.2.1) (by kernel_rfl) (Z8 v.1 v.2.1)
def f298 (r : Bool) : AV × Sig := (.one (.bool r),[])
def ZI := (E0.p NG)
def DM (a0 : Ty.T y36) (a1 : Int) (a2 : Ty.T y96) (a3 : Ty.T y48) {Z : Type} (κ : Bool -> Option Z) : Option Z := cond (d257 a0 a3) (cond ((mV a0 a3) == (-1 : Int)) (κ false) (cond (a2.2.1 == (1 : Int)) (cond ((mV a0 a3) != a1) (κ false) (cond (a2.2.1 == (2 : Int)) (cond ((mV a0 a3) == a1) (κ false) (cond (a2.2.2.2.2.1 == (0 : Int)) (κ true) (κ (a2.2.2.2.2.1 == a3.2.2.1)))) (cond (a2.2.2.2.2.1 == (0 : Int)) (κ true) (κ (a2.2.2.2.2.1 == a3.2.2.1))))) (cond (a2.2.1 == (2 : Int)) (cond ((mV a0 a3) == a1) (κ false) (cond (a2.2.2.2.2.1 == (0 : Int)) (κ true) (κ (a2.2.2.2.2.1 == a3.2.2.1)))) (cond (a2.2.2.2.2.1 == (0 : Int)) (κ true) (κ (a2.2.2.2.2.1 == a3.2.2.1)))))) (none)
def Gp (a0 : Ty.T y36) (a1 : Int) (a2 : Ty.T y96) (a3 : Ty.T y48) : Bool := (DM a0 a1 a2 a3 some).getD false
def d298 (a0 : Ty.T y36) (a1 : Int) (a2 : Ty.T y96) (a3 : Ty.T y48) : Bool := (DM a0 a1 a2 a3 some).isSome
def YG : Prim := ⟨[.agg [.dat y36 true],oI,.agg [.dat y96 true],.agg [.dat y48 true]],fun v => .br (d298 v.1 v.2.1 v.2.2.1 v.2.2.2.1) (.done (f298 (Gp v.1 v.2.1 v.2.2.1 v.2.2.2.1))) .no⟩
theorem QE : PO 298 YG := pK ZI fun v => et ((DM v.1 v.2.1 v.2.2.1 v.2.2.2.1 (sm f298))) (by kernel_rfl) (aN (show DM v.1 v.2.1 v.2.2.1 v.2.2.2.1 (sm f298) = (DM v.1 v.2.1 v.2.2.1 v.2.2.2.1 some).bind _ from by unfold DM; simp only [bb]))
def f304 (r : (Ty.T ah)) : AV × Sig := (.agg (ah.cells false r),[])
def abh := (E0.p NS)
def zt (a0 : Ty.T y36) (a1 : Ty.T y48) {Z : Type} (κ : (Ty.T ah) -> Option Z) : Option Z := cond (d285 a0 a1.2.1) (cond (a1.1 != (1 : Int)) (κ (0,0,0,0,0,0,0,0,0,0,0,false,false)) (cond (decide ((iT a0 a1.2.1) < (0 : Int))) (κ (0,0,0,0,0,0,0,0,0,0,0,false,false)) (if 0 <= (iT a0 a1.2.1) then (ay ((a0.1)[(iT a0 a1.2.1).toNat]?) (fun x1 => κ x1)) else none))) (none)
def DW (a0 : Ty.T y36) (a1 : Ty.T y48) : (Ty.T ah) := (zt a0 a1 some).getD (Ty.zero ah)
def d304 (a0 : Ty.T y36) (a1 : Ty.T y48) : Bool := (zt a0 a1 some).isSome
def VZ : Prim := ⟨[.agg [.dat y36 true],.agg [.dat y48 true]],fun v => .br (d304 v.1 v.2.1) (.done (f304 (DW v.1 v.2.1))) .no⟩
theorem R3 : PO 304 VZ := pK abh fun v => et ((zt v.1 v.2.1 (sm f304))) (by kernel_rfl) (aN (show zt v.1 v.2.1 (sm f304) = (zt v.1 v.2.1 some).bind _ from (bC (bC rfl (bC rfl (bI (bO fun x1 => rfl)))) rfl)))
def f299 (r : Bool) : AV × Sig := (.one (.bool r),[])
def XZ := (E0.p R3)
def Qs (a0 : Ty.T y36) (a1 : Ty.T y96) (a2 : Ty.T y48) : Option (AV × Sig) := cond (a1.2.2.1 == (0 : Int)) (cond (d304 a0 a2) (some (.one (.bool ((IntKind.wrap .i64 ((BitVec.ofInt (IntKind.bits .i64) (DW a0 a2).2.2.2.2.2.2.2.1 &&& BitVec.ofInt (IntKind.bits .i64) a1.2.2.2.1).toNat : Int)) == a1.2.2.2.1)),[])) (none)) (cond (a1.2.2.1 == a2.2.1) (cond (d304 a0 a2) (some (.one (.bool ((IntKind.wrap .i64 ((BitVec.ofInt (IntKind.bits .i64) (DW a0 a2).2.2.2.2.2.2.2.1 &&& BitVec.ofInt (IntKind.bits .i64) a1.2.2.2.1).toNat : Int)) == a1.2.2.2.1)),[])) (none)) (some (.one (.bool false),[])))
def Br (a0 : Ty.T y36) (a1 : Ty.T y96) (a2 : Ty.T y48) : Bool := cond (a1.2.2.1 == (0 : Int)) (cond (d304 a0 a2) (((IntKind.wrap .i64 ((BitVec.ofInt (IntKind.bits .i64) (DW a0 a2).2.2.2.2.2.2.2.1 &&& BitVec.ofInt (IntKind.bits .i64) a1.2.2.2.1).toNat : Int)) == a1.2.2.2.1)) (false)) (cond (a1.2.2.1 == a2.2.1) (cond (d304 a0 a2) (((IntKind.wrap .i64 ((BitVec.ofInt (IntKind.bits .i64) (DW a0 a2).2.2.2.2.2.2.2.1 &&& BitVec.ofInt (IntKind.bits .i64) a1.2.2.2.1).toNat : Int)) == a1.2.2.2.1)) (false)) (false))
def d299 (a0 : Ty.T y36) (a1 : Ty.T y96) (a2 : Ty.T y48) : Bool := cond (a1.2.2.1 == (0 : Int)) (cond (d304 a0 a2) (true) (false)) (cond (a1.2.2.1 == a2.2.1) (cond (d304 a0 a2) (true) (false)) (true))
theorem Xv (a0 : Ty.T y36) (a1 : Ty.T y96) (a2 : Ty.T y48) : Qs a0 a1 a2 = cond (d299 a0 a1 a2) (some (f299 (Br a0 a1 a2))) none := (pC (pC (pS _) (pN _)) (pC (pC (pS _) (pN _)) (pS _)))
def XW : Prim := ⟨[.agg [.dat y36 true],.agg [.dat y96 true],.agg [.dat y48 true]],fun v => .br (d299 v.1 v.2.1 v.2.2.1) (.done (f299 (Br v.1 v.2.1 v.2.2.1))) .no⟩
theorem Ul : PO 299 XW := pK XZ fun v => et (Qs v.1 v.2.1 v.2.2.1) (by kernel_rfl) (Xv v.1 v.2.1 v.2.2.1)
def f282 (r : Bool) : AV × Sig := (.one (.bool r),[])
def aaT := ((((E0.p E7).p M1).p QE).p Ul)
def UK (a0 : Ty.T y36) (a1 : Int) (a2 : Ty.T y96) (a3 : Ty.T y48) : Option (AV × Sig) := cond (qt a2) (cond (dO a3) (cond (a2.1 == a3.1) (cond (d298 a0 a1 a2 a3) (cond (Gp a0 a1 a2 a3) (cond (d299 a0 a2 a3) (cond (Br a0 a2 a3) (cond (decide (a3.2.2.2.2.1 ≥ a2.2.2.2.2.2.1)) (cond (a2.2.2.2.2.2.2 == (0 : Int)) (some (.one (.bool true),[])) (some (.one (.bool (a2.2.2.2.2.2.2 == a3.2.2.2.2.2.1)),[]))) (some (.one (.bool false),[]))) (some (.one (.bool false),[]))) (none)) (some (.one (.bool false),[]))) (none)) (some (.one (.bool false),[]))) (some (.one (.bool false),[]))) (some (.one (.bool false),[]))
def Gb (a0 : Ty.T y36) (a1 : Int) (a2 : Ty.T y96) (a3 : Ty.T y48) : Bool := cond (qt a2) (cond (dO a3) (cond (a2.1 == a3.1) (cond (d298 a0 a1 a2 a3) (cond (Gp a0 a1 a2 a3) (cond (d299 a0 a2 a3) (cond (Br a0 a2 a3) (cond (decide (a3.2.2.2.2.1 ≥ a2.2.2.2.2.2.1)) (cond (a2.2.2.2.2.2.2 == (0 : Int)) (true) ((a2.2.2.2.2.2.2 == a3.2.2.2.2.2.1))) (false)) (false)) (false)) (false)) (false)) (false)) (false)) (false)
def d282 (a0 : Ty.T y36) (a1 : Int) (a2 : Ty.T y96) (a3 : Ty.T y48) : Bool := cond (qt a2) (cond (dO a3) (cond (a2.1 == a3.1) (cond (d298 a0 a1 a2 a3) (cond (Gp a0 a1 a2 a3) (cond (d299 a0 a2 a3) (cond (Br a0 a2 a3) (cond (decide (a3.2.2.2.2.1 ≥ a2.2.2.2.2.2.1)) (cond (a2.2.2.2.2.2.2 == (0 : Int)) (true) (true)) (true)) (true)) (false)) (true)) (false)) (true)) (true)) (true)
theorem aal (a0 : Ty.T y36) (a1 : Int) (a2 : Ty.T y96) (a3 : Ty.T y48) : UK a0 a1 a2 a3 = cond (d282 a0 a1 a2 a3) (some (f282 (Gb a0 a1 a2 a3))) none := (pC (pC (pC (pC (pC (pC (pC (pC (pC (pS _) (pS _)) (pS _)) (pS _)) (pN _)) (pS _)) (pN _)) (pS _)) (pS _)) (pS _))
def W6 : Prim := ⟨[.agg [.dat y36 true],oI,.agg [.dat y96 true],.agg [.dat y48 true]],fun v => .br (d282 v.1 v.2.1 v.2.2.1 v.2.2.2.1) (.done (f282 (Gb v.1 v.2.1 v.2.2.1 v.2.2.2.1))) .no⟩
theorem Vq : PO 282 W6 := pK aaT fun v => et (UK v.1 v.2.1 v.2.2.1 v.2.2.2.1) (by kernel_rfl) (aal v.1 v.2.1 v.2.2.1 v.2.2.2.1)
def f251 (r : Bool) : AV × Sig := (.one (.bool r),[])
def abB := (((((E0.p KJ).p Th).p Sx).p S5).p Vq)
def PT (a0 : Ty.T y36) (a1 : Ty.T aa) (a2 : Ty.T y48) : Option (AV × Sig) := cond (d200 a1) (cond (iu a1) (cond (GR a1 a0.2.2.2) (cond (FV a1 a2) (cond (d281 a0 a1.2.1 a1.2.2.2.2.2.1) (cond (GD a0 a1.2.1 a1.2.2.2.2.2.1) (cond (d282 a0 a1.2.1 a1.2.2.2.2.1 a2) (some (.one (.bool (Gb a0 a1.2.1 a1.2.2.2.2.1 a2)),[])) (none)) (some (.one (.bool false),[]))) (none)) (some (.one (.bool false),[]))) (some (.one (.bool false),[]))) (some (.one (.bool false),[]))) (none)
def pq (a0 : Ty.T y36) (a1 : Ty.T aa) (a2 : Ty.T y48) : Bool := cond (d200 a1) (cond (iu a1) (cond (GR a1 a0.2.2.2) (cond (FV a1 a2) (cond (d281 a0 a1.2.1 a1.2.2.2.2.2.1) (cond (GD a0 a1.2.1 a1.2.2.2.2.2.1) (cond (d282 a0 a1.2.1 a1.2.2.2.2.1 a2) ((Gb a0 a1.2.1 a1.2.2.2.2.1 a2)) (false)) (false)) (false)) (false)) (false)) (false)) (false)
def d251 (a0 : Ty.T y36) (a1 : Ty.T aa) (a2 : Ty.T y48) : Bool := cond (d200 a1) (cond (iu a1) (cond (GR a1 a0.2.2.2) (cond (FV a1 a2) (cond (d281 a0 a1.2.1 a1.2.2.2.2.2.1) (cond (GD a0 a1.2.1 a1.2.2.2.2.2.1) (cond (d282 a0 a1.2.1 a1.2.2.2.2.1 a2) (true) (false)) (true)) (false)) (true)) (true)) (true)) (false)
theorem abt (a0 : Ty.T y36) (a1 : Ty.T aa) (a2 : Ty.T y48) : PT a0 a1 a2 = cond (d251 a0 a1 a2) (some (f251 (pq a0 a1 a2))) none := (pC (pC (pC (pC (pC (pC (pC (pS _) (pN _)) (pS _)) (pN _)) (pS _)) (pS _)) (pS _)) (pN _))
def Wd : Prim := ⟨[.agg [.dat y36 true],.agg [.dat aa true],.agg [.dat y48 true]],fun v => .br (d251 v.1 v.2.1 v.2.2.1) (.done (f251 (pq v.1 v.2.1 v.2.2.1))) .no⟩
theorem RO : PO 251 Wd := pK abB fun v => et (PT v.1 v.2.1 v.2.2.1) (by kernel_rfl) (abt v.1 v.2.1 v.2.2.1)
def f208 (r : (List (Ty.T (.int .i64)))) : AV × Sig := (.one (.sl 4096),[(4096,.arr 3 (.int .i64) r false)])
def VE := ((E0.p Ng).p RO)
@[reducible] def y5 : List SP := .und :: .one (.dat (.sl 103 aa) true) :: .und :: .one (.dat (.sl 3 (.int .i64)) true) :: .one (.ptr 4 0) :: .und :: .one (.ptr 6 0) :: .und :: .one (.dat (.sl 3 (.int .i64)) false) :: .one (.own 12) :: oI :: oI :: U32 (U16 (U4 (U2 (.und :: []))))
@[reducible] def y8 : List (Nat × GP) := [(4,.box 37 [.dat y36 true]),(6,.box 56 [.dat y48 false]),(12,.arr 3 (.int .i64) false)]
@[reducible] def mC : Type := (List (Ty.T aa)) × (List (Ty.T (.int .i64))) × (List (Ty.T (.int .i64))) × Int × Int × (Ty.T y36) × (Ty.T y48) × (List (Ty.T (.int .i64))) × Unit
def pU (v : mC) {Z : Type} (κ : Nat × mC -> Option Z) : Option Z := cond (decide (v.2.2.2.2.1 < ((v.1).length : Int))) (if 0 <= v.2.2.2.2.1 then (ay ((v.1)[(v.2.2.2.2.1).toNat]?) (fun x1 => cond (d250 v.2.1 x1.1) (cond (Ak v.2.1 x1.1) (κ (0,(v.1,v.2.1,v.2.2.1,v.2.2.2.1,IntKind.wrap .i64 (v.2.2.2.2.1 + (1 : Int)),v.2.2.2.2.2.1,v.2.2.2.2.2.2.1,v.2.2.2.2.2.2.2.1,()))) (if 0 <= v.2.2.2.2.1 then (ay ((v.1)[(v.2.2.2.2.1).toNat]?) (fun x2 => cond (d251 v.2.2.2.2.2.1 x2 v.2.2.2.2.2.2.1) (cond (!(pq v.2.2.2.2.2.1 x2 v.2.2.2.2.2.2.1)) (κ (0,(v.1,v.2.1,v.2.2.1,v.2.2.2.1,IntKind.wrap .i64 (v.2.2.2.2.1 + (1 : Int)),v.2.2.2.2.2.1,v.2.2.2.2.2.2.1,v.2.2.2.2.2.2.2.1,()))) (if 0 <= v.2.2.2.2.1 then (ay ((v.1)[(v.2.2.2.2.1).toNat]?) (fun x3 => cond (decide (x3.2.2.2.1 > v.2.2.2.1)) (κ (0,(v.1,v.2.1,v.2.2.1,v.2.2.2.1,IntKind.wrap .i64 (v.2.2.2.2.1 + (1 : Int)),v.2.2.2.2.2.1,v.2.2.2.2.2.2.1,v.2.2.2.2.2.2.2.1,()))) (if 0 <= v.2.2.2.2.1 then (ay ((v.1)[(v.2.2.2.2.1).toNat]?) (fun x4 => cond (decide (x4.2.2.2.1 < v.2.2.2.1)) (if 0 <= v.2.2.2.2.1 then (ay ((v.1)[(v.2.2.2.2.1).toNat]?) (fun x5 => if 0 <= v.2.2.2.2.1 then (ay ((v.1)[(v.2.2.2.2.1).toNat]?) (fun x6 => if ([] ++ [x6.1] : List (Ty.T (.int .i64))).length * 8 <= 140737488351232 then (κ (0,(v.1,v.2.1,v.2.2.1,x5.2.2.2.1,IntKind.wrap .i64 (v.2.2.2.2.1 + (1 : Int)),v.2.2.2.2.2.1,v.2.2.2.2.2.2.1,[] ++ [x6.1],()))) else none)) else none)) else none) (if 0 <= v.2.2.2.2.1 then (ay ((v.1)[(v.2.2.2.2.1).toNat]?) (fun x7 => if (v.2.2.2.2.2.2.2.1 ++ [x7.1] : List (Ty.T (.int .i64))).length * 8 <= 140737488351232 then (κ (0,(v.1,v.2.1,v.2.2.1,v.2.2.2.1,IntKind.wrap .i64 (v.2.2.2.2.1 + (1 : Int)),v.2.2.2.2.2.1,v.2.2.2.2.2.2.1,v.2.2.2.2.2.2.2.1 ++ [x7.1],()))) else none)) else none))) else none))) else none)) (none))) else none)) (none))) else none) (κ (1,(v.1,v.2.1,v.2.2.1,v.2.2.2.1,v.2.2.2.2.1,v.2.2.2.2.2.1,v.2.2.2.2.2.2.1,v.2.2.2.2.2.2.2.1,())))
def oM (v : mC) : Option (Nat × mC) := pU v some
def sb (v : mC) : Nat := v.1.length + v.2.1.length + v.2.2.1.length + v.2.2.2.1.toNat + v.2.2.2.2.1.toNat + v.2.2.2.2.2.1.1.length + v.2.2.2.2.2.1.2.1.length + v.2.2.2.2.2.2.2.1.length + 100
def xd (h0 : List (Ty.T aa)) (h1 : List (Ty.T (.int .i64))) (h2 : List (Ty.T (.int .i64))) (h3 : Int) (h4 : Int) (h5 : Ty.T y36) (h6 : Ty.T y48) (h7 : List (Ty.T (.int .i64))) (c : Nat) : Bool := iK oM sb (h0,h1,h2,h3,h4,h5,h6,h7,()) c
def CB (h0 : List (Ty.T aa)) (h1 : List (Ty.T (.int .i64))) (h2 : List (Ty.T (.int .i64))) (h3 : Int) (h4 : Int) (h5 : Ty.T y36) (h6 : Ty.T y48) (h7 : List (Ty.T (.int .i64))) : mC := iW oM sb (h0,h1,h2,h3,h4,h5,h6,h7,())
def HS (v : mC) : aL (Ex × St) := aM oM (sb v) v (ar y5 y8) [.exit 0] 0
theorem N7 : aH Tryz.prog (aw (pb 5 23) (ab Tryz.f208)) y5 y8 HS := ag (lt := .none) VE.ok ak (af.no _) fun n v K => et (pU v (bL _ _ _ _ _ K)) (by kernel_rfl) (show pU v _ = (pU v some).bind _ from (bC (bI (bO fun x1 => (bC (bC rfl (bI (bO fun x2 => (bC (bC rfl (bI (bO fun x3 => (bC rfl (bI (bO fun x4 => (bC (bI (bO fun x5 => (bI (bO fun x6 => (bI rfl))))) (bI (bO fun x7 => (bI rfl)))))))))) rfl)))) rfl))) rfl))
def PX := VE.l (g := 208) (t := (a9 (pb 5 23) (ab Tryz.f208) .none (.sum y5 y8 HS))) (aC Tryz.func208 (af.put (aA (by kernel_rfl)) (af.no _) N7))
def UL (a0 : Ty.T y36) (a1 : List (Ty.T aa)) (a2 : Ty.T y48) (a3 : List (Ty.T (.int .i64))) : Option (AV × Sig) := cond (xd a1 a3 [] 5 0 a0 a2 [] 0) (some (.one (.sl 4096),[(4096,.arr 3 (.int .i64) (CB a1 a3 [] 5 0 a0 a2 []).2.2.2.2.2.2.2.1 false)])) (none)
def dY (a0 : Ty.T y36) (a1 : List (Ty.T aa)) (a2 : Ty.T y48) (a3 : List (Ty.T (.int .i64))) : (List (Ty.T (.int .i64))) := cond (xd a1 a3 [] 5 0 a0 a2 [] 0) ((CB a1 a3 [] 5 0 a0 a2 []).2.2.2.2.2.2.2.1) ([])
def d208 (a0 : Ty.T y36) (a1 : List (Ty.T aa)) (a2 : Ty.T y48) (a3 : List (Ty.T (.int .i64))) : Bool := cond (xd a1 a3 [] 5 0 a0 a2 [] 0) (true) (false)
theorem ZH (a0 : Ty.T y36) (a1 : List (Ty.T aa)) (a2 : Ty.T y48) (a3 : List (Ty.T (.int .i64))) : UL a0 a1 a2 a3 = cond (d208 a0 a1 a2 a3) (some (f208 (dY a0 a1 a2 a3))) none := (pC (pS _) (pN _))
def acu : Prim := ⟨[.agg [.dat y36 true],.one (.dat (.sl 103 aa) true),.agg [.dat y48 true],.one (.dat (.sl 3 (.int .i64)) true)],fun v => .br (d208 v.1 v.2.1 v.2.2.1 v.2.2.2.1) (.done (f208 (dY v.1 v.2.1 v.2.2.1 v.2.2.2.1))) .no⟩
theorem Vf : PO 208 acu := pK PX fun v => et (UL v.1 v.2.1 v.2.2.1 v.2.2.2.1) (by kernel_rfl) (ZH v.1 v.2.1 v.2.2.1 v.2.2.2.1)
def f209 (r : Bool) : AV × Sig := (.one (.bool r),[])
def Wh := E0
def Tl (a0 : Ty.T y48) : Option (AV × Sig) := cond (a0.2.2.2.2.1 == (0 : Int)) (some (.one (.bool (a0.1 != (2 : Int))),[])) (some (.one (.bool false),[]))
def tj (a0 : Ty.T y48) : Bool := cond (a0.2.2.2.2.1 == (0 : Int)) ((a0.1 != (2 : Int))) (false)
theorem ZF (a0 : Ty.T y48) : Tl a0 = some (f209 (tj a0)) := (tC rfl rfl)
def ab4 : Prim := ⟨[.agg [.dat y48 true]],fun v => .done (f209 (tj v.1))⟩
theorem Nw : PO 209 ab4 := pK Wh fun v => et (Tl v.1) (by kernel_rfl) (ZF v.1)
def f210 (r : Int × (List (Ty.T (.int .i64)))) : AV × Sig := (.tup [(false,([.int .i64 r.1])),(false,([.sl 8192]))],[(8192,.arr 3 (.int .i64) r.2 false)])
def W5 := E0
def t210 (a0 : List (Ty.T (.int .i64))) (a1 : Int) {Z : Type} (κ : Int × (List (Ty.T (.int .i64))) -> Option Z) : Option Z := cond (decide (a1 < (2 : Int))) (if ([] ++ a0 : List (Ty.T (.int .i64))).length * 8 <= 140737488351232 then (κ (0,[] ++ a0)) else none) (cond (((a0).length : Int) == (0 : Int)) (if ([] ++ a0 : List (Ty.T (.int .i64))).length * 8 <= 140737488351232 then (κ (0,[] ++ a0)) else none) (ay ((a0)[0]?) (fun x1 => if a1 = 0 then none else (cond (decide ((Int.tmod x1 a1) < (0 : Int))) (if (1 : Int) <= ((a0).length : Int) then (if ([] ++ ((a0.take ((a0).length)).drop 1) : List (Ty.T (.int .i64))).length * 8 <= 140737488351232 then (κ (IntKind.wrap .i64 ((Int.tmod x1 a1) + a1),[] ++ ((a0.take ((a0).length)).drop 1))) else none) else none) (if (1 : Int) <= ((a0).length : Int) then (if ([] ++ ((a0.take ((a0).length)).drop 1) : List (Ty.T (.int .i64))).length * 8 <= 140737488351232 then (κ (Int.tmod x1 a1,[] ++ ((a0.take ((a0).length)).drop 1))) else none) else none)))))
def gj (a0 : List (Ty.T (.int .i64))) (a1 : Int) : Int × (List (Ty.T (.int .i64))) := (t210 a0 a1 some).getD (0,[])
def d210 (a0 : List (Ty.T (.int .i64))) (a1 : Int) : Bool := (t210 a0 a1 some).isSome
def acN : Prim := ⟨[.one (.dat (.sl 3 (.int .i64)) true),oI],fun v => .br (d210 v.1 v.2.1) (.done (f210 (gj v.1 v.2.1))) .no⟩
theorem SL : PO 210 acN := pK W5 fun v => et ((t210 v.1 v.2.1 (sm f210))) (by kernel_rfl) (aN (show t210 v.1 v.2.1 (sm f210) = (t210 v.1 v.2.1 some).bind _ from by unfold t210; simp only [bb]))
def f211 (r : Int) : AV × Sig := (.one (.int .i64 r),[])
def S2 := E0
@[reducible] def yl : List SP := .one (.dat (.sl 103 aa) true) :: oI :: U2 (oI :: oI :: U8 (U4 (U2 ([]))))
@[reducible] def l7 : Type := (List (Ty.T aa)) × Int × Int × Int × Unit
def o7 (v : l7) {Z : Type} (κ : Nat × l7 -> Option Z) : Option Z := cond (decide (v.2.2.2.1 < ((v.1).length : Int))) (if 0 <= v.2.2.2.1 then (ay ((v.1)[(v.2.2.2.1).toNat]?) (fun x1 => cond (x1.1 == v.2.1) (κ (1,(v.1,v.2.1,v.2.2.2.1,v.2.2.2.1,()))) (κ (0,(v.1,v.2.1,v.2.2.1,IntKind.wrap .i64 (v.2.2.2.1 + (1 : Int)),()))))) else none) (κ (2,(v.1,v.2.1,v.2.2.1,v.2.2.2.1,())))
def pE (v : l7) : Option (Nat × l7) := o7 v some
def ra (v : l7) : Nat := v.1.length + v.2.1.toNat + v.2.2.1.toNat + v.2.2.2.1.toNat + 100
def iH (h0 : List (Ty.T aa)) (h1 : Int) (h2 : Int) (h3 : Int) (c : Nat) : Bool := iK pE ra (h0,h1,h2,h3,()) c
def DL (h0 : List (Ty.T aa)) (h1 : Int) (h2 : Int) (h3 : Int) : l7 := iW pE ra (h0,h1,h2,h3,())
def IG (v : l7) : aL (Ex × St) := aM pE (ra v) v (ar yl aB) [.ret,.exit 0] 0
theorem OL : aH Tryz.prog (aw (pb 3 5) (ab Tryz.f211)) yl aB IG := ag (lt := .none) S2.ok ak (af.no _) fun n v K => et (o7 v (bL _ _ _ _ _ K)) (by kernel_rfl) (show o7 v _ = (o7 v some).bind _ from (bC (bI (bO fun x1 => (bC rfl rfl))) rfl))
def Qw := S2.l (g := 211) (t := (a9 (pb 3 5) (ab Tryz.f211) .none (.sum yl aB IG))) (aC Tryz.func211 (af.put (aA (by kernel_rfl)) (af.no _) OL))
def UT (a0 : List (Ty.T aa)) (a1 : Int) : Option (AV × Sig) := cond (iH a0 a1 0 0 0) (some (.one (.int .i64 (DL a0 a1 0 0).2.2.1),[])) (cond (iH a0 a1 0 0 1) (some (.one (.int .i64 (-1)),[])) (none))
def jB (a0 : List (Ty.T aa)) (a1 : Int) : Int := cond (iH a0 a1 0 0 0) ((DL a0 a1 0 0).2.2.1) (cond (iH a0 a1 0 0 1) ((-1)) (0))
def d211 (a0 : List (Ty.T aa)) (a1 : Int) : Bool := cond (iH a0 a1 0 0 0) (true) (cond (iH a0 a1 0 0 1) (true) (false))
theorem Za (a0 : List (Ty.T aa)) (a1 : Int) : UT a0 a1 = cond (d211 a0 a1) (some (f211 (jB a0 a1))) none := (pC (pS _) (pC (pS _) (pN _)))
def Y1 : Prim := ⟨[.one (.dat (.sl 103 aa) true),oI],fun v => .br (d211 v.1 v.2.1) (.done (f211 (jB v.1 v.2.1))) .no⟩
theorem Nm : PO 211 Y1 := pK Qw fun v => et (UT v.1 v.2.1) (by kernel_rfl) (Za v.1 v.2.1)
def f252 (r : Int) : AV × Sig := (.one (.int .i64 r),[])
def Xh := E0
def PU (a0 : Int) (a1 : Int) : Option (AV × Sig) := cond (decide (a1 < a0)) (cond (decide (a1 < (0 : Int))) (some (.one (.int .i64 0),[])) (some (.one (.int .i64 a1),[]))) (cond (decide (a0 < (0 : Int))) (some (.one (.int .i64 0),[])) (some (.one (.int .i64 a0),[])))
def eJ (a0 : Int) (a1 : Int) : Int := cond (decide (a1 < a0)) (cond (decide (a1 < (0 : Int))) (0) (a1)) (cond (decide (a0 < (0 : Int))) (0) (a0))
theorem abk (a0 : Int) (a1 : Int) : PU a0 a1 = some (f252 (eJ a0 a1)) := (tC (tC rfl rfl) (tC rfl rfl))
def W2 : Prim := ⟨[oI,oI],fun v => .done (f252 (eJ v.1 v.2.1))⟩
theorem uB : PO 252 W2 := pK Xh fun v => et (PU v.1 v.2.1) (by kernel_rfl) (abk v.1 v.2.1)
def f253 (r : (Ty.T y48)) : AV × Sig := (.agg (y48.cells false r),[])
def WW := (E0.p uB)
def Rv (a0 : Ty.T y48) (a1 : Int) : Option (AV × Sig) := some (.agg [.int .i64 a0.1,.int .i64 a0.2.1,.int .i64 a0.2.2.1,.int .i64 a0.2.2.2.1,.int .i64 (eJ a1 2147483647),.int .i64 a0.2.2.2.2.2.1,.bool a0.2.2.2.2.2.2],[])
def ym (a0 : Ty.T y48) (a1 : Int) : (Ty.T y48) := (a0.1,a0.2.1,a0.2.2.1,a0.2.2.2.1,(eJ a1 2147483647),a0.2.2.2.2.2)
theorem X0 (a0 : Ty.T y48) (a1 : Int) : Rv a0 a1 = some (f253 (ym a0 a1)) := rfl
def aaR : Prim := ⟨[.agg [.dat y48 true],oI],fun v => .done (f253 (ym v.1 v.2.1))⟩
theorem Nj : PO 253 aaR := pK WW fun v => et (Rv v.1 v.2.1) (by kernel_rfl) (X0 v.1 v.2.1)
def f254 (r : (List (Ty.T y48))) : AV × Sig := (.one (.sl 4096),[(4096,.arr 56 y48 r false)])
def Uy := (E0.p uB)
@[reducible] def wg : List SP := U2 (.one (.ptr 2 0) :: .one (.ptr 3 0) :: .one (.dat (.sl 56 y48) false) :: .one (.own 8) :: oI :: U16 (U8 (U4 (U2 (.und :: [])))))
@[reducible] def w8 : List (Nat × GP) := [(2,.box 101 [.dat aZ true]),(3,.box 56 [.dat y48 false]),(8,.arr 56 y48 false)]
@[reducible] def me : Type := (List (Ty.T y48)) × Int × (Ty.T aZ) × (Ty.T y48) × (List (Ty.T y48)) × Unit
def mr (v : me) {Z : Type} (κ : Nat × me -> Option Z) : Option Z := cond (decide (v.2.1 < ((v.2.2.1.2.2.2.2.2.2).length : Int))) (cond (v.2.2.1.1 == (9 : Int)) (if 0 <= v.2.1 then (ay ((v.2.2.1.2.2.2.2.2.2)[(v.2.1).toNat]?) (fun x1 => cond (x1.2.2.2.2.1 == (-1 : Int)) (if (v.2.2.2.2.1 ++ [(x1.1,x1.2.1,x1.2.2.1,x1.2.2.2.1,(eJ v.2.2.2.1.2.2.2.2.1 2147483647),x1.2.2.2.2.2)] : List (Ty.T y48)).length * 56 <= 140737488351232 then (κ (0,(v.1,IntKind.wrap .i64 (v.2.1 + (1 : Int)),v.2.2.1,v.2.2.2.1,v.2.2.2.2.1 ++ [(x1.1,x1.2.1,x1.2.2.1,x1.2.2.2.1,(eJ v.2.2.2.1.2.2.2.2.1 2147483647),x1.2.2.2.2.2)],()))) else none) (if (v.2.2.2.2.1 ++ [x1] : List (Ty.T y48)).length * 56 <= 140737488351232 then (κ (0,(v.1,IntKind.wrap .i64 (v.2.1 + (1 : Int)),v.2.2.1,v.2.2.2.1,v.2.2.2.2.1 ++ [x1],()))) else none))) else none) (κ (1,(v.1,v.2.1,v.2.2.1,v.2.2.2.1,v.2.2.2.2.1,())))) (κ (1,(v.1,v.2.1,v.2.2.1,v.2.2.2.1,v.2.2.2.2.1,())))
def jl (v : me) : Option (Nat × me) := mr v some
def iB (v : me) : Nat := v.1.length + v.2.1.toNat + v.2.2.1.2.2.2.2.2.2.length + v.2.2.2.2.1.length + 100
def rm (h0 : List (Ty.T y48)) (h1 : Int) (h2 : Ty.T aZ) (h3 : Ty.T y48) (h4 : List (Ty.T y48)) (c : Nat) : Bool := iK jl iB (h0,h1,h2,h3,h4,()) c
def wB (h0 : List (Ty.T y48)) (h1 : Int) (h2 : Ty.T aZ) (h3 : Ty.T y48) (h4 : List (Ty.T y48)) : me := iW jl iB (h0,h1,h2,h3,h4,())
def HK (v : me) : aL (Ex × St) := aM jl (iB v) v (ar wg w8) [.exit 0] 0
theorem Pe : aH Tryz.prog (aw (pb 4 11) (ab Tryz.f254)) wg w8 HK := ag (lt := .none) Uy.ok ak (af.no _) fun n v K => et (mr v (bL _ _ _ _ _ K)) (by kernel_rfl) (show mr v _ = (mr v some).bind _ from (bC (bC (bI (bO fun x1 => (bC (bI rfl) (bI rfl)))) rfl) rfl))
def To := Uy.l (g := 254) (t := (a9 (pb 4 11) (ab Tryz.f254) .none (.sum wg w8 HK))) (aC Tryz.func254 (af.put (aA (by kernel_rfl)) (af.no _) Pe))
def S3 (a0 : Ty.T aZ) (a1 : Ty.T y48) : Option (AV × Sig) := cond (rm [] 0 a0 a1 [] 0) (some (.one (.sl 4096),[(4096,.arr 56 y48 (wB [] 0 a0 a1 []).2.2.2.2.1 false)])) (none)
def xi (a0 : Ty.T aZ) (a1 : Ty.T y48) : (List (Ty.T y48)) := cond (rm [] 0 a0 a1 [] 0) ((wB [] 0 a0 a1 []).2.2.2.2.1) ([])
def d254 (a0 : Ty.T aZ) (a1 : Ty.T y48) : Bool := cond (rm [] 0 a0 a1 [] 0) (true) (false)
theorem XU (a0 : Ty.T aZ) (a1 : Ty.T y48) : S3 a0 a1 = cond (d254 a0 a1) (some (f254 (xi a0 a1))) none := (pC (pS _) (pN _))
def aaY : Prim := ⟨[.agg [.dat aZ true],.agg [.dat y48 true]],fun v => .br (d254 v.1 v.2.1) (.done (f254 (xi v.1 v.2.1))) .no⟩
theorem VF : PO 254 aaY := pK To fun v => et (S3 v.1 v.2.1) (by kernel_rfl) (XU v.1 v.2.1)
def f131 (r : Int) : AV × Sig := (.one (.int .i64 r),[])
def ZT := E0
def R1 (a0 : Int) : Option (AV × Sig) := cond (decide (a0 > (2147483647 : Int))) (some (.one (.int .i64 2147483647),[])) (cond (decide (a0 < (-2147483647 : Int))) (some (.one (.int .i64 (-2147483647)),[])) (some (.one (.int .i64 a0),[])))
def gm (a0 : Int) : Int := cond (decide (a0 > (2147483647 : Int))) (2147483647) (cond (decide (a0 < (-2147483647 : Int))) ((-2147483647)) (a0))
theorem Zc (a0 : Int) : R1 a0 = some (f131 (gm a0)) := (tC rfl (tC rfl rfl))
def abE : Prim := ⟨[oI],fun v => .done (f131 (gm v.1))⟩
theorem Fx : PO 131 abE := pK ZT fun v => et (R1 v.1) (by kernel_rfl) (Zc v.1)
def f300 (r : Int) : AV × Sig := (.one (.int .i64 r),[])
def Y6 := (E0.p Fx)
def Ve (a0 : Int) (a1 : Int) : Option (AV × Sig) := some (.one (.int .i64 (gm (IntKind.wrap .i64 ((gm a0) + (gm a1))))),[])
def Gc (a0 : Int) (a1 : Int) : Int := (gm (IntKind.wrap .i64 ((gm a0) + (gm a1))))
theorem YI (a0 : Int) (a1 : Int) : Ve a0 a1 = some (f300 (Gc a0 a1)) := rfl
def Zr : Prim := ⟨[oI,oI],fun v => .done (f300 (Gc v.1 v.2.1))⟩
theorem Rs : PO 300 Zr := pK Y6 fun v => et (Ve v.1 v.2.1) (by kernel_rfl) (YI v.1 v.2.1)
end
end Go.Proofs.YtcddhifkfakcjaaGreat.Vm
