/- Contracts. No condition. -/
import Derived.Test.YtcddhifkfakcjaaGreatVmT
import Derived.Test.YtcddhifkfakcjaaGreatVmLibThree
namespace Go.Proofs.YtcddhifkfakcjaaGreat.Vm
open Go Go.Proofs.YtcddhifkfakcjaaGreat.Lib
noncomputable section
set_option maxRecDepth 100000
set_option linter.unusedVariables false

def f73 (r : Int) : AV × Sig := (.one (.int .i64 r), [])
def E73 := E0
def u73 (a0 : List (Ty.T y179)) (a1 : Int) : Option (AV × Sig) := cond (decide ((IntKind.wrap .i64 (a1 - ((a0).length : Int))) < (0 : Int))) (some (.one (.int .i64 (-1)), [])) (some (.one (.int .i64 (IntKind.wrap .i64 (a1 - ((a0).length : Int)))), []))
def v73 (a0 : List (Ty.T y179)) (a1 : Int) : Int := cond (decide ((IntKind.wrap .i64 (a1 - ((a0).length : Int))) < (0 : Int))) ((-1)) (IntKind.wrap .i64 (a1 - ((a0).length : Int)))
theorem o73 (a0 : List (Ty.T y179)) (a1 : Int) : u73 a0 a1 = some (f73 (v73 a0 a1)) := (tC rfl rfl)
def p73 : Prim := ⟨[.one (.dat (.sl 200 y179) true), oI], fun v => .done (f73 (v73 v.1 v.2.1))⟩
theorem ok73 : PO 73 p73 := pK E73 fun v => Eq.trans (b := u73 v.1 v.2.1) (by kernel_rfl) (o73 v.1 v.2.1)
def f74 (r : Int) : AV × Sig := (.one (.int .i64 r), [])
def E74 := E0
def u74 (a0 : List (Ty.T y181)) (a1 : Int) : Option (AV × Sig) := cond (decide ((IntKind.wrap .i64 (a1 - ((a0).length : Int))) < (0 : Int))) (some (.one (.int .i64 (-1)), [])) (some (.one (.int .i64 (IntKind.wrap .i64 (a1 - ((a0).length : Int)))), []))
def v74 (a0 : List (Ty.T y181)) (a1 : Int) : Int := cond (decide ((IntKind.wrap .i64 (a1 - ((a0).length : Int))) < (0 : Int))) ((-1)) (IntKind.wrap .i64 (a1 - ((a0).length : Int)))
theorem o74 (a0 : List (Ty.T y181)) (a1 : Int) : u74 a0 a1 = some (f74 (v74 a0 a1)) := (tC rfl rfl)
def p74 : Prim := ⟨[.one (.dat (.sl 202 y181) true), oI], fun v => .done (f74 (v74 v.1 v.2.1))⟩
theorem ok74 : PO 74 p74 := pK E74 fun v => Eq.trans (b := u74 v.1 v.2.1) (by kernel_rfl) (o74 v.1 v.2.1)
def f17 (r : Int) : AV × Sig := (.one (.int .i64 r), [])
def E17 := ((E0.p ok73).p ok74)
def u17 (a0 : Ty.T y24) (a1 : Int) : Option (AV × Sig) := cond (decide ((v73 a0.1 a1) < (0 : Int))) (some (.one (.int .i64 (-1)), [])) (cond (decide ((v74 a0.2.1 (v73 a0.1 a1)) < (0 : Int))) (some (.one (.int .i64 (-1)), [])) (some (.one (.int .i64 (v74 a0.2.1 (v73 a0.1 a1))), [])))
def v17 (a0 : Ty.T y24) (a1 : Int) : Int := cond (decide ((v73 a0.1 a1) < (0 : Int))) ((-1)) (cond (decide ((v74 a0.2.1 (v73 a0.1 a1)) < (0 : Int))) ((-1)) ((v74 a0.2.1 (v73 a0.1 a1))))
theorem o17 (a0 : Ty.T y24) (a1 : Int) : u17 a0 a1 = some (f17 (v17 a0 a1)) := (tC rfl (tC rfl rfl))
def p17 : Prim := ⟨[.agg [.dat y24 true], oI], fun v => .done (f17 (v17 v.1 v.2.1))⟩
theorem ok17 : PO 17 p17 := pK E17 fun v => Eq.trans (b := u17 v.1 v.2.1) (by kernel_rfl) (o17 v.1 v.2.1)
def f162 (r : Int) : AV × Sig := (.one (.int .i64 r), [])
def E162 := E0
def u162 (a0 : List (Ty.T y48)) (a1 : Int) : Option (AV × Sig) := cond (decide ((IntKind.wrap .i64 (a1 - ((a0).length : Int))) < (0 : Int))) (some (.one (.int .i64 (-1)), [])) (some (.one (.int .i64 (IntKind.wrap .i64 (a1 - ((a0).length : Int)))), []))
def v162 (a0 : List (Ty.T y48)) (a1 : Int) : Int := cond (decide ((IntKind.wrap .i64 (a1 - ((a0).length : Int))) < (0 : Int))) ((-1)) (IntKind.wrap .i64 (a1 - ((a0).length : Int)))
theorem o162 (a0 : List (Ty.T y48)) (a1 : Int) : u162 a0 a1 = some (f162 (v162 a0 a1)) := (tC rfl rfl)
def p162 : Prim := ⟨[.one (.dat (.sl 49 y48) true), oI], fun v => .done (f162 (v162 v.1 v.2.1))⟩
theorem ok162 : PO 162 p162 := pK E162 fun v => Eq.trans (b := u162 v.1 v.2.1) (by kernel_rfl) (o162 v.1 v.2.1)
def f146 (r : Int) : AV × Sig := (.one (.int .i64 r), [])
def E146 := (E0.p ok162)
def u146 (a0 : Ty.T y119) (a1 : Int) : Option (AV × Sig) := cond (decide ((v162 a0.2.2.2.2.2.2 a1) < (0 : Int))) (some (.one (.int .i64 (-1)), [])) (some (.one (.int .i64 (v162 a0.2.2.2.2.2.2 a1)), []))
def v146 (a0 : Ty.T y119) (a1 : Int) : Int := cond (decide ((v162 a0.2.2.2.2.2.2 a1) < (0 : Int))) ((-1)) ((v162 a0.2.2.2.2.2.2 a1))
theorem o146 (a0 : Ty.T y119) (a1 : Int) : u146 a0 a1 = some (f146 (v146 a0 a1)) := (tC rfl rfl)
def p146 : Prim := ⟨[.agg [.dat y119 true], oI], fun v => .done (f146 (v146 v.1 v.2.1))⟩
theorem ok146 : PO 146 p146 := pK E146 fun v => Eq.trans (b := u146 v.1 v.2.1) (by kernel_rfl) (o146 v.1 v.2.1)
def f75 (r : Int) : AV × Sig := (.one (.int .i64 r), [])
def E75 := (E0.p ok146)
def u75 (a0 : Ty.T y121) (a1 : Int) : Option (AV × Sig) := cond (decide ((v146 a0.2.2.2.2.2.2.1 a1) < (0 : Int))) (some (.one (.int .i64 (-1)), [])) (some (.one (.int .i64 (v146 a0.2.2.2.2.2.2.1 a1)), []))
def v75 (a0 : Ty.T y121) (a1 : Int) : Int := cond (decide ((v146 a0.2.2.2.2.2.2.1 a1) < (0 : Int))) ((-1)) ((v146 a0.2.2.2.2.2.2.1 a1))
theorem o75 (a0 : Ty.T y121) (a1 : Int) : u75 a0 a1 = some (f75 (v75 a0 a1)) := (tC rfl rfl)
def p75 : Prim := ⟨[.agg [.dat y121 true], oI], fun v => .done (f75 (v75 v.1 v.2.1))⟩
theorem ok75 : PO 75 p75 := pK E75 fun v => Eq.trans (b := u75 v.1 v.2.1) (by kernel_rfl) (o75 v.1 v.2.1)
def f18 (r : Int) : AV × Sig := (.one (.int .i64 r), [])
def E18 := (E0.p ok75)
@[reducible] def ss18_0 : List SP := .one (.dat (.sl 122 y121) true) :: oI :: U2 (oI :: oI :: U16 (U4 (.und :: [])))
@[reducible] def gs18_0 : List (Nat × GP) := []
@[reducible] def V18_0 : Type := (List (Ty.T y121)) × Int × Int × Int × Unit
def t18_0 (v : V18_0) {Z : Type} (κ : Nat × V18_0 -> Option Z) : Option Z := cond (decide (v.2.2.2.1 < ((v.1).length : Int))) (if 0 <= v.2.2.2.1 then (optC ((v.1)[(v.2.2.2.1).toNat]?) (fun x1 => cond (decide ((v75 x1 v.2.1) < (0 : Int))) (κ (1, (v.1, (v75 x1 v.2.1), (-1), v.2.2.2.1, ()))) (κ (0, (v.1, (v75 x1 v.2.1), v.2.2.1, IntKind.wrap .i64 (v.2.2.2.1 + (1 : Int)), ()))))) else none) (κ (2, (v.1, v.2.1, v.2.2.1, v.2.2.2.1, ())))
def s18_0 (v : V18_0) : Option (Nat × V18_0) := t18_0 v some
def n18_0 (v : V18_0) : Nat := v.1.length + v.2.1.toNat + v.2.2.1.toNat + v.2.2.2.1.toNat + 100
def k18_0 (h0 : List (Ty.T y121)) (h1 : Int) (h2 : Int) (h3 : Int) (c : Nat) : Bool := iK s18_0 n18_0 (h0, h1, h2, h3, ()) c
def w18_0 (h0 : List (Ty.T y121)) (h1 : Int) (h2 : Int) (h3 : Int) : V18_0 := iW s18_0 n18_0 (h0, h1, h2, h3, ())
def F18_0 (v : V18_0) : Ways (Ex × St) := waysOf s18_0 (n18_0 v) v (bldSt ss18_0 gs18_0) [.ret, .exit 0] 0
theorem l18_0 : LoopOk Tryz.prog (loopAt (pb 5 23) (bodyOf Tryz.f18)) ss18_0 gs18_0 F18_0 := loopOk_iter (lt := .none) E18.ok orders (LtOk.no _) fun n v K => Eq.trans (b := t18_0 v (kont _ _ _ _ _ K)) (by kernel_rfl) (show t18_0 v _ = (t18_0 v some).bind _ from (bC (bI (bO fun x1 => (bC rfl rfl))) rfl))
def E18l := E18.l (g := 18) (t := (ltPut (pb 5 23) (bodyOf Tryz.f18) .none (.sum ss18_0 gs18_0 F18_0))) (ltOk_of Tryz.func18 (LtOk.put (wf_of (by kernel_rfl)) (LtOk.no _) l18_0))
def u18 (a0 : List (Ty.T y121)) (a1 : Int) : Option (AV × Sig) := cond (decide ((IntKind.wrap .i64 (a1 - ((a0).length : Int))) < (0 : Int))) (some (.one (.int .i64 (-1)), [])) (cond (k18_0 a0 (IntKind.wrap .i64 (a1 - ((a0).length : Int))) 0 0 0) (some (.one (.int .i64 (w18_0 a0 (IntKind.wrap .i64 (a1 - ((a0).length : Int))) 0 0).2.2.1), [])) (cond (k18_0 a0 (IntKind.wrap .i64 (a1 - ((a0).length : Int))) 0 0 1) (some (.one (.int .i64 (w18_0 a0 (IntKind.wrap .i64 (a1 - ((a0).length : Int))) 0 0).2.1), [])) (none)))
def v18 (a0 : List (Ty.T y121)) (a1 : Int) : Int := cond (decide ((IntKind.wrap .i64 (a1 - ((a0).length : Int))) < (0 : Int))) ((-1)) (cond (k18_0 a0 (IntKind.wrap .i64 (a1 - ((a0).length : Int))) 0 0 0) ((w18_0 a0 (IntKind.wrap .i64 (a1 - ((a0).length : Int))) 0 0).2.2.1) (cond (k18_0 a0 (IntKind.wrap .i64 (a1 - ((a0).length : Int))) 0 0 1) ((w18_0 a0 (IntKind.wrap .i64 (a1 - ((a0).length : Int))) 0 0).2.1) (0)))
def d18 (a0 : List (Ty.T y121)) (a1 : Int) : Bool := cond (decide ((IntKind.wrap .i64 (a1 - ((a0).length : Int))) < (0 : Int))) (true) (cond (k18_0 a0 (IntKind.wrap .i64 (a1 - ((a0).length : Int))) 0 0 0) (true) (cond (k18_0 a0 (IntKind.wrap .i64 (a1 - ((a0).length : Int))) 0 0 1) (true) (false)))
theorem o18 (a0 : List (Ty.T y121)) (a1 : Int) : u18 a0 a1 = cond (d18 a0 a1) (some (f18 (v18 a0 a1))) none := (pC (pS _) (pC (pS _) (pC (pS _) (pN _))))
def p18 : Prim := ⟨[.one (.dat (.sl 122 y121) true), oI], fun v => .br (d18 v.1 v.2.1) (.done (f18 (v18 v.1 v.2.1))) .no⟩
theorem ok18 : PO 18 p18 := pK E18l fun v => Eq.trans (b := u18 v.1 v.2.1) (by kernel_rfl) (o18 v.1 v.2.1)
def f124 (r : Int) : AV × Sig := (.one (.int .i64 r), [])
def E124 := ((E0.p ok162).p ok75)
def u124 (a0 : Ty.T y176) (a1 : Int) : Option (AV × Sig) := cond (decide ((v75 a0.2.1 a1) < (0 : Int))) (some (.one (.int .i64 (-1)), [])) (cond (decide ((v162 a0.2.2.2 (v75 a0.2.1 a1)) < (0 : Int))) (some (.one (.int .i64 (-1)), [])) (some (.one (.int .i64 (v162 a0.2.2.2 (v75 a0.2.1 a1))), [])))
def v124 (a0 : Ty.T y176) (a1 : Int) : Int := cond (decide ((v75 a0.2.1 a1) < (0 : Int))) ((-1)) (cond (decide ((v162 a0.2.2.2 (v75 a0.2.1 a1)) < (0 : Int))) ((-1)) ((v162 a0.2.2.2 (v75 a0.2.1 a1))))
theorem o124 (a0 : Ty.T y176) (a1 : Int) : u124 a0 a1 = some (f124 (v124 a0 a1)) := (tC rfl (tC rfl rfl))
def p124 : Prim := ⟨[.agg [.dat y176 true], oI], fun v => .done (f124 (v124 v.1 v.2.1))⟩
theorem ok124 : PO 124 p124 := pK E124 fun v => Eq.trans (b := u124 v.1 v.2.1) (by kernel_rfl) (o124 v.1 v.2.1)
def f49 (r : Int) : AV × Sig := (.one (.int .i64 r), [])
def E49 := (E0.p ok124)
@[reducible] def ss49_0 : List SP := .one (.dat (.sl 177 y176) true) :: oI :: U2 (oI :: oI :: U16 (U4 (.und :: [])))
@[reducible] def V49_0 : Type := (List (Ty.T y176)) × Int × Int × Int × Unit
def t49_0 (v : V49_0) {Z : Type} (κ : Nat × V49_0 -> Option Z) : Option Z := cond (decide (v.2.2.2.1 < ((v.1).length : Int))) (if 0 <= v.2.2.2.1 then (optC ((v.1)[(v.2.2.2.1).toNat]?) (fun x1 => cond (decide ((v124 x1 v.2.1) < (0 : Int))) (κ (1, (v.1, (v124 x1 v.2.1), (-1), v.2.2.2.1, ()))) (κ (0, (v.1, (v124 x1 v.2.1), v.2.2.1, IntKind.wrap .i64 (v.2.2.2.1 + (1 : Int)), ()))))) else none) (κ (2, (v.1, v.2.1, v.2.2.1, v.2.2.2.1, ())))
def s49_0 (v : V49_0) : Option (Nat × V49_0) := t49_0 v some
def n49_0 (v : V49_0) : Nat := v.1.length + v.2.1.toNat + v.2.2.1.toNat + v.2.2.2.1.toNat + 100
def k49_0 (h0 : List (Ty.T y176)) (h1 : Int) (h2 : Int) (h3 : Int) (c : Nat) : Bool := iK s49_0 n49_0 (h0, h1, h2, h3, ()) c
def w49_0 (h0 : List (Ty.T y176)) (h1 : Int) (h2 : Int) (h3 : Int) : V49_0 := iW s49_0 n49_0 (h0, h1, h2, h3, ())
def F49_0 (v : V49_0) : Ways (Ex × St) := waysOf s49_0 (n49_0 v) v (bldSt ss49_0 gs18_0) [.ret, .exit 0] 0
theorem l49_0 : LoopOk Tryz.prog (loopAt (pb 5 23) (bodyOf Tryz.f49)) ss49_0 gs18_0 F49_0 := loopOk_iter (lt := .none) E49.ok orders (LtOk.no _) fun n v K => Eq.trans (b := t49_0 v (kont _ _ _ _ _ K)) (by kernel_rfl) (show t49_0 v _ = (t49_0 v some).bind _ from (bC (bI (bO fun x1 => (bC rfl rfl))) rfl))
def E49l := E49.l (g := 49) (t := (ltPut (pb 5 23) (bodyOf Tryz.f49) .none (.sum ss49_0 gs18_0 F49_0))) (ltOk_of Tryz.func49 (LtOk.put (wf_of (by kernel_rfl)) (LtOk.no _) l49_0))
def u49 (a0 : List (Ty.T y176)) (a1 : Int) : Option (AV × Sig) := cond (decide ((IntKind.wrap .i64 (a1 - ((a0).length : Int))) < (0 : Int))) (some (.one (.int .i64 (-1)), [])) (cond (k49_0 a0 (IntKind.wrap .i64 (a1 - ((a0).length : Int))) 0 0 0) (some (.one (.int .i64 (w49_0 a0 (IntKind.wrap .i64 (a1 - ((a0).length : Int))) 0 0).2.2.1), [])) (cond (k49_0 a0 (IntKind.wrap .i64 (a1 - ((a0).length : Int))) 0 0 1) (some (.one (.int .i64 (w49_0 a0 (IntKind.wrap .i64 (a1 - ((a0).length : Int))) 0 0).2.1), [])) (none)))
def v49 (a0 : List (Ty.T y176)) (a1 : Int) : Int := cond (decide ((IntKind.wrap .i64 (a1 - ((a0).length : Int))) < (0 : Int))) ((-1)) (cond (k49_0 a0 (IntKind.wrap .i64 (a1 - ((a0).length : Int))) 0 0 0) ((w49_0 a0 (IntKind.wrap .i64 (a1 - ((a0).length : Int))) 0 0).2.2.1) (cond (k49_0 a0 (IntKind.wrap .i64 (a1 - ((a0).length : Int))) 0 0 1) ((w49_0 a0 (IntKind.wrap .i64 (a1 - ((a0).length : Int))) 0 0).2.1) (0)))
def d49 (a0 : List (Ty.T y176)) (a1 : Int) : Bool := cond (decide ((IntKind.wrap .i64 (a1 - ((a0).length : Int))) < (0 : Int))) (true) (cond (k49_0 a0 (IntKind.wrap .i64 (a1 - ((a0).length : Int))) 0 0 0) (true) (cond (k49_0 a0 (IntKind.wrap .i64 (a1 - ((a0).length : Int))) 0 0 1) (true) (false)))
theorem o49 (a0 : List (Ty.T y176)) (a1 : Int) : u49 a0 a1 = cond (d49 a0 a1) (some (f49 (v49 a0 a1))) none := (pC (pS _) (pC (pS _) (pC (pS _) (pN _))))
def p49 : Prim := ⟨[.one (.dat (.sl 177 y176) true), oI], fun v => .br (d49 v.1 v.2.1) (.done (f49 (v49 v.1 v.2.1))) .no⟩
theorem ok49 : PO 49 p49 := pK E49l fun v => Eq.trans (b := u49 v.1 v.2.1) (by kernel_rfl) (o49 v.1 v.2.1)
def f50 (r : Int) : AV × Sig := (.one (.int .i64 r), [])
def E50 := E0
def u50 (a0 : List (Ty.T (.int .i64))) (a1 : Int) : Option (AV × Sig) := cond (decide ((IntKind.wrap .i64 (a1 - ((a0).length : Int))) < (0 : Int))) (some (.one (.int .i64 (-1)), [])) (some (.one (.int .i64 (IntKind.wrap .i64 (a1 - ((a0).length : Int)))), []))
def v50 (a0 : List (Ty.T (.int .i64))) (a1 : Int) : Int := cond (decide ((IntKind.wrap .i64 (a1 - ((a0).length : Int))) < (0 : Int))) ((-1)) (IntKind.wrap .i64 (a1 - ((a0).length : Int)))
theorem o50 (a0 : List (Ty.T (.int .i64))) (a1 : Int) : u50 a0 a1 = some (f50 (v50 a0 a1)) := (tC rfl rfl)
def p50 : Prim := ⟨[.one (.dat (.sl 3 (.int .i64)) true), oI], fun v => .done (f50 (v50 v.1 v.2.1))⟩
theorem ok50 : PO 50 p50 := pK E50 fun v => Eq.trans (b := u50 v.1 v.2.1) (by kernel_rfl) (o50 v.1 v.2.1)
def f8 (r : Int) : AV × Sig := (.one (.int .i64 r), [])
def E8 := ((((E0.p ok17).p ok18).p ok49).p ok50)
def u8 (a0 : Ty.T y29) (a1 : Int) : Option (AV × Sig) := cond (decide ((v17 a0.1 a1) < (0 : Int))) (some (.one (.int .i64 (-1)), [])) (cond (d18 a0.2.1 (v17 a0.1 a1)) (cond (decide ((v18 a0.2.1 (v17 a0.1 a1)) < (0 : Int))) (some (.one (.int .i64 (-1)), [])) (cond (d49 a0.2.2.1 (v18 a0.2.1 (v17 a0.1 a1))) (cond (decide ((v49 a0.2.2.1 (v18 a0.2.1 (v17 a0.1 a1))) < (0 : Int))) (some (.one (.int .i64 (-1)), [])) (cond (decide ((v50 a0.2.2.2 (v49 a0.2.2.1 (v18 a0.2.1 (v17 a0.1 a1)))) < (0 : Int))) (some (.one (.int .i64 (-1)), [])) (some (.one (.int .i64 (v50 a0.2.2.2 (v49 a0.2.2.1 (v18 a0.2.1 (v17 a0.1 a1))))), [])))) (none))) (none))
def v8 (a0 : Ty.T y29) (a1 : Int) : Int := cond (decide ((v17 a0.1 a1) < (0 : Int))) ((-1)) (cond (d18 a0.2.1 (v17 a0.1 a1)) (cond (decide ((v18 a0.2.1 (v17 a0.1 a1)) < (0 : Int))) ((-1)) (cond (d49 a0.2.2.1 (v18 a0.2.1 (v17 a0.1 a1))) (cond (decide ((v49 a0.2.2.1 (v18 a0.2.1 (v17 a0.1 a1))) < (0 : Int))) ((-1)) (cond (decide ((v50 a0.2.2.2 (v49 a0.2.2.1 (v18 a0.2.1 (v17 a0.1 a1)))) < (0 : Int))) ((-1)) ((v50 a0.2.2.2 (v49 a0.2.2.1 (v18 a0.2.1 (v17 a0.1 a1))))))) (0))) (0))
def d8 (a0 : Ty.T y29) (a1 : Int) : Bool := cond (decide ((v17 a0.1 a1) < (0 : Int))) (true) (cond (d18 a0.2.1 (v17 a0.1 a1)) (cond (decide ((v18 a0.2.1 (v17 a0.1 a1)) < (0 : Int))) (true) (cond (d49 a0.2.2.1 (v18 a0.2.1 (v17 a0.1 a1))) (cond (decide ((v49 a0.2.2.1 (v18 a0.2.1 (v17 a0.1 a1))) < (0 : Int))) (true) (cond (decide ((v50 a0.2.2.2 (v49 a0.2.2.1 (v18 a0.2.1 (v17 a0.1 a1)))) < (0 : Int))) (true) (true))) (false))) (false))
theorem o8 (a0 : Ty.T y29) (a1 : Int) : u8 a0 a1 = cond (d8 a0 a1) (some (f8 (v8 a0 a1))) none := (pC (pS _) (pC (pC (pS _) (pC (pC (pS _) (pC (pS _) (pS _))) (pN _))) (pN _)))
def p8 : Prim := ⟨[.agg [.dat y29 true], oI], fun v => .br (d8 v.1 v.2.1) (.done (f8 (v8 v.1 v.2.1))) .no⟩
theorem ok8 : PO 8 p8 := pK E8 fun v => Eq.trans (b := u8 v.1 v.2.1) (by kernel_rfl) (o8 v.1 v.2.1)
def f51 (r : (List (Ty.T (.int .i64)))) : AV × Sig := (.one (.sl 4096), [(4096, .arr 3 (.int .i64) r false)])
def E51 := E0
@[reducible] def ss51_0 : List SP := .one (.dat (.sl 5 (.int .u8)) true) :: .und :: .one (.dat (.sl 3 (.int .i64)) false) :: .one (.own 5) :: oI :: U16 ([])
@[reducible] def gs51_0 : List (Nat × GP) := [(5, .arr 3 (.int .i64) false)]
@[reducible] def V51_0 : Type := (List (Ty.T (.int .u8))) × (List (Ty.T (.int .i64))) × Int × (List (Ty.T (.int .i64))) × Unit
def t51_0 (v : V51_0) {Z : Type} (κ : Nat × V51_0 -> Option Z) : Option Z := cond (decide (v.2.2.1 < ((v.1).length : Int))) (if 0 <= v.2.2.1 then (optC ((v.1)[(v.2.2.1).toNat]?) (fun x1 => if (v.2.2.2.1 ++ [IntKind.wrap .i64 x1] : List (Ty.T (.int .i64))).length * 8 <= 140737488351232 then (κ (0, (v.1, v.2.1, IntKind.wrap .i64 (v.2.2.1 + (1 : Int)), v.2.2.2.1 ++ [IntKind.wrap .i64 x1], ()))) else none)) else none) (κ (1, (v.1, v.2.1, v.2.2.1, v.2.2.2.1, ())))
def s51_0 (v : V51_0) : Option (Nat × V51_0) := t51_0 v some
def n51_0 (v : V51_0) : Nat := v.1.length + v.2.1.length + v.2.2.1.toNat + v.2.2.2.1.length + 100
def k51_0 (h0 : List (Ty.T (.int .u8))) (h1 : List (Ty.T (.int .i64))) (h2 : Int) (h3 : List (Ty.T (.int .i64))) (c : Nat) : Bool := iK s51_0 n51_0 (h0, h1, h2, h3, ()) c
def w51_0 (h0 : List (Ty.T (.int .u8))) (h1 : List (Ty.T (.int .i64))) (h2 : Int) (h3 : List (Ty.T (.int .i64))) : V51_0 := iW s51_0 n51_0 (h0, h1, h2, h3, ())
def F51_0 (v : V51_0) : Ways (Ex × St) := waysOf s51_0 (n51_0 v) v (bldSt ss51_0 gs51_0) [.exit 0] 0
theorem l51_0 : LoopOk Tryz.prog (loopAt (pb 4 11) (bodyOf Tryz.f51)) ss51_0 gs51_0 F51_0 := loopOk_iter (lt := .none) E51.ok orders (LtOk.no _) fun n v K => Eq.trans (b := t51_0 v (kont _ _ _ _ _ K)) (by kernel_rfl) (show t51_0 v _ = (t51_0 v some).bind _ from (bC (bI (bO fun x1 => (bI rfl))) rfl))
def E51l := E51.l (g := 51) (t := (ltPut (pb 4 11) (bodyOf Tryz.f51) .none (.sum ss51_0 gs51_0 F51_0))) (ltOk_of Tryz.func51 (LtOk.put (wf_of (by kernel_rfl)) (LtOk.no _) l51_0))
def u51 (a0 : List (Ty.T (.int .u8))) : Option (AV × Sig) := cond (k51_0 a0 [] 0 [] 0) (some (.one (.sl 4096), [(4096, .arr 3 (.int .i64) (w51_0 a0 [] 0 []).2.2.2.1 false)])) (none)
def v51 (a0 : List (Ty.T (.int .u8))) : (List (Ty.T (.int .i64))) := cond (k51_0 a0 [] 0 [] 0) ((w51_0 a0 [] 0 []).2.2.2.1) ([])
def d51 (a0 : List (Ty.T (.int .u8))) : Bool := cond (k51_0 a0 [] 0 [] 0) (true) (false)
theorem o51 (a0 : List (Ty.T (.int .u8))) : u51 a0 = cond (d51 a0) (some (f51 (v51 a0))) none := (pC (pS _) (pN _))
def p51 : Prim := ⟨[.one (.dat (.sl 5 (.int .u8)) true)], fun v => .br (d51 v.1) (.done (f51 (v51 v.1))) .no⟩
theorem ok51 : PO 51 p51 := pK E51l fun v => Eq.trans (b := u51 v.1) (by kernel_rfl) (o51 v.1)
def f131 (r : Int) : AV × Sig := (.one (.int .i64 r), [])
def E131 := E0
def u131 (a0 : Int) : Option (AV × Sig) := cond (decide (a0 > (2147483647 : Int))) (some (.one (.int .i64 2147483647), [])) (cond (decide (a0 < (-2147483647 : Int))) (some (.one (.int .i64 (-2147483647)), [])) (some (.one (.int .i64 a0), [])))
def v131 (a0 : Int) : Int := cond (decide (a0 > (2147483647 : Int))) (2147483647) (cond (decide (a0 < (-2147483647 : Int))) ((-2147483647)) (a0))
theorem o131 (a0 : Int) : u131 a0 = some (f131 (v131 a0)) := (tC rfl (tC rfl rfl))
def p131 : Prim := ⟨[oI], fun v => .done (f131 (v131 v.1))⟩
theorem ok131 : PO 131 p131 := pK E131 fun v => Eq.trans (b := u131 v.1) (by kernel_rfl) (o131 v.1)
def f55 (r : (List (Ty.T (.int .u8)))) : AV × Sig := (.one (.sl 4096), [(4096, .arr 5 (.int .u8) r false)])
def E55 := (E0.p ok131)
def t55 (a0 : List (Ty.T (.int .u8))) (a1 : Int) {Z : Type} (κ : (List (Ty.T (.int .u8))) -> Option Z) : Option Z := if ([] ++ a0 : List (Ty.T (.int .u8))).length * 1 <= 140737488351232 then (if (([] ++ a0) ++ [IntKind.wrap .u8 (IntKind.wrap .i64 ((BitVec.ofInt (IntKind.bits .i64) (Int.fdiv (IntKind.wrap .i64 ((v131 a1) + (2147483648 : Int))) (2 ^ 24)) &&& BitVec.ofInt (IntKind.bits .i64) (255 : Int)).toNat : Int)), IntKind.wrap .u8 (IntKind.wrap .i64 ((BitVec.ofInt (IntKind.bits .i64) (Int.fdiv (IntKind.wrap .i64 ((v131 a1) + (2147483648 : Int))) (2 ^ 16)) &&& BitVec.ofInt (IntKind.bits .i64) (255 : Int)).toNat : Int)), IntKind.wrap .u8 (IntKind.wrap .i64 ((BitVec.ofInt (IntKind.bits .i64) (Int.fdiv (IntKind.wrap .i64 ((v131 a1) + (2147483648 : Int))) (2 ^ 8)) &&& BitVec.ofInt (IntKind.bits .i64) (255 : Int)).toNat : Int)), IntKind.wrap .u8 (IntKind.wrap .i64 ((BitVec.ofInt (IntKind.bits .i64) (IntKind.wrap .i64 ((v131 a1) + (2147483648 : Int))) &&& BitVec.ofInt (IntKind.bits .i64) (255 : Int)).toNat : Int))] : List (Ty.T (.int .u8))).length * 1 <= 140737488351232 then (κ (([] ++ a0) ++ [IntKind.wrap .u8 (IntKind.wrap .i64 ((BitVec.ofInt (IntKind.bits .i64) (Int.fdiv (IntKind.wrap .i64 ((v131 a1) + (2147483648 : Int))) (2 ^ 24)) &&& BitVec.ofInt (IntKind.bits .i64) (255 : Int)).toNat : Int)), IntKind.wrap .u8 (IntKind.wrap .i64 ((BitVec.ofInt (IntKind.bits .i64) (Int.fdiv (IntKind.wrap .i64 ((v131 a1) + (2147483648 : Int))) (2 ^ 16)) &&& BitVec.ofInt (IntKind.bits .i64) (255 : Int)).toNat : Int)), IntKind.wrap .u8 (IntKind.wrap .i64 ((BitVec.ofInt (IntKind.bits .i64) (Int.fdiv (IntKind.wrap .i64 ((v131 a1) + (2147483648 : Int))) (2 ^ 8)) &&& BitVec.ofInt (IntKind.bits .i64) (255 : Int)).toNat : Int)), IntKind.wrap .u8 (IntKind.wrap .i64 ((BitVec.ofInt (IntKind.bits .i64) (IntKind.wrap .i64 ((v131 a1) + (2147483648 : Int))) &&& BitVec.ofInt (IntKind.bits .i64) (255 : Int)).toNat : Int))])) else none) else none
def v55 (a0 : List (Ty.T (.int .u8))) (a1 : Int) : (List (Ty.T (.int .u8))) := (t55 a0 a1 some).getD []
def d55 (a0 : List (Ty.T (.int .u8))) (a1 : Int) : Bool := (t55 a0 a1 some).isSome
def p55 : Prim := ⟨[.one (.dat (.sl 5 (.int .u8)) true), oI], fun v => .br (d55 v.1 v.2.1) (.done (f55 (v55 v.1 v.2.1))) .no⟩
theorem ok55 : PO 55 p55 := pK E55 fun v => Eq.trans (b := (t55 v.1 v.2.1 (sm f55))) (by kernel_rfl) (run_fin (show t55 v.1 v.2.1 (sm f55) = (t55 v.1 v.2.1 some).bind _ from (bI (bI rfl))))
def f129 (r : Bool) : AV × Sig := (.one (.bool r), [])
def E129 := E0
def u129 (a0 : Int) (a1 : Int) (a2 : Int) : Option (AV × Sig) := cond (decide (a0 ≥ a1)) (some (.one (.bool (decide (a0 <= a2))), [])) (some (.one (.bool false), []))
def v129 (a0 : Int) (a1 : Int) (a2 : Int) : Bool := cond (decide (a0 ≥ a1)) (decide (a0 <= a2)) (false)
theorem o129 (a0 : Int) (a1 : Int) (a2 : Int) : u129 a0 a1 a2 = some (f129 (v129 a0 a1 a2)) := (tC rfl rfl)
def p129 : Prim := ⟨[oI, oI, oI], fun v => .done (f129 (v129 v.1 v.2.1 v.2.2.1))⟩
theorem ok129 : PO 129 p129 := pK E129 fun v => Eq.trans (b := u129 v.1 v.2.1 v.2.2.1) (by kernel_rfl) (o129 v.1 v.2.1 v.2.2.1)
def f198 (r : Bool) : AV × Sig := (.one (.bool r), [])
def E198 := (E0.p ok129)
def t198 (a0 : Ty.T y179) {Z : Type} (κ : Bool -> Z) : Z := cond (!(v129 a0.1 1 99)) (κ false) (cond (!(v129 a0.2.1 0 2)) (κ false) (cond (!(v129 a0.2.2.1 0 2)) (κ false) (cond (!(v129 a0.2.2.2.1 1 4)) (κ false) (cond (!(v129 a0.2.2.2.2.1 0 9999)) (κ false) (cond (!(v129 a0.2.2.2.2.2.1 0 999)) (κ false) (cond (!(v129 a0.2.2.2.2.2.2.1 0 999)) (κ false) (cond (!(v129 a0.2.2.2.2.2.2.2.1 0 63)) (κ false) (cond (!(v129 a0.2.2.2.2.2.2.2.2.1 0 2147483647)) (κ false) (cond (!(v129 a0.2.2.2.2.2.2.2.2.2.1 0 2147483647)) (κ false) (cond (!(v129 a0.2.2.2.2.2.2.2.2.2.2.1 0 2147483647)) (κ false) (cond (a0.2.2.2.1 == (2 : Int)) (κ true) (cond (a0.2.2.1 == a0.2.1) (cond (a0.2.2.2.2.2.2.2.2.1 == (0 : Int)) (cond (a0.2.2.2.2.2.2.2.2.2.1 == (0 : Int)) (cond (a0.2.2.2.2.2.2.2.2.2.2.1 == (0 : Int)) (cond (!a0.2.2.2.2.2.2.2.2.2.2.2.1) (κ (!a0.2.2.2.2.2.2.2.2.2.2.2.2)) (κ false)) (κ false)) (κ false)) (κ false)) (κ false)))))))))))))
def v198 (a0 : Ty.T y179) : Bool := t198 a0 fun r => r
def p198 : Prim := ⟨[.agg [.dat y179 true]], fun v => .done (f198 (v198 v.1))⟩
theorem ok198 : PO 198 p198 := pK E198 fun v => Eq.trans (b := (t198 v.1 (sm f198))) (by kernel_rfl) (show t198 v.1 (sm f198) = some (f198 (t198 v.1 fun r => r)) from (tC rfl (tC rfl (tC rfl (tC rfl (tC rfl (tC rfl (tC rfl (tC rfl (tC rfl (tC rfl (tC rfl (tC rfl (tC (tC (tC (tC (tC rfl rfl) rfl) rfl) rfl) rfl))))))))))))))
def f199 (r : Bool) : AV × Sig := (.one (.bool r), [])
def E199 := (E0.p ok129)
def u199 (a0 : Ty.T y181) : Option (AV × Sig) := cond (v129 a0.1 (-2147483647) 2147483647) (some (.one (.bool (v129 a0.2.1 0 2147483647)), [])) (some (.one (.bool false), []))
def v199 (a0 : Ty.T y181) : Bool := cond (v129 a0.1 (-2147483647) 2147483647) ((v129 a0.2.1 0 2147483647)) (false)
theorem o199 (a0 : Ty.T y181) : u199 a0 = some (f199 (v199 a0)) := (tC rfl rfl)
def p199 : Prim := ⟨[.agg [.dat y181 true]], fun v => .done (f199 (v199 v.1))⟩
theorem ok199 : PO 199 p199 := pK E199 fun v => Eq.trans (b := u199 v.1) (by kernel_rfl) (o199 v.1)
def f125 (r : Bool) : AV × Sig := (.one (.bool r), [])
def E125 := (((E0.p ok129).p ok198).p ok199)
@[reducible] def ss125_0 : List SP := .und :: .one (.ptr 1 0) :: .one (.dat .bool true) :: oI :: U64 (U32 (.und :: []))
@[reducible] def gs125_0 : List (Nat × GP) := [(1, .box 37 [.dat y36 true])]
@[reducible] def V125_0 : Type := Bool × Int × (Ty.T y36) × Unit
def t125_0 (v : V125_0) {Z : Type} (κ : Nat × V125_0 -> Option Z) : Option Z := cond (decide (v.2.1 < ((v.2.2.1.1).length : Int))) (if 0 <= v.2.1 then (optC ((v.2.2.1.1)[(v.2.1).toNat]?) (fun x1 => cond (!(v198 x1)) (κ (1, (false, v.2.1, v.2.2.1, ()))) (cond (decide (v.2.1 > (0 : Int))) (if 0 <= (IntKind.wrap .i64 (v.2.1 - (1 : Int))) then (optC ((v.2.2.1.1)[(IntKind.wrap .i64 (v.2.1 - (1 : Int))).toNat]?) (fun x2 => cond (decide (x2.1 ≥ x1.1)) (κ (1, (false, v.2.1, v.2.2.1, ()))) (cond (decide (x1.2.1 ≥ ((v.2.2.1.2.1).length : Int))) (κ (1, (false, v.2.1, v.2.2.1, ()))) (cond (decide (x1.2.2.1 ≥ ((v.2.2.1.2.1).length : Int))) (κ (1, (false, v.2.1, v.2.2.1, ()))) (cond (decide (x1.2.2.2.2.1 > v.2.2.1.2.2.2)) (κ (1, (false, v.2.1, v.2.2.1, ()))) (κ (0, (v.1, IntKind.wrap .i64 (v.2.1 + (1 : Int)), v.2.2.1, ())))))))) else none) (cond (decide (x1.2.1 ≥ ((v.2.2.1.2.1).length : Int))) (κ (1, (false, v.2.1, v.2.2.1, ()))) (cond (decide (x1.2.2.1 ≥ ((v.2.2.1.2.1).length : Int))) (κ (1, (false, v.2.1, v.2.2.1, ()))) (cond (decide (x1.2.2.2.2.1 > v.2.2.1.2.2.2)) (κ (1, (false, v.2.1, v.2.2.1, ()))) (κ (0, (v.1, IntKind.wrap .i64 (v.2.1 + (1 : Int)), v.2.2.1, ()))))))))) else none) (κ (2, (v.1, v.2.1, v.2.2.1, ())))
def s125_0 (v : V125_0) : Option (Nat × V125_0) := t125_0 v some
def n125_0 (v : V125_0) : Nat := v.2.1.toNat + v.2.2.1.1.length + v.2.2.1.2.1.length + 100
def k125_0 (h0 : Bool) (h1 : Int) (h2 : Ty.T y36) (c : Nat) : Bool := iK s125_0 n125_0 (h0, h1, h2, ()) c
def w125_0 (h0 : Bool) (h1 : Int) (h2 : Ty.T y36) : V125_0 := iW s125_0 n125_0 (h0, h1, h2, ())
def F125_0 (v : V125_0) : Ways (Ex × St) := waysOf s125_0 (n125_0 v) v (bldSt ss125_0 gs125_0) [.ret, .exit 0] 0
theorem l125_0 : LoopOk Tryz.prog (loopAt (pb 4 11) (bodyOf Tryz.f125)) ss125_0 gs125_0 F125_0 := loopOk_iter (lt := .none) E125.ok orders (LtOk.no _) fun n v K => Eq.trans (b := t125_0 v (kont _ _ _ _ _ K)) (by kernel_rfl) (show t125_0 v _ = (t125_0 v some).bind _ from (bC (bI (bO fun x1 => (bC rfl (bC (bI (bO fun x2 => (bC rfl (bC rfl (bC rfl (bC rfl rfl)))))) (bC rfl (bC rfl (bC rfl rfl))))))) rfl))
@[reducible] def ss125_1 : List SP := .und :: .one (.ptr 1 0) :: .one (.dat .bool true) :: U2 (oI :: U64 (U16 (U8 (U4 (U2 (.und :: []))))))
def t125_1 (v : V125_0) {Z : Type} (κ : Nat × V125_0 -> Option Z) : Option Z := cond (decide (v.2.1 < ((v.2.2.1.2.1).length : Int))) (if 0 <= v.2.1 then (optC ((v.2.2.1.2.1)[(v.2.1).toNat]?) (fun x3 => cond (!(v199 x3)) (κ (1, (false, v.2.1, v.2.2.1, ()))) (κ (0, (v.1, IntKind.wrap .i64 (v.2.1 + (1 : Int)), v.2.2.1, ()))))) else none) (κ (2, (v.1, v.2.1, v.2.2.1, ())))
def s125_1 (v : V125_0) : Option (Nat × V125_0) := t125_1 v some
def n125_1 (v : V125_0) : Nat := v.2.1.toNat + v.2.2.1.1.length + v.2.2.1.2.1.length + 100
def k125_1 (h0 : Bool) (h1 : Int) (h2 : Ty.T y36) (c : Nat) : Bool := iK s125_1 n125_1 (h0, h1, h2, ()) c
def w125_1 (h0 : Bool) (h1 : Int) (h2 : Ty.T y36) : V125_0 := iW s125_1 n125_1 (h0, h1, h2, ())
def F125_1 (v : V125_0) : Ways (Ex × St) := waysOf s125_1 (n125_1 v) v (bldSt ss125_1 gs125_0) [.ret, .exit 2] 0
theorem l125_1 : LoopOk Tryz.prog (loopAt (pb 5 23) (bodyOf Tryz.f125)) ss125_1 gs125_0 F125_1 := loopOk_iter (lt := .none) E125.ok orders (LtOk.no _) fun n v K => Eq.trans (b := t125_1 v (kont _ _ _ _ _ K)) (by kernel_rfl) (show t125_1 v _ = (t125_1 v some).bind _ from (bC (bI (bO fun x3 => (bC rfl rfl))) rfl))
def E125l := E125.l (g := 125) (t := (ltPut (pb 5 23) (bodyOf Tryz.f125) (ltPut (pb 4 11) (bodyOf Tryz.f125) .none (.sum ss125_0 gs125_0 F125_0)) (.sum ss125_1 gs125_0 F125_1))) (ltOk_of Tryz.func125 (LtOk.put (wf_of (by kernel_rfl)) (LtOk.put (wf_of (by kernel_rfl)) (LtOk.no _) l125_0) l125_1))
def t125 (a0 : Ty.T y36) {Z : Type} (κ : Bool -> Option Z) : Option Z := cond (decide (((a0.1).length : Int) > (8 : Int))) (κ false) (cond (!(v129 ((a0.2.1).length : Int) 2 3)) (κ false) (cond (!(v129 a0.2.2.1 0 (IntKind.wrap .i64 (((a0.2.1).length : Int) - (1 : Int))))) (κ false) (cond (!(v129 a0.2.2.2 0 9999)) (κ false) (cond (k125_0 false 0 a0 0) (κ (w125_0 false 0 a0).1) (cond (k125_0 false 0 a0 1) (cond (k125_1 (w125_0 false 0 a0).1 0 (w125_0 false 0 a0).2.2.1 0) (κ (w125_1 (w125_0 false 0 a0).1 0 (w125_0 false 0 a0).2.2.1).1) (cond (k125_1 (w125_0 false 0 a0).1 0 (w125_0 false 0 a0).2.2.1 1) (κ true) (none))) (none))))))
def v125 (a0 : Ty.T y36) : Bool := (t125 a0 some).getD false
def d125 (a0 : Ty.T y36) : Bool := (t125 a0 some).isSome
def p125 : Prim := ⟨[.agg [.dat y36 true]], fun v => .br (d125 v.1) (.done (f125 (v125 v.1))) .no⟩
theorem ok125 : PO 125 p125 := pK E125l fun v => Eq.trans (b := (t125 v.1 (sm f125))) (by kernel_rfl) (run_fin (show t125 v.1 (sm f125) = (t125 v.1 some).bind _ from by unfold t125; simp only [bb]))
def f127 (r : Int) : AV × Sig := (.one (.int .i64 r), [])
def E127 := E0
def u127 (a0 : Bool) : Option (AV × Sig) := cond a0 (some (.one (.int .i64 1), [])) (some (.one (.int .i64 0), []))
def v127 (a0 : Bool) : Int := cond a0 (1) (0)
theorem o127 (a0 : Bool) : u127 a0 = some (f127 (v127 a0)) := (tC rfl rfl)
def p127 : Prim := ⟨[.one (.dat .bool true)], fun v => .done (f127 (v127 v.1))⟩
theorem ok127 : PO 127 p127 := pK E127 fun v => Eq.trans (b := u127 v.1) (by kernel_rfl) (o127 v.1)
def f126 (r : (List (Ty.T (.int .u8)))) : AV × Sig := (.one (.sl 4096), [(4096, .arr 5 (.int .u8) r false)])
def E126 := (((E0.p ok127).p ok198).p ok55)
@[reducible] def ss126_0 : List SP := U4 (.one (.dat (.sl 5 (.int .u8)) false) :: .one (.own 8) :: .one (.own 43) :: oI :: U32 (U16 (.und :: [])))
@[reducible] def gs126_0 : List (Nat × GP) := [(8, .arr 5 (.int .u8) false), (43, .arr 3 (.int .i64) false)]
@[reducible] def V126_0 : Type := (List (Ty.T (.int .u8))) × Int × (List (Ty.T (.int .u8))) × (List (Ty.T (.int .i64))) × Unit
def t126_0 (v : V126_0) {Z : Type} (κ : Nat × V126_0 -> Option Z) : Option Z := cond (decide (v.2.1 < ((v.2.2.2.1).length : Int))) (if 0 <= v.2.1 then (if v.2.1 < ((v.2.2.2.1).length : Int) then (optC ((v.2.2.2.1)[(v.2.1).toNat]?) (fun x1 => cond (d55 v.2.2.1 x1) (κ (0, (v.1, IntKind.wrap .i64 (v.2.1 + (1 : Int)), (v55 v.2.2.1 x1), v.2.2.2.1, ()))) (none))) else none) else none) (κ (1, (v.1, v.2.1, v.2.2.1, v.2.2.2.1, ())))
def s126_0 (v : V126_0) : Option (Nat × V126_0) := t126_0 v some
def n126_0 (v : V126_0) : Nat := v.1.length + v.2.1.toNat + v.2.2.1.length + v.2.2.2.1.length + 100
def k126_0 (h0 : List (Ty.T (.int .u8))) (h1 : Int) (h2 : List (Ty.T (.int .u8))) (h3 : List (Ty.T (.int .i64))) (c : Nat) : Bool := iK s126_0 n126_0 (h0, h1, h2, h3, ()) c
def w126_0 (h0 : List (Ty.T (.int .u8))) (h1 : Int) (h2 : List (Ty.T (.int .u8))) (h3 : List (Ty.T (.int .i64))) : V126_0 := iW s126_0 n126_0 (h0, h1, h2, h3, ())
def F126_0 (v : V126_0) : Ways (Ex × St) := waysOf s126_0 (n126_0 v) v (bldSt ss126_0 gs126_0) [.exit 0] 0
theorem l126_0 : LoopOk Tryz.prog (loopAt (pb 6 47) (bodyOf Tryz.f126)) ss126_0 gs126_0 F126_0 := loopOk_iter (lt := .none) E126.ok orders (LtOk.no _) fun n v K => Eq.trans (b := t126_0 v (kont _ _ _ _ _ K)) (by kernel_rfl) (show t126_0 v _ = (t126_0 v some).bind _ from (bC (bI (bI (bO fun x1 => (bC rfl rfl)))) rfl))
def E126l := E126.l (g := 126) (t := (ltPut (pb 6 47) (bodyOf Tryz.f126) .none (.sum ss126_0 gs126_0 F126_0))) (ltOk_of Tryz.func126 (LtOk.put (wf_of (by kernel_rfl)) (LtOk.no _) l126_0))
def t126 (a0 : List (Ty.T (.int .u8))) (a1 : Ty.T y179) {Z : Type} (κ : (List (Ty.T (.int .u8))) -> Option Z) : Option Z := if ([] ++ a0 : List (Ty.T (.int .u8))).length * 1 <= 140737488351232 then (cond (!(v198 a1)) (κ ([] ++ a0)) (cond (k126_0 [] 0 ([] ++ a0) [a1.1, a1.2.1, a1.2.2.1, a1.2.2.2.1, a1.2.2.2.2.1, a1.2.2.2.2.2.1, a1.2.2.2.2.2.2.1, a1.2.2.2.2.2.2.2.1, a1.2.2.2.2.2.2.2.2.1, a1.2.2.2.2.2.2.2.2.2.1, a1.2.2.2.2.2.2.2.2.2.2.1, (v127 a1.2.2.2.2.2.2.2.2.2.2.2.1), (v127 a1.2.2.2.2.2.2.2.2.2.2.2.2)] 0) (κ (w126_0 [] 0 ([] ++ a0) [a1.1, a1.2.1, a1.2.2.1, a1.2.2.2.1, a1.2.2.2.2.1, a1.2.2.2.2.2.1, a1.2.2.2.2.2.2.1, a1.2.2.2.2.2.2.2.1, a1.2.2.2.2.2.2.2.2.1, a1.2.2.2.2.2.2.2.2.2.1, a1.2.2.2.2.2.2.2.2.2.2.1, (v127 a1.2.2.2.2.2.2.2.2.2.2.2.1), (v127 a1.2.2.2.2.2.2.2.2.2.2.2.2)]).2.2.1) (none))) else none
def v126 (a0 : List (Ty.T (.int .u8))) (a1 : Ty.T y179) : (List (Ty.T (.int .u8))) := (t126 a0 a1 some).getD []
def d126 (a0 : List (Ty.T (.int .u8))) (a1 : Ty.T y179) : Bool := (t126 a0 a1 some).isSome
def p126 : Prim := ⟨[.one (.dat (.sl 5 (.int .u8)) true), .agg [.dat y179 true]], fun v => .br (d126 v.1 v.2.1) (.done (f126 (v126 v.1 v.2.1))) .no⟩
theorem ok126 : PO 126 p126 := pK E126l fun v => Eq.trans (b := (t126 v.1 v.2.1 (sm f126))) (by kernel_rfl) (run_fin (show t126 v.1 v.2.1 (sm f126) = (t126 v.1 v.2.1 some).bind _ from (bI (bC rfl (bC rfl rfl)))))
def f52 (r : (List (Ty.T (.int .u8)))) : AV × Sig := (.one (.sl 4096), [(4096, .arr 5 (.int .u8) r false)])
def E52 := ((((E0.p ok125).p ok126).p ok127).p ok55)
@[reducible] def ss52_0 : List SP := .und :: .one (.ptr 1 0) :: .one (.dat (.sl 5 (.int .u8)) false) :: .one (.own 4110) :: oI :: U64 (U2 ([]))
@[reducible] def gs52_0 : List (Nat × GP) := [(1, .box 37 [.dat y36 true]), (4110, .arr 5 (.int .u8) false)]
@[reducible] def V52_0 : Type := (List (Ty.T (.int .u8))) × Int × (Ty.T y36) × (List (Ty.T (.int .u8))) × Unit
def t52_0 (v : V52_0) {Z : Type} (κ : Nat × V52_0 -> Option Z) : Option Z := cond (decide (v.2.1 < ((v.2.2.1.1).length : Int))) (if 0 <= v.2.1 then (optC ((v.2.2.1.1)[(v.2.1).toNat]?) (fun x1 => cond (d126 v.2.2.2.1 x1) (κ (0, (v.1, IntKind.wrap .i64 (v.2.1 + (1 : Int)), v.2.2.1, (v126 v.2.2.2.1 x1), ()))) (none))) else none) (κ (1, (v.1, v.2.1, v.2.2.1, v.2.2.2.1, ())))
def s52_0 (v : V52_0) : Option (Nat × V52_0) := t52_0 v some
def n52_0 (v : V52_0) : Nat := v.1.length + v.2.1.toNat + v.2.2.1.1.length + v.2.2.1.2.1.length + v.2.2.2.1.length + 100
def k52_0 (h0 : List (Ty.T (.int .u8))) (h1 : Int) (h2 : Ty.T y36) (h3 : List (Ty.T (.int .u8))) (c : Nat) : Bool := iK s52_0 n52_0 (h0, h1, h2, h3, ()) c
def w52_0 (h0 : List (Ty.T (.int .u8))) (h1 : Int) (h2 : Ty.T y36) (h3 : List (Ty.T (.int .u8))) : V52_0 := iW s52_0 n52_0 (h0, h1, h2, h3, ())
def F52_0 (v : V52_0) : Ways (Ex × St) := waysOf s52_0 (n52_0 v) v (bldSt ss52_0 gs52_0) [.exit 0] 0
theorem l52_0 : LoopOk Tryz.prog (loopAt (pb 5 23) (bodyOf Tryz.f52)) ss52_0 gs52_0 F52_0 := loopOk_iter (lt := .none) E52.ok orders (LtOk.no _) fun n v K => Eq.trans (b := t52_0 v (kont _ _ _ _ _ K)) (by kernel_rfl) (show t52_0 v _ = (t52_0 v some).bind _ from (bC (bI (bO fun x1 => (bC rfl rfl))) rfl))
@[reducible] def ss52_1 : List SP := .und :: .one (.ptr 1 0) :: .one (.dat (.sl 5 (.int .u8)) false) :: .one (.own 4129) :: .und :: oI :: U64 (.und :: [])
@[reducible] def gs52_1 : List (Nat × GP) := [(1, .box 37 [.dat y36 true]), (4129, .arr 5 (.int .u8) false)]
def t52_1 (v : V52_0) {Z : Type} (κ : Nat × V52_0 -> Option Z) : Option Z := cond (decide (v.2.1 < ((v.2.2.1.2.1).length : Int))) (if 0 <= v.2.1 then (optC ((v.2.2.1.2.1)[(v.2.1).toNat]?) (fun x2 => cond (d55 v.2.2.2.1 x2.1) (if 0 <= v.2.1 then (optC ((v.2.2.1.2.1)[(v.2.1).toNat]?) (fun x3 => cond (d55 (v55 v.2.2.2.1 x2.1) x3.2.1) (if 0 <= v.2.1 then (optC ((v.2.2.1.2.1)[(v.2.1).toNat]?) (fun x4 => cond (d55 (v55 (v55 v.2.2.2.1 x2.1) x3.2.1) (v127 x4.2.2)) (κ (0, (v.1, IntKind.wrap .i64 (v.2.1 + (1 : Int)), v.2.2.1, (v55 (v55 (v55 v.2.2.2.1 x2.1) x3.2.1) (v127 x4.2.2)), ()))) (none))) else none) (none))) else none) (none))) else none) (κ (1, (v.1, v.2.1, v.2.2.1, v.2.2.2.1, ())))
def s52_1 (v : V52_0) : Option (Nat × V52_0) := t52_1 v some
def n52_1 (v : V52_0) : Nat := v.1.length + v.2.1.toNat + v.2.2.1.1.length + v.2.2.1.2.1.length + v.2.2.2.1.length + 100
def k52_1 (h0 : List (Ty.T (.int .u8))) (h1 : Int) (h2 : Ty.T y36) (h3 : List (Ty.T (.int .u8))) (c : Nat) : Bool := iK s52_1 n52_1 (h0, h1, h2, h3, ()) c
def w52_1 (h0 : List (Ty.T (.int .u8))) (h1 : Int) (h2 : Ty.T y36) (h3 : List (Ty.T (.int .u8))) : V52_0 := iW s52_1 n52_1 (h0, h1, h2, h3, ())
def F52_1 (v : V52_0) : Ways (Ex × St) := waysOf s52_1 (n52_1 v) v (bldSt ss52_1 gs52_1) [.exit 2] 0
theorem l52_1 : LoopOk Tryz.prog (loopAt (pb 7 95) (bodyOf Tryz.f52)) ss52_1 gs52_1 F52_1 := loopOk_iter (lt := .none) E52.ok orders (LtOk.no _) fun n v K => Eq.trans (b := t52_1 v (kont _ _ _ _ _ K)) (by kernel_rfl) (show t52_1 v _ = (t52_1 v some).bind _ from (bC (bI (bO fun x2 => (bC (bI (bO fun x3 => (bC (bI (bO fun x4 => (bC rfl rfl))) rfl))) rfl))) rfl))
def E52l := E52.l (g := 52) (t := (ltPut (pb 7 95) (bodyOf Tryz.f52) (ltPut (pb 5 23) (bodyOf Tryz.f52) .none (.sum ss52_0 gs52_0 F52_0)) (.sum ss52_1 gs52_1 F52_1))) (ltOk_of Tryz.func52 (LtOk.put (wf_of (by kernel_rfl)) (LtOk.put (wf_of (by kernel_rfl)) (LtOk.no _) l52_0) l52_1))
def e52_0 (a0 : Ty.T y36) := (v55 (w52_0 [] 0 a0 (v55 [] ((a0.1).length : Int))).2.2.2.1 (((w52_0 [] 0 a0 (v55 [] ((a0.1).length : Int))).2.2.1.2.1).length : Int))
def e52_1 (a0 : Ty.T y36) := (w52_1 (w52_0 [] 0 a0 (v55 [] ((a0.1).length : Int))).1 0 (w52_0 [] 0 a0 (v55 [] ((a0.1).length : Int))).2.2.1 (e52_0 a0))
def t52 (a0 : Ty.T y36) {Z : Type} (κ : (List (Ty.T (.int .u8))) -> Option Z) : Option Z := cond (d125 a0) (cond (!(v125 a0)) (κ []) (cond (d55 [] ((a0.1).length : Int)) (cond (k52_0 [] 0 a0 (v55 [] ((a0.1).length : Int)) 0) (cond (d55 (w52_0 [] 0 a0 (v55 [] ((a0.1).length : Int))).2.2.2.1 (((w52_0 [] 0 a0 (v55 [] ((a0.1).length : Int))).2.2.1.2.1).length : Int)) (cond (k52_1 (w52_0 [] 0 a0 (v55 [] ((a0.1).length : Int))).1 0 (w52_0 [] 0 a0 (v55 [] ((a0.1).length : Int))).2.2.1 (e52_0 a0) 0) (cond (d55 (e52_1 a0).2.2.2.1 (e52_1 a0).2.2.1.2.2.1) (cond (d55 (v55 (e52_1 a0).2.2.2.1 (e52_1 a0).2.2.1.2.2.1) (e52_1 a0).2.2.1.2.2.2) (κ (v55 (v55 (e52_1 a0).2.2.2.1 (e52_1 a0).2.2.1.2.2.1) (e52_1 a0).2.2.1.2.2.2)) (none)) (none)) (none)) (none)) (none)) (none))) (none)
def v52 (a0 : Ty.T y36) : (List (Ty.T (.int .u8))) := (t52 a0 some).getD []
def d52 (a0 : Ty.T y36) : Bool := (t52 a0 some).isSome
def p52 : Prim := ⟨[.agg [.dat y36 true]], fun v => .br (d52 v.1) (.done (f52 (v52 v.1))) .no⟩
theorem ok52 : PO 52 p52 := pK E52l fun v => Eq.trans (b := (t52 v.1 (sm f52))) (by kernel_rfl) (run_fin (show t52 v.1 (sm f52) = (t52 v.1 some).bind _ from by unfold t52; simp only [bb]))
def f241 (r : Bool) : AV × Sig := (.one (.bool r), [])
def E241 := (E0.p ok129)
def t241 (a0 : Ty.T y96) {Z : Type} (κ : Bool -> Z) : Z := cond (!(v129 a0.1 1 6)) (κ false) (cond (!(v129 a0.2.1 0 2)) (κ false) (cond (!(v129 a0.2.2.2.2.1 0 99)) (κ false) (cond (!(v129 a0.2.2.2.2.2.1 0 2147483647)) (κ false) (cond (!(v129 a0.2.2.1 0 99)) (κ false) (cond (!(v129 a0.2.2.2.1 0 63)) (κ false) (cond (!(v129 a0.2.2.2.2.2.2 0 4)) (κ false) (cond (a0.1 != (1 : Int)) (cond (a0.2.2.1 != (0 : Int)) (κ false) (cond (a0.2.2.2.1 != (0 : Int)) (κ false) (cond (a0.1 != (2 : Int)) (cond (a0.2.2.2.2.2.2 != (0 : Int)) (κ false) (cond (a0.1 != (3 : Int)) (cond (a0.1 != (4 : Int)) (κ true) (κ (a0.2.2.2.2.1 == (0 : Int)))) (κ (a0.2.2.2.2.1 == (0 : Int))))) (cond (a0.1 != (3 : Int)) (cond (a0.1 != (4 : Int)) (κ true) (κ (a0.2.2.2.2.1 == (0 : Int)))) (κ (a0.2.2.2.2.1 == (0 : Int))))))) (cond (a0.1 != (2 : Int)) (cond (a0.2.2.2.2.2.2 != (0 : Int)) (κ false) (cond (a0.1 != (3 : Int)) (cond (a0.1 != (4 : Int)) (κ true) (κ (a0.2.2.2.2.1 == (0 : Int)))) (κ (a0.2.2.2.2.1 == (0 : Int))))) (cond (a0.1 != (3 : Int)) (cond (a0.1 != (4 : Int)) (κ true) (κ (a0.2.2.2.2.1 == (0 : Int)))) (κ (a0.2.2.2.2.1 == (0 : Int))))))))))))
def v241 (a0 : Ty.T y96) : Bool := t241 a0 fun r => r
def p241 : Prim := ⟨[.agg [.dat y96 true]], fun v => .done (f241 (v241 v.1))⟩
theorem ok241 : PO 241 p241 := pK E241 fun v => Eq.trans (b := (t241 v.1 (sm f241))) (by kernel_rfl) (show t241 v.1 (sm f241) = some (f241 (t241 v.1 fun r => r)) from (tC rfl (tC rfl (tC rfl (tC rfl (tC rfl (tC rfl (tC rfl (tC (tC rfl (tC rfl (tC (tC rfl (tC (tC rfl rfl) rfl)) (tC (tC rfl rfl) rfl)))) (tC (tC rfl (tC (tC rfl rfl) rfl)) (tC (tC rfl rfl) rfl)))))))))))
def f242 (r : Bool) : AV × Sig := (.one (.bool r), [])
def E242 := (E0.p ok129)
def t242 (a0 : Ty.T y98) {Z : Type} (κ : Bool -> Z) : Z := cond (a0.1 == (0 : Int)) (cond (a0.1 == (0 : Int)) (κ (a0.2 == (0 : Int))) (cond (a0.1 == (1 : Int)) (κ (v129 a0.2 (-2147483647) 2147483647)) (cond (a0.1 == (2 : Int)) (κ (v129 a0.2 0 8)) (cond (a0.1 == (4 : Int)) (κ (v129 a0.2 0 8)) (κ false))))) (cond (a0.1 == (3 : Int)) (κ (a0.2 == (0 : Int))) (cond (a0.1 == (1 : Int)) (κ (v129 a0.2 (-2147483647) 2147483647)) (cond (a0.1 == (2 : Int)) (κ (v129 a0.2 0 8)) (cond (a0.1 == (4 : Int)) (κ (v129 a0.2 0 8)) (κ false)))))
def v242 (a0 : Ty.T y98) : Bool := t242 a0 fun r => r
def p242 : Prim := ⟨[.agg [.dat y98 true]], fun v => .done (f242 (v242 v.1))⟩
theorem ok242 : PO 242 p242 := pK E242 fun v => Eq.trans (b := (t242 v.1 (sm f242))) (by kernel_rfl) (show t242 v.1 (sm f242) = some (f242 (t242 v.1 fun r => r)) from (tC (tC rfl (tC rfl (tC rfl (tC rfl rfl)))) (tC rfl (tC rfl (tC rfl (tC rfl rfl))))))
def f277 (r : Bool) : AV × Sig := (.one (.bool r), [])
def E277 := E0
def u277 (a0 : Ty.T y100) : Option (AV × Sig) := cond (a0.2.2.1 == (0 : Int)) (cond (a0.2.2.2.1 == (-1 : Int)) (cond (a0.2.2.2.2.1 == (0 : Int)) (cond (!a0.2.2.2.2.2.1) (some (.one (.bool (((a0.2.2.2.2.2.2).length : Int) == (0 : Int))), [])) (some (.one (.bool false), []))) (some (.one (.bool false), []))) (some (.one (.bool false), []))) (some (.one (.bool false), []))
def v277 (a0 : Ty.T y100) : Bool := cond (a0.2.2.1 == (0 : Int)) (cond (a0.2.2.2.1 == (-1 : Int)) (cond (a0.2.2.2.2.1 == (0 : Int)) (cond (!a0.2.2.2.2.2.1) ((((a0.2.2.2.2.2.2).length : Int) == (0 : Int))) (false)) (false)) (false)) (false)
theorem o277 (a0 : Ty.T y100) : u277 a0 = some (f277 (v277 a0)) := (tC (tC (tC (tC rfl rfl) rfl) rfl) rfl)
def p277 : Prim := ⟨[.agg [.dat y100 true]], fun v => .done (f277 (v277 v.1))⟩
theorem ok277 : PO 277 p277 := pK E277 fun v => Eq.trans (b := u277 v.1) (by kernel_rfl) (o277 v.1)
def f148 (r : Bool) : AV × Sig := (.one (.bool r), [])
def E148 := (E0.p ok129)
def t148 (a0 : Ty.T y48) {Z : Type} (κ : Bool -> Z) : Z := cond (v129 a0.2.2.1 1 99) (cond (a0.2.2.1 == (0 : Int)) (cond (!(v129 a0.2.2.2.2.1 0 2147483647)) (κ false) (cond (a0.1 == (1 : Int)) (cond (v129 a0.2.1 1 99) (cond (a0.2.2.2.1 == (-1 : Int)) (cond (a0.2.2.2.2.2.1 == (0 : Int)) (κ (!a0.2.2.2.2.2.2)) (κ false)) (cond (v129 a0.2.2.2.1 0 2) (cond (a0.2.2.2.2.2.1 == (0 : Int)) (κ (!a0.2.2.2.2.2.2)) (κ false)) (κ false))) (κ false)) (cond (a0.1 == (2 : Int)) (cond (a0.2.1 == (0 : Int)) (cond (a0.2.2.2.1 == (-1 : Int)) (cond (v129 a0.2.2.2.2.2.1 1 4) (cond (decide (a0.2.2.2.2.1 <= (99 : Int))) (cond (a0.2.2.2.2.2.1 == (2 : Int)) (κ true) (cond (a0.2.2.2.2.1 == (0 : Int)) (κ (!a0.2.2.2.2.2.2)) (κ false))) (κ false)) (κ false)) (κ false)) (κ false)) (cond (a0.1 == (3 : Int)) (cond (a0.1 == (3 : Int)) (cond (a0.2.1 == (0 : Int)) (cond (v129 a0.2.2.2.1 0 2) (cond (a0.2.2.2.2.2.1 == (0 : Int)) (κ (!a0.2.2.2.2.2.2)) (κ false)) (κ false)) (κ false)) (cond (a0.1 == (5 : Int)) (cond (a0.1 == (5 : Int)) (cond (a0.2.1 == (0 : Int)) (cond (a0.2.2.2.1 == (-1 : Int)) (cond (a0.2.2.2.2.2.1 == (0 : Int)) (κ (!a0.2.2.2.2.2.2)) (κ false)) (κ false)) (κ false)) (κ false)) (cond (a0.1 == (6 : Int)) (cond (a0.2.1 == (0 : Int)) (cond (a0.2.2.2.1 == (-1 : Int)) (cond (a0.2.2.2.2.2.1 == (0 : Int)) (κ (!a0.2.2.2.2.2.2)) (κ false)) (κ false)) (κ false)) (κ false)))) (cond (a0.1 == (4 : Int)) (cond (a0.2.1 == (0 : Int)) (cond (v129 a0.2.2.2.1 0 2) (cond (a0.2.2.2.2.2.1 == (0 : Int)) (κ (!a0.2.2.2.2.2.2)) (κ false)) (κ false)) (κ false)) (cond (a0.1 == (5 : Int)) (cond (a0.1 == (5 : Int)) (cond (a0.2.1 == (0 : Int)) (cond (a0.2.2.2.1 == (-1 : Int)) (cond (a0.2.2.2.2.2.1 == (0 : Int)) (κ (!a0.2.2.2.2.2.2)) (κ false)) (κ false)) (κ false)) (κ false)) (cond (a0.1 == (6 : Int)) (cond (a0.2.1 == (0 : Int)) (cond (a0.2.2.2.1 == (-1 : Int)) (cond (a0.2.2.2.2.2.1 == (0 : Int)) (κ (!a0.2.2.2.2.2.2)) (κ false)) (κ false)) (κ false)) (κ false)))))))) (cond (!(v129 a0.2.2.2.2.1 0 2147483647)) (κ false) (cond (a0.1 == (1 : Int)) (cond (v129 a0.2.1 1 99) (cond (a0.2.2.2.1 == (-1 : Int)) (cond (a0.2.2.2.2.2.1 == (0 : Int)) (κ (!a0.2.2.2.2.2.2)) (κ false)) (κ false)) (κ false)) (cond (a0.1 == (2 : Int)) (cond (a0.2.1 == (0 : Int)) (cond (a0.2.2.2.1 == (-1 : Int)) (cond (v129 a0.2.2.2.2.2.1 1 4) (cond (decide (a0.2.2.2.2.1 <= (99 : Int))) (cond (a0.2.2.2.2.2.1 == (2 : Int)) (κ true) (cond (a0.2.2.2.2.1 == (0 : Int)) (κ (!a0.2.2.2.2.2.2)) (κ false))) (κ false)) (κ false)) (κ false)) (κ false)) (cond (a0.1 == (3 : Int)) (cond (a0.1 == (3 : Int)) (cond (a0.2.1 == (0 : Int)) (κ false) (κ false)) (cond (a0.1 == (5 : Int)) (cond (a0.1 == (5 : Int)) (cond (a0.2.1 == (0 : Int)) (cond (a0.2.2.2.1 == (-1 : Int)) (cond (a0.2.2.2.2.2.1 == (0 : Int)) (κ (!a0.2.2.2.2.2.2)) (κ false)) (κ false)) (κ false)) (κ false)) (cond (a0.1 == (6 : Int)) (cond (a0.2.1 == (0 : Int)) (cond (a0.2.2.2.1 == (-1 : Int)) (cond (a0.2.2.2.2.2.1 == (0 : Int)) (κ (!a0.2.2.2.2.2.2)) (κ false)) (κ false)) (κ false)) (κ false)))) (cond (a0.1 == (4 : Int)) (cond (a0.2.1 == (0 : Int)) (κ false) (κ false)) (cond (a0.1 == (5 : Int)) (cond (a0.1 == (5 : Int)) (cond (a0.2.1 == (0 : Int)) (cond (a0.2.2.2.1 == (-1 : Int)) (cond (a0.2.2.2.2.2.1 == (0 : Int)) (κ (!a0.2.2.2.2.2.2)) (κ false)) (κ false)) (κ false)) (κ false)) (cond (a0.1 == (6 : Int)) (cond (a0.2.1 == (0 : Int)) (cond (a0.2.2.2.1 == (-1 : Int)) (cond (a0.2.2.2.2.2.1 == (0 : Int)) (κ (!a0.2.2.2.2.2.2)) (κ false)) (κ false)) (κ false)) (κ false))))))))) (cond (a0.2.2.1 == (0 : Int)) (cond (!(v129 a0.2.2.2.2.1 0 2147483647)) (κ false) (cond (a0.1 == (1 : Int)) (cond (v129 a0.2.1 1 99) (cond (v129 a0.2.2.2.1 0 2) (cond (a0.2.2.2.2.2.1 == (0 : Int)) (κ (!a0.2.2.2.2.2.2)) (κ false)) (κ false)) (κ false)) (cond (a0.1 == (2 : Int)) (cond (a0.2.1 == (0 : Int)) (κ false) (κ false)) (cond (a0.1 == (3 : Int)) (cond (a0.1 == (3 : Int)) (cond (a0.2.1 == (0 : Int)) (cond (v129 a0.2.2.2.1 0 2) (cond (a0.2.2.2.2.2.1 == (0 : Int)) (κ (!a0.2.2.2.2.2.2)) (κ false)) (κ false)) (κ false)) (cond (a0.1 == (5 : Int)) (cond (a0.1 == (5 : Int)) (cond (a0.2.1 == (0 : Int)) (κ false) (κ false)) (κ false)) (cond (a0.1 == (6 : Int)) (cond (a0.2.1 == (0 : Int)) (κ false) (κ false)) (κ false)))) (cond (a0.1 == (4 : Int)) (cond (a0.2.1 == (0 : Int)) (cond (v129 a0.2.2.2.1 0 2) (cond (a0.2.2.2.2.2.1 == (0 : Int)) (κ (!a0.2.2.2.2.2.2)) (κ false)) (κ false)) (κ false)) (cond (a0.1 == (5 : Int)) (cond (a0.1 == (5 : Int)) (cond (a0.2.1 == (0 : Int)) (κ false) (κ false)) (κ false)) (cond (a0.1 == (6 : Int)) (cond (a0.2.1 == (0 : Int)) (κ false) (κ false)) (κ false)))))))) (cond (!(v129 a0.2.2.2.2.1 0 2147483647)) (κ false) (cond (a0.1 == (1 : Int)) (cond (v129 a0.2.1 1 99) (κ false) (κ false)) (cond (a0.1 == (2 : Int)) (cond (a0.2.1 == (0 : Int)) (κ false) (κ false)) (cond (a0.1 == (3 : Int)) (cond (a0.1 == (3 : Int)) (cond (a0.2.1 == (0 : Int)) (κ false) (κ false)) (cond (a0.1 == (5 : Int)) (cond (a0.1 == (5 : Int)) (cond (a0.2.1 == (0 : Int)) (κ false) (κ false)) (κ false)) (cond (a0.1 == (6 : Int)) (cond (a0.2.1 == (0 : Int)) (κ false) (κ false)) (κ false)))) (cond (a0.1 == (4 : Int)) (cond (a0.2.1 == (0 : Int)) (κ false) (κ false)) (cond (a0.1 == (5 : Int)) (cond (a0.1 == (5 : Int)) (cond (a0.2.1 == (0 : Int)) (κ false) (κ false)) (κ false)) (cond (a0.1 == (6 : Int)) (cond (a0.2.1 == (0 : Int)) (κ false) (κ false)) (κ false)))))))))
def v148 (a0 : Ty.T y48) : Bool := t148 a0 fun r => r
def p148 : Prim := ⟨[.agg [.dat y48 true]], fun v => .done (f148 (v148 v.1))⟩
theorem ok148 : PO 148 p148 := pK E148 fun v => Eq.trans (b := (t148 v.1 (sm f148))) (by kernel_rfl) (show t148 v.1 (sm f148) = some (f148 (t148 v.1 fun r => r)) from (tC (tC (tC rfl (tC (tC (tC (tC rfl rfl) (tC (tC rfl rfl) rfl)) rfl) (tC (tC (tC (tC (tC (tC rfl (tC rfl rfl)) rfl) rfl) rfl) rfl) (tC (tC (tC (tC (tC rfl rfl) rfl) rfl) (tC (tC (tC (tC (tC rfl rfl) rfl) rfl) rfl) (tC (tC (tC (tC rfl rfl) rfl) rfl) rfl))) (tC (tC (tC (tC rfl rfl) rfl) rfl) (tC (tC (tC (tC (tC rfl rfl) rfl) rfl) rfl) (tC (tC (tC (tC rfl rfl) rfl) rfl) rfl))))))) (tC rfl (tC (tC (tC (tC rfl rfl) rfl) rfl) (tC (tC (tC (tC (tC (tC rfl (tC rfl rfl)) rfl) rfl) rfl) rfl) (tC (tC (tC rfl rfl) (tC (tC (tC (tC (tC rfl rfl) rfl) rfl) rfl) (tC (tC (tC (tC rfl rfl) rfl) rfl) rfl))) (tC (tC rfl rfl) (tC (tC (tC (tC (tC rfl rfl) rfl) rfl) rfl) (tC (tC (tC (tC rfl rfl) rfl) rfl) rfl)))))))) (tC (tC rfl (tC (tC (tC (tC rfl rfl) rfl) rfl) (tC (tC rfl rfl) (tC (tC (tC (tC (tC rfl rfl) rfl) rfl) (tC (tC (tC rfl rfl) rfl) (tC (tC rfl rfl) rfl))) (tC (tC (tC (tC rfl rfl) rfl) rfl) (tC (tC (tC rfl rfl) rfl) (tC (tC rfl rfl) rfl))))))) (tC rfl (tC (tC rfl rfl) (tC (tC rfl rfl) (tC (tC (tC rfl rfl) (tC (tC (tC rfl rfl) rfl) (tC (tC rfl rfl) rfl))) (tC (tC rfl rfl) (tC (tC (tC rfl rfl) rfl) (tC (tC rfl rfl) rfl))))))))))
def f278 (r : Bool) : AV × Sig := (.one (.bool r), [])
def E278 := (E0.p ok148)
def u278 (a0 : Ty.T y48) : Option (AV × Sig) := cond (a0.2.2.2.2.1 == (-1 : Int)) (cond (a0.1 != (2 : Int)) (some (.one (.bool (v148 (a0.1, a0.2.1, a0.2.2.1, a0.2.2.2.1, 0, a0.2.2.2.2.2))), [])) (some (.one (.bool (v148 a0)), []))) (some (.one (.bool (v148 a0)), []))
def v278 (a0 : Ty.T y48) : Bool := cond (a0.2.2.2.2.1 == (-1 : Int)) (cond (a0.1 != (2 : Int)) ((v148 (a0.1, a0.2.1, a0.2.2.1, a0.2.2.2.1, 0, a0.2.2.2.2.2))) ((v148 a0))) ((v148 a0))
theorem o278 (a0 : Ty.T y48) : u278 a0 = some (f278 (v278 a0)) := (tC (tC rfl rfl) rfl)
def p278 : Prim := ⟨[.agg [.dat y48 true]], fun v => .done (f278 (v278 v.1))⟩
theorem ok278 : PO 278 p278 := pK E278 fun v => Eq.trans (b := u278 v.1) (by kernel_rfl) (o278 v.1)
def f243 (r : Bool) : AV × Sig := (.one (.bool r), [])
def E243 := (((E0.p ok129).p ok277).p ok278)
@[reducible] def ss243_0 : List SP := .und :: .one (.ptr 1 0) :: .one (.dat .bool true) :: U2 (oI :: .one (.dat .bool true) :: U64 (U64 (U32 (U2 (.und :: [])))))
@[reducible] def gs243_0 : List (Nat × GP) := [(1, .box 101 [.dat y100 true])]
@[reducible] def V243_0 : Type := Bool × Int × Bool × (Ty.T y100) × Unit
def f243_0 (v : V243_0) (r : Bool) : Ex × St := (.normal, bldSt ss243_0 gs243_0 (v.1, v.2.1, r, v.2.2.2.1, ()))
def t243_0 (v : V243_0) {Z : Type} (κ : Bool -> Z) : Z := cond v.2.2.1 (κ v.2.2.1) (cond (v.2.1 == (2 : Int)) (κ (v.2.1 == (2 : Int))) (cond (v.2.1 == (4 : Int)) (κ (v.2.1 == (4 : Int))) (κ (v.2.1 == (5 : Int)))))
def c243_0 (v : V243_0) : Bool := t243_0 v id
def F243_0 (v : V243_0) : Ways (Ex × St) := .done (f243_0 v (c243_0 v))
theorem l243_0 : CodeOk Tryz.prog (pieceAt (pb 5 21) (bodyOf Tryz.f243)) ss243_0 gs243_0 F243_0 := codeOk_eq (lt := .none) (sx := ss243_0) (gx := gs243_0) E243.ok orders (LtOk.no _) fun v => Eq.trans (b := t243_0 v (sm (f243_0 v))) (by kernel_rfl) (show t243_0 v (sm (f243_0 v)) = some (f243_0 v (t243_0 v id)) from (tC rfl (tC rfl (tC rfl rfl))))
@[reducible] def ss243_1 : List SP := .und :: .one (.ptr 1 0) :: .one (.dat .bool true) :: U64 (U64 (U32 (U4 (U2 (.und :: [])))))
@[reducible] def V243_1 : Type := Bool × (Ty.T y100) × Unit
@[reducible] def sx243_1 : List SP := U2 (.one (.dat .bool true) :: U64 (U64 (U32 (U4 (U2 (.und :: []))))))
def f243_1 (v : V243_1) (r : Bool) : Ex × St := (.normal, bldSt sx243_1 gs18_0 (r, ()))
def t243_1 (v : V243_1) {Z : Type} (κ : Bool -> Z) : Z := cond (v277 v.2.1) (κ (v.2.1.2.1 == (0 : Int))) (κ false)
def c243_1 (v : V243_1) : Bool := t243_1 v id
def F243_1 (v : V243_1) : Ways (Ex × St) := .done (f243_1 v (c243_1 v))
theorem l243_1 : CodeOk Tryz.prog (pieceAt (pb 6 13) (bodyOf Tryz.f243)) ss243_1 gs243_0 F243_1 := codeOk_eq (lt := .none) (sx := sx243_1) (gx := gs18_0) E243.ok orders (LtOk.no _) fun v => Eq.trans (b := t243_1 v (sm (f243_1 v))) (by kernel_rfl) (show t243_1 v (sm (f243_1 v)) = some (f243_1 v (t243_1 v id)) from (tC rfl rfl))
def f243_2 (v : V243_1) (r : Bool) : Ex × St := (.normal, bldSt sx243_1 gs18_0 (r, ()))
def t243_2 (v : V243_1) {Z : Type} (κ : Bool -> Z) : Z := cond (v277 v.2.1) (κ (v129 v.2.1.2.1 1 2147483647)) (κ false)
def c243_2 (v : V243_1) : Bool := t243_2 v id
def F243_2 (v : V243_1) : Ways (Ex × St) := .done (f243_2 v (c243_2 v))
theorem l243_2 : CodeOk Tryz.prog (pieceAt (pb 8 61) (bodyOf Tryz.f243)) ss243_1 gs243_0 F243_2 := codeOk_eq (lt := .none) (sx := sx243_1) (gx := gs18_0) E243.ok orders (LtOk.no _) fun v => Eq.trans (b := t243_2 v (sm (f243_2 v))) (by kernel_rfl) (show t243_2 v (sm (f243_2 v)) = some (f243_2 v (t243_2 v id)) from (tC rfl rfl))
def f243_3 (v : V243_1) (r : Bool) : Ex × St := (.normal, bldSt sx243_1 gs18_0 (r, ()))
def t243_3 (v : V243_1) {Z : Type} (κ : Bool -> Z) : Z := cond (v.2.1.2.1 == (0 : Int)) (cond (v.2.1.2.2.2.2.1 == (0 : Int)) (cond (!v.2.1.2.2.2.2.2.1) (cond (((v.2.1.2.2.2.2.2.2).length : Int) == (0 : Int)) (cond (v129 v.2.1.2.2.1 1 99) (cond (v.2.1.2.2.2.1 == (-1 : Int)) (κ true) (cond (v.2.1.2.2.1 == (0 : Int)) (κ (v129 v.2.1.2.2.2.1 0 2)) (κ false))) (cond (v.2.1.2.2.1 == (0 : Int)) (κ (v129 v.2.1.2.2.2.1 0 2)) (κ false))) (κ false)) (κ false)) (κ false)) (κ false)
def c243_3 (v : V243_1) : Bool := t243_3 v id
def F243_3 (v : V243_1) : Ways (Ex × St) := .done (f243_3 v (c243_3 v))
theorem l243_3 : CodeOk Tryz.prog (pieceAt (pb 10 253) (bodyOf Tryz.f243)) ss243_1 gs243_0 F243_3 := codeOk_eq (lt := .none) (sx := sx243_1) (gx := gs18_0) E243.ok orders (LtOk.no _) fun v => Eq.trans (b := t243_3 v (sm (f243_3 v))) (by kernel_rfl) (show t243_3 v (sm (f243_3 v)) = some (f243_3 v (t243_3 v id)) from (tC (tC (tC (tC (tC (tC rfl (tC rfl rfl)) (tC rfl rfl)) rfl) rfl) rfl) rfl))
def f243_4 (v : V243_1) (r : Bool) : Ex × St := (.normal, bldSt sx243_1 gs18_0 (r, ()))
def t243_4 (v : V243_1) {Z : Type} (κ : Bool -> Z) : Z := cond (v.2.1.2.1 == (0 : Int)) (cond (v.2.1.2.2.1 == (0 : Int)) (cond (v.2.1.2.2.2.1 == (-1 : Int)) (cond (!v.2.1.2.2.2.2.2.1) (cond (((v.2.1.2.2.2.2.2.2).length : Int) == (0 : Int)) (κ (v129 v.2.1.2.2.2.2.1 1 4)) (κ false)) (κ false)) (κ false)) (κ false)) (κ false)
def c243_4 (v : V243_1) : Bool := t243_4 v id
def F243_4 (v : V243_1) : Ways (Ex × St) := .done (f243_4 v (c243_4 v))
theorem l243_4 : CodeOk Tryz.prog (pieceAt (pb 12 1021) (bodyOf Tryz.f243)) ss243_1 gs243_0 F243_4 := codeOk_eq (lt := .none) (sx := sx243_1) (gx := gs18_0) E243.ok orders (LtOk.no _) fun v => Eq.trans (b := t243_4 v (sm (f243_4 v))) (by kernel_rfl) (show t243_4 v (sm (f243_4 v)) = some (f243_4 v (t243_4 v id)) from (tC (tC (tC (tC (tC rfl rfl) rfl) rfl) rfl) rfl))
def f243_5 (v : V243_1) (r : Bool) : Ex × St := (.normal, bldSt sx243_1 gs18_0 (r, ()))
def t243_5 (v : V243_1) {Z : Type} (κ : Bool -> Z) : Z := cond (v129 v.2.1.2.1 0 99) (cond (v.2.1.2.2.1 == (0 : Int)) (cond (v.2.1.2.2.2.1 == (-1 : Int)) (cond (v.2.1.2.2.2.2.1 == (0 : Int)) (κ (((v.2.1.2.2.2.2.2.2).length : Int) == (0 : Int))) (κ false)) (κ false)) (κ false)) (κ false)
def c243_5 (v : V243_1) : Bool := t243_5 v id
def F243_5 (v : V243_1) : Ways (Ex × St) := .done (f243_5 v (c243_5 v))
theorem l243_5 : CodeOk Tryz.prog (pieceAt (pb 14 4093) (bodyOf Tryz.f243)) ss243_1 gs243_0 F243_5 := codeOk_eq (lt := .none) (sx := sx243_1) (gx := gs18_0) E243.ok orders (LtOk.no _) fun v => Eq.trans (b := t243_5 v (sm (f243_5 v))) (by kernel_rfl) (show t243_5 v (sm (f243_5 v)) = some (f243_5 v (t243_5 v id)) from (tC (tC (tC (tC rfl rfl) rfl) rfl) rfl))
@[reducible] def ss243_6 : List SP := .und :: .one (.ptr 1 0) :: .one (.dat .bool true) :: oI :: U64 (U64 (U32 (U4 (U2 ([])))))
@[reducible] def V243_6 : Type := Bool × Int × (Ty.T y100) × Unit
def t243_6 (v : V243_6) {Z : Type} (κ : Nat × V243_6 -> Option Z) : Option Z := cond (decide (v.2.1 < ((v.2.2.1.2.2.2.2.2.2).length : Int))) (if 0 <= v.2.1 then (optC ((v.2.2.1.2.2.2.2.2.2)[(v.2.1).toNat]?) (fun x1 => cond (!(v278 x1)) (κ (1, (false, v.2.1, v.2.2.1, ()))) (κ (0, (v.1, IntKind.wrap .i64 (v.2.1 + (1 : Int)), v.2.2.1, ()))))) else none) (κ (2, (v.1, v.2.1, v.2.2.1, ())))
def s243_6 (v : V243_6) : Option (Nat × V243_6) := t243_6 v some
def n243_6 (v : V243_6) : Nat := v.2.1.toNat + v.2.2.1.2.2.2.2.2.2.length + 100
def k243_6 (h0 : Bool) (h1 : Int) (h2 : Ty.T y100) (c : Nat) : Bool := iK s243_6 n243_6 (h0, h1, h2, ()) c
def w243_6 (h0 : Bool) (h1 : Int) (h2 : Ty.T y100) : V243_6 := iW s243_6 n243_6 (h0, h1, h2, ())
def F243_6 (v : V243_6) : Ways (Ex × St) := waysOf s243_6 (n243_6 v) v (bldSt ss243_6 gs243_0) [.ret, .exit 1] 0
theorem l243_6 : LoopOk Tryz.prog (loopAt (pb 17 81917) (bodyOf Tryz.f243)) ss243_6 gs243_0 F243_6 := loopOk_iter (lt := .none) E243.ok orders (LtOk.no _) fun n v K => Eq.trans (b := t243_6 v (kont _ _ _ _ _ K)) (by kernel_rfl) (show t243_6 v _ = (t243_6 v some).bind _ from (bC (bI (bO fun x1 => (bC rfl rfl))) rfl))
def f243_7 (v : V243_1) (r : Bool) : Ex × St := (.normal, bldSt sx243_1 gs18_0 (r, ()))
def t243_7 (v : V243_1) {Z : Type} (κ : Bool -> Z) : Z := cond (v.2.1.2.1 == (0 : Int)) (cond (v.2.1.2.2.1 == (0 : Int)) (cond (v.2.1.2.2.2.1 == (-1 : Int)) (cond (v.2.1.2.2.2.2.1 == (0 : Int)) (cond (!v.2.1.2.2.2.2.2.1) (κ (v129 ((v.2.1.2.2.2.2.2.2).length : Int) 1 3)) (κ false)) (κ false)) (κ false)) (κ false)) (κ false)
def c243_7 (v : V243_1) : Bool := t243_7 v id
def F243_7 (v : V243_1) : Ways (Ex × St) := .done (f243_7 v (c243_7 v))
theorem l243_7 : CodeOk Tryz.prog (pieceAt (pb 17 49149) (bodyOf Tryz.f243)) ss243_1 gs243_0 F243_7 := codeOk_eq (lt := .none) (sx := sx243_1) (gx := gs18_0) E243.ok orders (LtOk.no _) fun v => Eq.trans (b := t243_7 v (sm (f243_7 v))) (by kernel_rfl) (show t243_7 v (sm (f243_7 v)) = some (f243_7 v (t243_7 v id)) from (tC (tC (tC (tC (tC rfl rfl) rfl) rfl) rfl) rfl))
def E243l := E243.l (g := 243) (t := (ltPutC (pb 17 49149) (bodyOf Tryz.f243) (ltPutC (pb 17 81917) (bodyOf Tryz.f243) (ltPutC (pb 14 4093) (bodyOf Tryz.f243) (ltPutC (pb 12 1021) (bodyOf Tryz.f243) (ltPutC (pb 10 253) (bodyOf Tryz.f243) (ltPutC (pb 8 61) (bodyOf Tryz.f243) (ltPutC (pb 6 13) (bodyOf Tryz.f243) (ltPutC (pb 5 21) (bodyOf Tryz.f243) .none (.sum ss243_0 gs243_0 F243_0)) (.sum ss243_1 gs243_0 F243_1)) (.sum ss243_1 gs243_0 F243_2)) (.sum ss243_1 gs243_0 F243_3)) (.sum ss243_1 gs243_0 F243_4)) (.sum ss243_1 gs243_0 F243_5)) (.sum ss243_6 gs243_0 F243_6)) (.sum ss243_1 gs243_0 F243_7))) (ltOk_of Tryz.func243 (LtOk.putC (wf_of (by kernel_rfl)) (LtOk.putL (by kernel_rfl) (wf_of (by kernel_rfl)) (LtOk.putC (wf_of (by kernel_rfl)) (LtOk.putC (wf_of (by kernel_rfl)) (LtOk.putC (wf_of (by kernel_rfl)) (LtOk.putC (wf_of (by kernel_rfl)) (LtOk.putC (wf_of (by kernel_rfl)) (LtOk.putC (wf_of (by kernel_rfl)) (LtOk.no _) l243_0) l243_1) l243_2) l243_3) l243_4) l243_5) l243_6) l243_7))
def t243 (a0 : Ty.T y100) {Z : Type} (κ : Bool -> Option Z) : Option Z := cond (c243_0 (false, a0.1, (a0.1 == (1 : Int)), a0, ())) (κ (c243_1 (false, a0, ()))) (cond (a0.1 == (3 : Int)) (κ (c243_2 (false, a0, ()))) (cond (a0.1 == (6 : Int)) (κ (c243_3 (false, a0, ()))) (cond (a0.1 == (7 : Int)) (κ (c243_4 (false, a0, ()))) (cond (a0.1 == (8 : Int)) (κ (c243_5 (false, a0, ()))) (cond (a0.1 == (9 : Int)) (cond (k243_6 false 0 a0 0) (κ (w243_6 false 0 a0).1) (cond (k243_6 false 0 a0 1) (κ (c243_7 ((w243_6 false 0 a0).1, (w243_6 false 0 a0).2.2.1, ()))) (none))) (κ false))))))
def v243 (a0 : Ty.T y100) : Bool := (t243 a0 some).getD false
def d243 (a0 : Ty.T y100) : Bool := (t243 a0 some).isSome
def p243 : Prim := ⟨[.agg [.dat y100 true]], fun v => .br (d243 v.1) (.done (f243 (v243 v.1))) .no⟩
theorem ok243 : PO 243 p243 := pK E243l fun v => Eq.trans (b := (t243 v.1 (sm f243))) (by kernel_rfl) (run_fin (show t243 v.1 (sm f243) = (t243 v.1 some).bind _ from by unfold t243; simp only [bb]))
def f244 (r : Bool) : AV × Sig := (.one (.bool r), [])
def E244 := (E0.p ok129)
def t244 (a0 : Ty.T y100) (a1 : Int) {Z : Type} (κ : Bool -> Z) : Z := cond (!(v129 a1 1 6)) (κ false) (cond (a0.1 == (2 : Int)) (cond (a0.1 == (2 : Int)) (κ (a1 == (1 : Int))) (cond (a0.1 == (3 : Int)) (cond (a0.1 == (3 : Int)) (κ (a1 != (2 : Int))) (cond (a0.1 == (7 : Int)) (cond (a0.1 == (7 : Int)) (κ (a1 == (2 : Int))) (cond (a0.1 == (1 : Int)) (κ true) (κ (a0.1 == (9 : Int))))) (cond (a0.1 == (8 : Int)) (κ (a1 == (2 : Int))) (cond (a0.1 == (1 : Int)) (κ true) (κ (a0.1 == (9 : Int))))))) (cond (a0.1 == (4 : Int)) (cond (a0.1 == (4 : Int)) (κ (a1 != (2 : Int))) (cond (a0.1 == (7 : Int)) (cond (a0.1 == (7 : Int)) (κ (a1 == (2 : Int))) (cond (a0.1 == (1 : Int)) (κ true) (κ (a0.1 == (9 : Int))))) (cond (a0.1 == (8 : Int)) (κ (a1 == (2 : Int))) (cond (a0.1 == (1 : Int)) (κ true) (κ (a0.1 == (9 : Int))))))) (cond (a0.1 == (5 : Int)) (κ (a1 != (2 : Int))) (cond (a0.1 == (7 : Int)) (cond (a0.1 == (7 : Int)) (κ (a1 == (2 : Int))) (cond (a0.1 == (1 : Int)) (κ true) (κ (a0.1 == (9 : Int))))) (cond (a0.1 == (8 : Int)) (κ (a1 == (2 : Int))) (cond (a0.1 == (1 : Int)) (κ true) (κ (a0.1 == (9 : Int)))))))))) (cond (a0.1 == (6 : Int)) (κ (a1 == (1 : Int))) (cond (a0.1 == (3 : Int)) (cond (a0.1 == (3 : Int)) (κ (a1 != (2 : Int))) (cond (a0.1 == (7 : Int)) (cond (a0.1 == (7 : Int)) (κ (a1 == (2 : Int))) (cond (a0.1 == (1 : Int)) (κ true) (κ (a0.1 == (9 : Int))))) (cond (a0.1 == (8 : Int)) (κ (a1 == (2 : Int))) (cond (a0.1 == (1 : Int)) (κ true) (κ (a0.1 == (9 : Int))))))) (cond (a0.1 == (4 : Int)) (cond (a0.1 == (4 : Int)) (κ (a1 != (2 : Int))) (cond (a0.1 == (7 : Int)) (cond (a0.1 == (7 : Int)) (κ (a1 == (2 : Int))) (cond (a0.1 == (1 : Int)) (κ true) (κ (a0.1 == (9 : Int))))) (cond (a0.1 == (8 : Int)) (κ (a1 == (2 : Int))) (cond (a0.1 == (1 : Int)) (κ true) (κ (a0.1 == (9 : Int))))))) (cond (a0.1 == (5 : Int)) (κ (a1 != (2 : Int))) (cond (a0.1 == (7 : Int)) (cond (a0.1 == (7 : Int)) (κ (a1 == (2 : Int))) (cond (a0.1 == (1 : Int)) (κ true) (κ (a0.1 == (9 : Int))))) (cond (a0.1 == (8 : Int)) (κ (a1 == (2 : Int))) (cond (a0.1 == (1 : Int)) (κ true) (κ (a0.1 == (9 : Int)))))))))))
def v244 (a0 : Ty.T y100) (a1 : Int) : Bool := t244 a0 a1 fun r => r
def p244 : Prim := ⟨[.agg [.dat y100 true], oI], fun v => .done (f244 (v244 v.1 v.2.1))⟩
theorem ok244 : PO 244 p244 := pK E244 fun v => Eq.trans (b := (t244 v.1 v.2.1 (sm f244))) (by kernel_rfl) (show t244 v.1 v.2.1 (sm f244) = some (f244 (t244 v.1 v.2.1 fun r => r)) from (tC rfl (tC (tC rfl (tC (tC rfl (tC (tC rfl (tC rfl rfl)) (tC rfl (tC rfl rfl)))) (tC (tC rfl (tC (tC rfl (tC rfl rfl)) (tC rfl (tC rfl rfl)))) (tC rfl (tC (tC rfl (tC rfl rfl)) (tC rfl (tC rfl rfl))))))) (tC rfl (tC (tC rfl (tC (tC rfl (tC rfl rfl)) (tC rfl (tC rfl rfl)))) (tC (tC rfl (tC (tC rfl (tC rfl rfl)) (tC rfl (tC rfl rfl)))) (tC rfl (tC (tC rfl (tC rfl rfl)) (tC rfl (tC rfl rfl))))))))))
def f200 (r : Bool) : AV × Sig := (.one (.bool r), [])
def E200 := (((((E0.p ok129).p ok241).p ok242).p ok243).p ok244)
def t200 (a0 : Ty.T y102) {Z : Type} (κ : Bool -> Option Z) : Option Z := cond (!(v129 a0.1 1 99)) (κ false) (cond (!(v129 a0.2.1 0 2)) (κ false) (cond (!(v129 a0.2.2.1 0 99)) (κ false) (cond (!(v129 a0.2.2.2.1 0 4)) (κ false) (cond (!(v129 a0.2.2.2.2.2.2.2.1 (-1) 9999)) (κ false) (cond (!(v129 a0.2.2.2.2.2.2.2.2 (-1) 2147483647)) (κ false) (cond (a0.2.2.2.1 == (0 : Int)) (cond (a0.2.2.1 == (0 : Int)) (κ false) (cond (a0.2.2.2.2.2.2.1.1 == (2 : Int)) (cond (decide (a0.2.2.2.2.2.2.2.2 < (0 : Int))) (κ false) (cond (v241 a0.2.2.2.2.1) (cond (v242 a0.2.2.2.2.2.1) (cond (d243 a0.2.2.2.2.2.2.1) (cond (v243 a0.2.2.2.2.2.2.1) (κ (v244 a0.2.2.2.2.2.2.1 a0.2.2.2.2.1.1)) (κ false)) (none)) (κ false)) (κ false))) (cond (v241 a0.2.2.2.2.1) (cond (v242 a0.2.2.2.2.2.1) (cond (d243 a0.2.2.2.2.2.2.1) (cond (v243 a0.2.2.2.2.2.2.1) (κ (v244 a0.2.2.2.2.2.2.1 a0.2.2.2.2.1.1)) (κ false)) (none)) (κ false)) (κ false)))) (cond (a0.2.2.2.2.2.2.1.1 == (2 : Int)) (cond (decide (a0.2.2.2.2.2.2.2.2 < (0 : Int))) (κ false) (cond (v241 a0.2.2.2.2.1) (cond (v242 a0.2.2.2.2.2.1) (cond (d243 a0.2.2.2.2.2.2.1) (cond (v243 a0.2.2.2.2.2.2.1) (κ (v244 a0.2.2.2.2.2.2.1 a0.2.2.2.2.1.1)) (κ false)) (none)) (κ false)) (κ false))) (cond (v241 a0.2.2.2.2.1) (cond (v242 a0.2.2.2.2.2.1) (cond (d243 a0.2.2.2.2.2.2.1) (cond (v243 a0.2.2.2.2.2.2.1) (κ (v244 a0.2.2.2.2.2.2.1 a0.2.2.2.2.1.1)) (κ false)) (none)) (κ false)) (κ false)))))))))
def v200 (a0 : Ty.T y102) : Bool := (t200 a0 some).getD false
def d200 (a0 : Ty.T y102) : Bool := (t200 a0 some).isSome
def p200 : Prim := ⟨[.agg [.dat y102 true]], fun v => .br (d200 v.1) (.done (f200 (v200 v.1))) .no⟩
theorem ok200 : PO 200 p200 := pK E200 fun v => Eq.trans (b := (t200 v.1 (sm f200))) (by kernel_rfl) (run_fin (show t200 v.1 (sm f200) = (t200 v.1 some).bind _ from by unfold t200; simp only [bb]))
def f245 (r : Bool) : AV × Sig := (.one (.bool r), [])
def E245 := E0
@[reducible] def ss245_0 : List SP := U4 (.one (.dat .bool true) :: .one (.ptr 5 0) :: .one (.ptr 6 0) :: oI :: U64 (U32 (U16 (U8 (U4 (.und :: []))))))
@[reducible] def gs245_0 : List (Nat × GP) := [(5, .box 101 [.dat y100 true]), (6, .box 101 [.dat y100 true])]
@[reducible] def V245_0 : Type := Bool × Int × (Ty.T y100) × (Ty.T y100) × Unit
def t245_0 (v : V245_0) {Z : Type} (κ : Nat × V245_0 -> Option Z) : Option Z := cond (decide (v.2.1 < ((v.2.2.1.2.2.2.2.2.2).length : Int))) (if 0 <= v.2.1 then (optC ((v.2.2.1.2.2.2.2.2.2)[(v.2.1).toNat]?) (fun x1 => if 0 <= v.2.1 then (optC ((v.2.2.2.1.2.2.2.2.2.2)[(v.2.1).toNat]?) (fun x2 => cond (!((x1.1 == x2.1) && ((x1.2.1 == x2.2.1) && ((x1.2.2.1 == x2.2.2.1) && ((x1.2.2.2.1 == x2.2.2.2.1) && ((x1.2.2.2.2.1 == x2.2.2.2.2.1) && ((x1.2.2.2.2.2.1 == x2.2.2.2.2.2.1) && ((x1.2.2.2.2.2.2 == x2.2.2.2.2.2.2) && true)))))))) (κ (1, (false, v.2.1, v.2.2.1, v.2.2.2.1, ()))) (κ (0, (v.1, IntKind.wrap .i64 (v.2.1 + (1 : Int)), v.2.2.1, v.2.2.2.1, ()))))) else none)) else none) (κ (2, (v.1, v.2.1, v.2.2.1, v.2.2.2.1, ())))
def s245_0 (v : V245_0) : Option (Nat × V245_0) := t245_0 v some
def n245_0 (v : V245_0) : Nat := v.2.1.toNat + v.2.2.1.2.2.2.2.2.2.length + v.2.2.2.1.2.2.2.2.2.2.length + 100
def k245_0 (h0 : Bool) (h1 : Int) (h2 : Ty.T y100) (h3 : Ty.T y100) (c : Nat) : Bool := iK s245_0 n245_0 (h0, h1, h2, h3, ()) c
def w245_0 (h0 : Bool) (h1 : Int) (h2 : Ty.T y100) (h3 : Ty.T y100) : V245_0 := iW s245_0 n245_0 (h0, h1, h2, h3, ())
def F245_0 (v : V245_0) : Ways (Ex × St) := waysOf s245_0 (n245_0 v) v (bldSt ss245_0 gs245_0) [.ret, .exit 0] 0
theorem l245_0 : LoopOk Tryz.prog (loopAt (pb 7 95) (bodyOf Tryz.f245)) ss245_0 gs245_0 F245_0 := loopOk_iter (lt := .none) E245.ok orders (LtOk.no _) fun n v K => Eq.trans (b := t245_0 v (kont _ _ _ _ _ K)) (by kernel_rfl) (show t245_0 v _ = (t245_0 v some).bind _ from (bC (bI (bO fun x1 => (bI (bO fun x2 => (bC rfl rfl))))) rfl))
def E245l := E245.l (g := 245) (t := (ltPut (pb 7 95) (bodyOf Tryz.f245) .none (.sum ss245_0 gs245_0 F245_0))) (ltOk_of Tryz.func245 (LtOk.put (wf_of (by kernel_rfl)) (LtOk.no _) l245_0))
def t245 (a0 : Ty.T y102) (a1 : Ty.T y102) {Z : Type} (κ : Bool -> Option Z) : Option Z := cond (a0.1 != a1.1) (κ false) (cond (a0.2.1 != a1.2.1) (κ false) (cond (a0.2.2.1 != a1.2.2.1) (κ false) (cond (a0.2.2.2.1 != a1.2.2.2.1) (κ false) (cond (!((a0.2.2.2.2.1.1 == a1.2.2.2.2.1.1) && ((a0.2.2.2.2.1.2.1 == a1.2.2.2.2.1.2.1) && ((a0.2.2.2.2.1.2.2.1 == a1.2.2.2.2.1.2.2.1) && ((a0.2.2.2.2.1.2.2.2.1 == a1.2.2.2.2.1.2.2.2.1) && ((a0.2.2.2.2.1.2.2.2.2.1 == a1.2.2.2.2.1.2.2.2.2.1) && ((a0.2.2.2.2.1.2.2.2.2.2.1 == a1.2.2.2.2.1.2.2.2.2.2.1) && ((a0.2.2.2.2.1.2.2.2.2.2.2 == a1.2.2.2.2.1.2.2.2.2.2.2) && true)))))))) (κ false) (cond (!((a0.2.2.2.2.2.1.1 == a1.2.2.2.2.2.1.1) && ((a0.2.2.2.2.2.1.2 == a1.2.2.2.2.2.1.2) && true))) (κ false) (cond (a0.2.2.2.2.2.2.2.1 != a1.2.2.2.2.2.2.2.1) (κ false) (cond (a0.2.2.2.2.2.2.2.2 != a1.2.2.2.2.2.2.2.2) (κ false) (cond (a0.2.2.2.2.2.2.1.1 != a1.2.2.2.2.2.2.1.1) (κ false) (cond (a0.2.2.2.2.2.2.1.2.1 != a1.2.2.2.2.2.2.1.2.1) (κ false) (cond (a0.2.2.2.2.2.2.1.2.2.1 != a1.2.2.2.2.2.2.1.2.2.1) (κ false) (cond (a0.2.2.2.2.2.2.1.2.2.2.1 != a1.2.2.2.2.2.2.1.2.2.2.1) (κ false) (cond (a0.2.2.2.2.2.2.1.2.2.2.2.1 != a1.2.2.2.2.2.2.1.2.2.2.2.1) (κ false) (cond (!(a0.2.2.2.2.2.2.1.2.2.2.2.2.1 == a1.2.2.2.2.2.2.1.2.2.2.2.2.1)) (κ false) (cond (((a0.2.2.2.2.2.2.1.2.2.2.2.2.2).length : Int) != ((a1.2.2.2.2.2.2.1.2.2.2.2.2.2).length : Int)) (κ false) (cond (k245_0 false 0 a0.2.2.2.2.2.2.1 a1.2.2.2.2.2.2.1 0) (κ (w245_0 false 0 a0.2.2.2.2.2.2.1 a1.2.2.2.2.2.2.1).1) (cond (k245_0 false 0 a0.2.2.2.2.2.2.1 a1.2.2.2.2.2.2.1 1) (κ true) (none)))))))))))))))))
def v245 (a0 : Ty.T y102) (a1 : Ty.T y102) : Bool := (t245 a0 a1 some).getD false
def d245 (a0 : Ty.T y102) (a1 : Ty.T y102) : Bool := (t245 a0 a1 some).isSome
def p245 : Prim := ⟨[.agg [.dat y102 true], .agg [.dat y102 true]], fun v => .br (d245 v.1 v.2.1) (.done (f245 (v245 v.1 v.2.1))) .no⟩
theorem ok245 : PO 245 p245 := pK E245l fun v => Eq.trans (b := (t245 v.1 v.2.1 (sm f245))) (by kernel_rfl) (run_fin (show t245 v.1 v.2.1 (sm f245) = (t245 v.1 v.2.1 some).bind _ from by unfold t245; simp only [bb]))
def f201 (r : Bool) : AV × Sig := (.one (.bool r), [])
def E201 := (E0.p ok245)
def u201 (a0 : Ty.T y105) : Option (AV × Sig) := cond (d245 a0.2.1 (0, 0, 0, 0, (0, 0, 0, 0, 0, 0, 0), (0, 0), (0, 0, 0, 0, 0, false, []), 0, 0)) (some (.one (.bool (v245 a0.2.1 (0, 0, 0, 0, (0, 0, 0, 0, 0, 0, 0), (0, 0), (0, 0, 0, 0, 0, false, []), 0, 0))), [])) (none)
def v201 (a0 : Ty.T y105) : Bool := cond (d245 a0.2.1 (0, 0, 0, 0, (0, 0, 0, 0, 0, 0, 0), (0, 0), (0, 0, 0, 0, 0, false, []), 0, 0)) ((v245 a0.2.1 (0, 0, 0, 0, (0, 0, 0, 0, 0, 0, 0), (0, 0), (0, 0, 0, 0, 0, false, []), 0, 0))) (false)
def d201 (a0 : Ty.T y105) : Bool := cond (d245 a0.2.1 (0, 0, 0, 0, (0, 0, 0, 0, 0, 0, 0), (0, 0), (0, 0, 0, 0, 0, false, []), 0, 0)) (true) (false)
theorem o201 (a0 : Ty.T y105) : u201 a0 = cond (d201 a0) (some (f201 (v201 a0))) none := (pC (pS _) (pN _))
def p201 : Prim := ⟨[.agg [.dat y105 true]], fun v => .br (d201 v.1) (.done (f201 (v201 v.1))) .no⟩
theorem ok201 : PO 201 p201 := pK E201 fun v => Eq.trans (b := u201 v.1) (by kernel_rfl) (o201 v.1)
def f202 (r : Bool) : AV × Sig := (.one (.bool r), [])
def E202 := (E0.p ok148)
@[reducible] def ss202_0 : List SP := .one (.dat (.sl 56 y48) true) :: .und :: .one (.dat .bool true) :: oI :: U8 (U4 (U2 (.und :: [])))
@[reducible] def V202_0 : Type := (List (Ty.T y48)) × Bool × Int × Unit
def t202_0 (v : V202_0) {Z : Type} (κ : Nat × V202_0 -> Option Z) : Option Z := cond (decide (v.2.2.1 < ((v.1).length : Int))) (if 0 <= v.2.2.1 then (optC ((v.1)[(v.2.2.1).toNat]?) (fun x1 => cond (!(v148 x1)) (κ (1, (v.1, false, v.2.2.1, ()))) (κ (0, (v.1, v.2.1, IntKind.wrap .i64 (v.2.2.1 + (1 : Int)), ()))))) else none) (κ (2, (v.1, v.2.1, v.2.2.1, ())))
def s202_0 (v : V202_0) : Option (Nat × V202_0) := t202_0 v some
def n202_0 (v : V202_0) : Nat := v.1.length + v.2.2.1.toNat + 100
def k202_0 (h0 : List (Ty.T y48)) (h1 : Bool) (h2 : Int) (c : Nat) : Bool := iK s202_0 n202_0 (h0, h1, h2, ()) c
def w202_0 (h0 : List (Ty.T y48)) (h1 : Bool) (h2 : Int) : V202_0 := iW s202_0 n202_0 (h0, h1, h2, ())
def F202_0 (v : V202_0) : Ways (Ex × St) := waysOf s202_0 (n202_0 v) v (bldSt ss202_0 gs18_0) [.ret, .exit 0] 0
theorem l202_0 : LoopOk Tryz.prog (loopAt (pb 3 5) (bodyOf Tryz.f202)) ss202_0 gs18_0 F202_0 := loopOk_iter (lt := .none) E202.ok orders (LtOk.no _) fun n v K => Eq.trans (b := t202_0 v (kont _ _ _ _ _ K)) (by kernel_rfl) (show t202_0 v _ = (t202_0 v some).bind _ from (bC (bI (bO fun x1 => (bC rfl rfl))) rfl))
def E202l := E202.l (g := 202) (t := (ltPut (pb 3 5) (bodyOf Tryz.f202) .none (.sum ss202_0 gs18_0 F202_0))) (ltOk_of Tryz.func202 (LtOk.put (wf_of (by kernel_rfl)) (LtOk.no _) l202_0))
def u202 (a0 : List (Ty.T y48)) : Option (AV × Sig) := cond (k202_0 a0 false 0 0) (some (.one (.bool (w202_0 a0 false 0).2.1), [])) (cond (k202_0 a0 false 0 1) (some (.one (.bool (decide ((((w202_0 a0 false 0).1).length : Int) <= (4 : Int)))), [])) (none))
def v202 (a0 : List (Ty.T y48)) : Bool := cond (k202_0 a0 false 0 0) ((w202_0 a0 false 0).2.1) (cond (k202_0 a0 false 0 1) (decide ((((w202_0 a0 false 0).1).length : Int) <= (4 : Int))) (false))
def d202 (a0 : List (Ty.T y48)) : Bool := cond (k202_0 a0 false 0 0) (true) (cond (k202_0 a0 false 0 1) (true) (false))
theorem o202 (a0 : List (Ty.T y48)) : u202 a0 = cond (d202 a0) (some (f202 (v202 a0))) none := (pC (pS _) (pC (pS _) (pN _)))
def p202 : Prim := ⟨[.one (.dat (.sl 56 y48) true)], fun v => .br (d202 v.1) (.done (f202 (v202 v.1))) .no⟩
theorem ok202 : PO 202 p202 := pK E202l fun v => Eq.trans (b := u202 v.1) (by kernel_rfl) (o202 v.1)
def f128 (r : Bool) : AV × Sig := (.one (.bool r), [])
def E128 := ((((E0.p ok129).p ok200).p ok201).p ok202)
def t128 (a0 : Ty.T y105) {Z : Type} (κ : Bool -> Option Z) : Option Z := cond (a0.1 == (1 : Int)) (cond (d200 a0.2.1) (cond (v200 a0.2.1) (cond (a0.2.2.1 == (0 : Int)) (κ (((a0.2.2.2).length : Int) == (0 : Int))) (κ false)) (κ false)) (none)) (cond (a0.1 == (2 : Int)) (cond (d201 a0) (cond (v201 a0) (cond (v129 a0.2.2.1 1 99) (κ (((a0.2.2.2).length : Int) == (0 : Int))) (κ false)) (κ false)) (none)) (cond (a0.1 == (3 : Int)) (cond (d201 a0) (cond (v201 a0) (cond (a0.2.2.1 == (0 : Int)) (cond (d202 a0.2.2.2) (κ (v202 a0.2.2.2)) (none)) (κ false)) (κ false)) (none)) (cond (a0.1 == (4 : Int)) (cond (d201 a0) (cond (v201 a0) (cond (a0.2.2.1 == (0 : Int)) (κ (((a0.2.2.2).length : Int) == (0 : Int))) (κ false)) (κ false)) (none)) (κ false))))
def v128 (a0 : Ty.T y105) : Bool := (t128 a0 some).getD false
def d128 (a0 : Ty.T y105) : Bool := (t128 a0 some).isSome
def p128 : Prim := ⟨[.agg [.dat y105 true]], fun v => .br (d128 v.1) (.done (f128 (v128 v.1))) .no⟩
theorem ok128 : PO 128 p128 := pK E128 fun v => Eq.trans (b := (t128 v.1 (sm f128))) (by kernel_rfl) (run_fin (show t128 v.1 (sm f128) = (t128 v.1 some).bind _ from by unfold t128; simp only [bb]))
def f130 (r : Bool) : AV × Sig := (.one (.bool r), [])
def E130 := (E0.p ok200)
@[reducible] def ss130_0 : List SP := .one (.dat (.sl 103 y102) true) :: .und :: .one (.dat .bool true) :: oI :: U32 (.und :: [])
@[reducible] def V130_0 : Type := (List (Ty.T y102)) × Bool × Int × Unit
def t130_0 (v : V130_0) {Z : Type} (κ : Nat × V130_0 -> Option Z) : Option Z := cond (decide (v.2.2.1 < ((v.1).length : Int))) (if 0 <= v.2.2.1 then (optC ((v.1)[(v.2.2.1).toNat]?) (fun x1 => cond (d200 x1) (cond (!(v200 x1)) (κ (1, (v.1, false, v.2.2.1, ()))) (cond (decide (v.2.2.1 > (0 : Int))) (if 0 <= (IntKind.wrap .i64 (v.2.2.1 - (1 : Int))) then (optC ((v.1)[(IntKind.wrap .i64 (v.2.2.1 - (1 : Int))).toNat]?) (fun x2 => if 0 <= v.2.2.1 then (optC ((v.1)[(v.2.2.1).toNat]?) (fun x3 => cond (decide (x2.1 ≥ x3.1)) (κ (1, (v.1, false, v.2.2.1, ()))) (κ (0, (v.1, v.2.1, IntKind.wrap .i64 (v.2.2.1 + (1 : Int)), ()))))) else none)) else none) (κ (0, (v.1, v.2.1, IntKind.wrap .i64 (v.2.2.1 + (1 : Int)), ()))))) (none))) else none) (κ (2, (v.1, v.2.1, v.2.2.1, ())))
def s130_0 (v : V130_0) : Option (Nat × V130_0) := t130_0 v some
def n130_0 (v : V130_0) : Nat := v.1.length + v.2.2.1.toNat + 100
def k130_0 (h0 : List (Ty.T y102)) (h1 : Bool) (h2 : Int) (c : Nat) : Bool := iK s130_0 n130_0 (h0, h1, h2, ()) c
def w130_0 (h0 : List (Ty.T y102)) (h1 : Bool) (h2 : Int) : V130_0 := iW s130_0 n130_0 (h0, h1, h2, ())
def F130_0 (v : V130_0) : Ways (Ex × St) := waysOf s130_0 (n130_0 v) v (bldSt ss130_0 gs18_0) [.ret, .exit 0] 0
theorem l130_0 : LoopOk Tryz.prog (loopAt (pb 3 5) (bodyOf Tryz.f130)) ss130_0 gs18_0 F130_0 := loopOk_iter (lt := .none) E130.ok orders (LtOk.no _) fun n v K => Eq.trans (b := t130_0 v (kont _ _ _ _ _ K)) (by kernel_rfl) (show t130_0 v _ = (t130_0 v some).bind _ from (bC (bI (bO fun x1 => (bC (bC rfl (bC (bI (bO fun x2 => (bI (bO fun x3 => (bC rfl rfl))))) rfl)) rfl))) rfl))
def E130l := E130.l (g := 130) (t := (ltPut (pb 3 5) (bodyOf Tryz.f130) .none (.sum ss130_0 gs18_0 F130_0))) (ltOk_of Tryz.func130 (LtOk.put (wf_of (by kernel_rfl)) (LtOk.no _) l130_0))
def u130 (a0 : List (Ty.T y102)) : Option (AV × Sig) := cond (k130_0 a0 false 0 0) (some (.one (.bool (w130_0 a0 false 0).2.1), [])) (cond (k130_0 a0 false 0 1) (some (.one (.bool (decide ((((w130_0 a0 false 0).1).length : Int) <= (5 : Int)))), [])) (none))
def v130 (a0 : List (Ty.T y102)) : Bool := cond (k130_0 a0 false 0 0) ((w130_0 a0 false 0).2.1) (cond (k130_0 a0 false 0 1) (decide ((((w130_0 a0 false 0).1).length : Int) <= (5 : Int))) (false))
def d130 (a0 : List (Ty.T y102)) : Bool := cond (k130_0 a0 false 0 0) (true) (cond (k130_0 a0 false 0 1) (true) (false))
theorem o130 (a0 : List (Ty.T y102)) : u130 a0 = cond (d130 a0) (some (f130 (v130 a0))) none := (pC (pS _) (pC (pS _) (pN _)))
def p130 : Prim := ⟨[.one (.dat (.sl 103 y102) true)], fun v => .br (d130 v.1) (.done (f130 (v130 v.1))) .no⟩
theorem ok130 : PO 130 p130 := pK E130l fun v => Eq.trans (b := u130 v.1) (by kernel_rfl) (o130 v.1)
def f53 (r : Bool) : AV × Sig := (.one (.bool r), [])
def E53 := ((((E0.p ok125).p ok128).p ok129).p ok130)
@[reducible] def ss53_0 : List SP := .und :: .one (.ptr 1 0) :: .one (.dat .bool true) :: oI :: U32 (U16 (.und :: []))
@[reducible] def gs53_0 : List (Nat × GP) := [(1, .box 41 [.dat y40 true])]
@[reducible] def V53_0 : Type := Bool × Int × (Ty.T y40) × Unit
def t53_0 (v : V53_0) {Z : Type} (κ : Nat × V53_0 -> Option Z) : Option Z := cond (decide (v.2.1 < ((v.2.2.1.2.2.1).length : Int))) (if 0 <= v.2.1 then (optC ((v.2.2.1.2.2.1)[(v.2.1).toNat]?) (fun x1 => cond (d128 x1) (cond (!(v128 x1)) (κ (1, (false, v.2.1, v.2.2.1, ()))) (κ (0, (v.1, IntKind.wrap .i64 (v.2.1 + (1 : Int)), v.2.2.1, ())))) (none))) else none) (κ (2, (v.1, v.2.1, v.2.2.1, ())))
def s53_0 (v : V53_0) : Option (Nat × V53_0) := t53_0 v some
def n53_0 (v : V53_0) : Nat := v.2.1.toNat + v.2.2.1.1.1.length + v.2.2.1.1.2.1.length + v.2.2.1.2.1.length + v.2.2.1.2.2.1.length + v.2.2.1.2.2.2.length + 100
def k53_0 (h0 : Bool) (h1 : Int) (h2 : Ty.T y40) (c : Nat) : Bool := iK s53_0 n53_0 (h0, h1, h2, ()) c
def w53_0 (h0 : Bool) (h1 : Int) (h2 : Ty.T y40) : V53_0 := iW s53_0 n53_0 (h0, h1, h2, ())
def F53_0 (v : V53_0) : Ways (Ex × St) := waysOf s53_0 (n53_0 v) v (bldSt ss53_0 gs53_0) [.ret, .exit 0] 0
theorem l53_0 : LoopOk Tryz.prog (loopAt (pb 3 5) (bodyOf Tryz.f53)) ss53_0 gs53_0 F53_0 := loopOk_iter (lt := .none) E53.ok orders (LtOk.no _) fun n v K => Eq.trans (b := t53_0 v (kont _ _ _ _ _ K)) (by kernel_rfl) (show t53_0 v _ = (t53_0 v some).bind _ from (bC (bI (bO fun x1 => (bC (bC rfl rfl) rfl))) rfl))
@[reducible] def ss53_1 : List SP := .und :: .one (.ptr 1 0) :: .one (.dat .bool true) :: .und :: oI :: U32 (U16 ([]))
def t53_1 (v : V53_0) {Z : Type} (κ : Nat × V53_0 -> Option Z) : Option Z := cond (decide (v.2.1 < ((v.2.2.1.2.2.2).length : Int))) (if 0 <= v.2.1 then (optC ((v.2.2.1.2.2.2)[(v.2.1).toNat]?) (fun x2 => cond (!(v129 x2 (-2147483647) 2147483647)) (κ (1, (false, v.2.1, v.2.2.1, ()))) (κ (0, (v.1, IntKind.wrap .i64 (v.2.1 + (1 : Int)), v.2.2.1, ()))))) else none) (κ (2, (v.1, v.2.1, v.2.2.1, ())))
def s53_1 (v : V53_0) : Option (Nat × V53_0) := t53_1 v some
def n53_1 (v : V53_0) : Nat := v.2.1.toNat + v.2.2.1.1.1.length + v.2.2.1.1.2.1.length + v.2.2.1.2.1.length + v.2.2.1.2.2.1.length + v.2.2.1.2.2.2.length + 100
def k53_1 (h0 : Bool) (h1 : Int) (h2 : Ty.T y40) (c : Nat) : Bool := iK s53_1 n53_1 (h0, h1, h2, ()) c
def w53_1 (h0 : Bool) (h1 : Int) (h2 : Ty.T y40) : V53_0 := iW s53_1 n53_1 (h0, h1, h2, ())
def F53_1 (v : V53_0) : Ways (Ex × St) := waysOf s53_1 (n53_1 v) v (bldSt ss53_1 gs53_0) [.ret, .exit 2] 0
theorem l53_1 : LoopOk Tryz.prog (loopAt (pb 4 11) (bodyOf Tryz.f53)) ss53_1 gs53_0 F53_1 := loopOk_iter (lt := .none) E53.ok orders (LtOk.no _) fun n v K => Eq.trans (b := t53_1 v (kont _ _ _ _ _ K)) (by kernel_rfl) (show t53_1 v _ = (t53_1 v some).bind _ from (bC (bI (bO fun x2 => (bC rfl rfl))) rfl))
def E53l := E53.l (g := 53) (t := (ltPut (pb 4 11) (bodyOf Tryz.f53) (ltPut (pb 3 5) (bodyOf Tryz.f53) .none (.sum ss53_0 gs53_0 F53_0)) (.sum ss53_1 gs53_0 F53_1))) (ltOk_of Tryz.func53 (LtOk.put (wf_of (by kernel_rfl)) (LtOk.put (wf_of (by kernel_rfl)) (LtOk.no _) l53_0) l53_1))
def t53 (a0 : Ty.T y40) {Z : Type} (κ : Bool -> Option Z) : Option Z := cond (k53_0 false 0 a0 0) (κ (w53_0 false 0 a0).1) (cond (k53_0 false 0 a0 1) (cond (k53_1 (w53_0 false 0 a0).1 0 (w53_0 false 0 a0).2.2.1 0) (κ (w53_1 (w53_0 false 0 a0).1 0 (w53_0 false 0 a0).2.2.1).1) (cond (k53_1 (w53_0 false 0 a0).1 0 (w53_0 false 0 a0).2.2.1 1) (cond (d125 (w53_1 (w53_0 false 0 a0).1 0 (w53_0 false 0 a0).2.2.1).2.2.1.1) (cond (v125 (w53_1 (w53_0 false 0 a0).1 0 (w53_0 false 0 a0).2.2.1).2.2.1.1) (cond (d130 (w53_1 (w53_0 false 0 a0).1 0 (w53_0 false 0 a0).2.2.1).2.2.1.2.1) (cond (v130 (w53_1 (w53_0 false 0 a0).1 0 (w53_0 false 0 a0).2.2.1).2.2.1.2.1) (cond (decide ((((w53_1 (w53_0 false 0 a0).1 0 (w53_0 false 0 a0).2.2.1).2.2.1.2.2.1).length : Int) <= (12 : Int))) (κ (decide ((((w53_1 (w53_0 false 0 a0).1 0 (w53_0 false 0 a0).2.2.1).2.2.1.2.2.2).length : Int) <= (60 : Int)))) (κ false)) (κ false)) (none)) (κ false)) (none)) (none))) (none))
def v53 (a0 : Ty.T y40) : Bool := (t53 a0 some).getD false
def d53 (a0 : Ty.T y40) : Bool := (t53 a0 some).isSome
def p53 : Prim := ⟨[.agg [.dat y40 true]], fun v => .br (d53 v.1) (.done (f53 (v53 v.1))) .no⟩
theorem ok53 : PO 53 p53 := pK E53l fun v => Eq.trans (b := (t53 v.1 (sm f53))) (by kernel_rfl) (run_fin (show t53 v.1 (sm f53) = (t53 v.1 some).bind _ from by unfold t53; simp only [bb]))
def f54 (r : Bool) : AV × Sig := (.one (.bool r), [])
def E54 := E0
def u54 (a0 : List (Ty.T (.int .i64))) : Option (AV × Sig) := some (.one (.bool (decide (((a0).length : Int) > (255 : Int)))), [])
def v54 (a0 : List (Ty.T (.int .i64))) : Bool := decide (((a0).length : Int) > (255 : Int))
theorem o54 (a0 : List (Ty.T (.int .i64))) : u54 a0 = some (f54 (v54 a0)) := rfl
def p54 : Prim := ⟨[.one (.dat (.sl 3 (.int .i64)) true)], fun v => .done (f54 (v54 v.1))⟩
theorem ok54 : PO 54 p54 := pK E54 fun v => Eq.trans (b := u54 v.1) (by kernel_rfl) (o54 v.1)
def f56 (r : (List (Ty.T (.int .u8)))) : AV × Sig := (.one (.sl 4096), [(4096, .arr 5 (.int .u8) r false)])
def E56 := (E0.p ok55)
@[reducible] def ss56_0 : List SP := .und :: .one (.dat (.sl 3 (.int .i64)) true) :: U2 (.one (.dat (.sl 5 (.int .u8)) false) :: .one (.own 7) :: oI :: U16 (U8 (U2 ([]))))
@[reducible] def gs56_0 : List (Nat × GP) := [(7, .arr 5 (.int .u8) false)]
@[reducible] def V56_0 : Type := (List (Ty.T (.int .i64))) × (List (Ty.T (.int .u8))) × Int × (List (Ty.T (.int .u8))) × Unit
def t56_0 (v : V56_0) {Z : Type} (κ : Nat × V56_0 -> Option Z) : Option Z := cond (decide (v.2.2.1 < ((v.1).length : Int))) (if 0 <= v.2.2.1 then (optC ((v.1)[(v.2.2.1).toNat]?) (fun x1 => cond (d55 v.2.2.2.1 x1) (κ (0, (v.1, v.2.1, IntKind.wrap .i64 (v.2.2.1 + (1 : Int)), (v55 v.2.2.2.1 x1), ()))) (none))) else none) (κ (1, (v.1, v.2.1, v.2.2.1, v.2.2.2.1, ())))
def s56_0 (v : V56_0) : Option (Nat × V56_0) := t56_0 v some
def n56_0 (v : V56_0) : Nat := v.1.length + v.2.1.length + v.2.2.1.toNat + v.2.2.2.1.length + 100
def k56_0 (h0 : List (Ty.T (.int .i64))) (h1 : List (Ty.T (.int .u8))) (h2 : Int) (h3 : List (Ty.T (.int .u8))) (c : Nat) : Bool := iK s56_0 n56_0 (h0, h1, h2, h3, ()) c
def w56_0 (h0 : List (Ty.T (.int .i64))) (h1 : List (Ty.T (.int .u8))) (h2 : Int) (h3 : List (Ty.T (.int .u8))) : V56_0 := iW s56_0 n56_0 (h0, h1, h2, h3, ())
def F56_0 (v : V56_0) : Ways (Ex × St) := waysOf s56_0 (n56_0 v) v (bldSt ss56_0 gs56_0) [.exit 0] 0
theorem l56_0 : LoopOk Tryz.prog (loopAt (pb 6 47) (bodyOf Tryz.f56)) ss56_0 gs56_0 F56_0 := loopOk_iter (lt := .none) E56.ok orders (LtOk.no _) fun n v K => Eq.trans (b := t56_0 v (kont _ _ _ _ _ K)) (by kernel_rfl) (show t56_0 v _ = (t56_0 v some).bind _ from (bC (bI (bO fun x1 => (bC rfl rfl))) rfl))
def E56l := E56.l (g := 56) (t := (ltPut (pb 6 47) (bodyOf Tryz.f56) .none (.sum ss56_0 gs56_0 F56_0))) (ltOk_of Tryz.func56 (LtOk.put (wf_of (by kernel_rfl)) (LtOk.no _) l56_0))
def u56 (a0 : List (Ty.T (.int .u8))) (a1 : List (Ty.T (.int .i64))) : Option (AV × Sig) := if ([] ++ a0 : List (Ty.T (.int .u8))).length * 1 <= 140737488351232 then (cond (decide (((a1).length : Int) > (255 : Int))) (some (.one (.sl 4096), [(4096, .arr 5 (.int .u8) ([] ++ a0) false)])) (if (([] ++ a0) ++ [IntKind.wrap .u8 ((a1).length : Int)] : List (Ty.T (.int .u8))).length * 1 <= 140737488351232 then (cond (k56_0 a1 [] 0 (([] ++ a0) ++ [IntKind.wrap .u8 ((a1).length : Int)]) 0) (some (.one (.sl 4096), [(4096, .arr 5 (.int .u8) (w56_0 a1 [] 0 (([] ++ a0) ++ [IntKind.wrap .u8 ((a1).length : Int)])).2.2.2.1 false)])) (none)) else none)) else none
def v56 (a0 : List (Ty.T (.int .u8))) (a1 : List (Ty.T (.int .i64))) : (List (Ty.T (.int .u8))) := cond (decide (((a1).length : Int) > (255 : Int))) ([] ++ a0) (cond (k56_0 a1 [] 0 (([] ++ a0) ++ [IntKind.wrap .u8 ((a1).length : Int)]) 0) ((w56_0 a1 [] 0 (([] ++ a0) ++ [IntKind.wrap .u8 ((a1).length : Int)])).2.2.2.1) ([]))
def d56 (a0 : List (Ty.T (.int .u8))) (a1 : List (Ty.T (.int .i64))) : Bool := decide (([] ++ a0 : List (Ty.T (.int .u8))).length * 1 <= 140737488351232) && (cond (decide (((a1).length : Int) > (255 : Int))) (true) (decide ((([] ++ a0) ++ [IntKind.wrap .u8 ((a1).length : Int)] : List (Ty.T (.int .u8))).length * 1 <= 140737488351232) && (cond (k56_0 a1 [] 0 (([] ++ a0) ++ [IntKind.wrap .u8 ((a1).length : Int)]) 0) (true) (false))))
theorem o56 (a0 : List (Ty.T (.int .u8))) (a1 : List (Ty.T (.int .i64))) : u56 a0 a1 = cond (d56 a0 a1) (some (f56 (v56 a0 a1))) none := (pI (pC (pS _) (pI (pC (pS _) (pN _)))))
def p56 : Prim := ⟨[.one (.dat (.sl 5 (.int .u8)) true), .one (.dat (.sl 3 (.int .i64)) true)], fun v => .br (d56 v.1 v.2.1) (.done (f56 (v56 v.1 v.2.1))) .no⟩
theorem ok56 : PO 56 p56 := pK E56l fun v => Eq.trans (b := u56 v.1 v.2.1) (by kernel_rfl) (o56 v.1 v.2.1)
def f132 (r : (List (Ty.T (.int .i64)))) : AV × Sig := (.one (.sl 4096), [(4096, .arr 3 (.int .i64) r false)])
def E132 := (E0.p ok127)
def u132 (a0 : Ty.T y48) : Option (AV × Sig) := some (.one (.sl 4096), [(4096, .arr 3 (.int .i64) [a0.1, a0.2.1, a0.2.2.1, a0.2.2.2.1, a0.2.2.2.2.1, a0.2.2.2.2.2.1, (v127 a0.2.2.2.2.2.2)] false)])
def v132 (a0 : Ty.T y48) : (List (Ty.T (.int .i64))) := [a0.1, a0.2.1, a0.2.2.1, a0.2.2.2.1, a0.2.2.2.2.1, a0.2.2.2.2.2.1, (v127 a0.2.2.2.2.2.2)]
theorem o132 (a0 : Ty.T y48) : u132 a0 = some (f132 (v132 a0)) := rfl
def p132 : Prim := ⟨[.agg [.dat y48 true]], fun v => .done (f132 (v132 v.1))⟩
theorem ok132 : PO 132 p132 := pK E132 fun v => Eq.trans (b := u132 v.1) (by kernel_rfl) (o132 v.1)
def f57 (r : (List (Ty.T (.int .i64)))) : AV × Sig := (.one (.sl 4096), [(4096, .arr 3 (.int .i64) r false)])
def E57 := ((E0.p ok127).p ok132)
@[reducible] def ss57_0 : List SP := .und :: .one (.ptr 1 0) :: .one (.dat (.sl 3 (.int .i64)) false) :: .und :: .one (.ptr 4 0) :: .one (.own 55) :: oI :: U64 (U4 (U2 (.und :: [])))
@[reducible] def gs57_0 : List (Nat × GP) := [(1, .box 103 [.dat y102 true]), (4, .box 101 [.dat y100 true]), (55, .arr 3 (.int .i64) false)]
@[reducible] def V57_0 : Type := (List (Ty.T (.int .i64))) × Int × (Ty.T y102) × (Ty.T y100) × (List (Ty.T (.int .i64))) × Unit
def t57_0 (v : V57_0) {Z : Type} (κ : Nat × V57_0 -> Option Z) : Option Z := cond (decide (v.2.1 < ((v.2.2.2.1.2.2.2.2.2.2).length : Int))) (if 0 <= v.2.1 then (optC ((v.2.2.2.1.2.2.2.2.2.2)[(v.2.1).toNat]?) (fun x1 => if (v.2.2.2.2.1 ++ (v132 x1) : List (Ty.T (.int .i64))).length * 8 <= 140737488351232 then (κ (0, (v.1, IntKind.wrap .i64 (v.2.1 + (1 : Int)), v.2.2.1, v.2.2.2.1, v.2.2.2.2.1 ++ (v132 x1), ()))) else none)) else none) (κ (1, (v.1, v.2.1, v.2.2.1, v.2.2.2.1, v.2.2.2.2.1, ())))
def s57_0 (v : V57_0) : Option (Nat × V57_0) := t57_0 v some
def n57_0 (v : V57_0) : Nat := v.1.length + v.2.1.toNat + v.2.2.1.2.2.2.2.2.2.1.2.2.2.2.2.2.length + v.2.2.2.1.2.2.2.2.2.2.length + v.2.2.2.2.1.length + 100
def k57_0 (h0 : List (Ty.T (.int .i64))) (h1 : Int) (h2 : Ty.T y102) (h3 : Ty.T y100) (h4 : List (Ty.T (.int .i64))) (c : Nat) : Bool := iK s57_0 n57_0 (h0, h1, h2, h3, h4, ()) c
def w57_0 (h0 : List (Ty.T (.int .i64))) (h1 : Int) (h2 : Ty.T y102) (h3 : Ty.T y100) (h4 : List (Ty.T (.int .i64))) : V57_0 := iW s57_0 n57_0 (h0, h1, h2, h3, h4, ())
def F57_0 (v : V57_0) : Ways (Ex × St) := waysOf s57_0 (n57_0 v) v (bldSt ss57_0 gs57_0) [.exit 0] 0
theorem l57_0 : LoopOk Tryz.prog (loopAt (pb 6 47) (bodyOf Tryz.f57)) ss57_0 gs57_0 F57_0 := loopOk_iter (lt := .none) E57.ok orders (LtOk.no _) fun n v K => Eq.trans (b := t57_0 v (kont _ _ _ _ _ K)) (by kernel_rfl) (show t57_0 v _ = (t57_0 v some).bind _ from (bC (bI (bO fun x1 => (bI rfl))) rfl))
def E57l := E57.l (g := 57) (t := (ltPut (pb 6 47) (bodyOf Tryz.f57) .none (.sum ss57_0 gs57_0 F57_0))) (ltOk_of Tryz.func57 (LtOk.put (wf_of (by kernel_rfl)) (LtOk.no _) l57_0))
def e57_0 (a0 : Ty.T y102) := (w57_0 [] 0 a0 a0.2.2.2.2.2.2.1 [a0.1, a0.2.1, a0.2.2.1, a0.2.2.2.1, a0.2.2.2.2.1.1, a0.2.2.2.2.1.2.1, a0.2.2.2.2.1.2.2.1, a0.2.2.2.2.1.2.2.2.1, a0.2.2.2.2.1.2.2.2.2.1, a0.2.2.2.2.1.2.2.2.2.2.1, a0.2.2.2.2.1.2.2.2.2.2.2, a0.2.2.2.2.2.1.1, a0.2.2.2.2.2.1.2, a0.2.2.2.2.2.2.1.1, a0.2.2.2.2.2.2.1.2.1, a0.2.2.2.2.2.2.1.2.2.1, a0.2.2.2.2.2.2.1.2.2.2.1, a0.2.2.2.2.2.2.1.2.2.2.2.1, (v127 a0.2.2.2.2.2.2.1.2.2.2.2.2.1), ((a0.2.2.2.2.2.2.1.2.2.2.2.2.2).length : Int)])
def t57 (a0 : Ty.T y102) {Z : Type} (κ : (List (Ty.T (.int .i64))) -> Option Z) : Option Z := cond (k57_0 [] 0 a0 a0.2.2.2.2.2.2.1 [a0.1, a0.2.1, a0.2.2.1, a0.2.2.2.1, a0.2.2.2.2.1.1, a0.2.2.2.2.1.2.1, a0.2.2.2.2.1.2.2.1, a0.2.2.2.2.1.2.2.2.1, a0.2.2.2.2.1.2.2.2.2.1, a0.2.2.2.2.1.2.2.2.2.2.1, a0.2.2.2.2.1.2.2.2.2.2.2, a0.2.2.2.2.2.1.1, a0.2.2.2.2.2.1.2, a0.2.2.2.2.2.2.1.1, a0.2.2.2.2.2.2.1.2.1, a0.2.2.2.2.2.2.1.2.2.1, a0.2.2.2.2.2.2.1.2.2.2.1, a0.2.2.2.2.2.2.1.2.2.2.2.1, (v127 a0.2.2.2.2.2.2.1.2.2.2.2.2.1), ((a0.2.2.2.2.2.2.1.2.2.2.2.2.2).length : Int)] 0) (if ((e57_0 a0).2.2.2.2.1 ++ [(e57_0 a0).2.2.1.2.2.2.2.2.2.2.1, (e57_0 a0).2.2.1.2.2.2.2.2.2.2.2] : List (Ty.T (.int .i64))).length * 8 <= 140737488351232 then (κ ((e57_0 a0).2.2.2.2.1 ++ [(e57_0 a0).2.2.1.2.2.2.2.2.2.2.1, (e57_0 a0).2.2.1.2.2.2.2.2.2.2.2])) else none) (none)
def v57 (a0 : Ty.T y102) : (List (Ty.T (.int .i64))) := (t57 a0 some).getD []
def d57 (a0 : Ty.T y102) : Bool := (t57 a0 some).isSome
def p57 : Prim := ⟨[.agg [.dat y102 true]], fun v => .br (d57 v.1) (.done (f57 (v57 v.1))) .no⟩
theorem ok57 : PO 57 p57 := pK E57l fun v => Eq.trans (b := (t57 v.1 (sm f57))) (by kernel_rfl) (run_fin (show t57 v.1 (sm f57) = (t57 v.1 some).bind _ from (bC (bI rfl) rfl)))
end
end Go.Proofs.YtcddhifkfakcjaaGreat.Vm
