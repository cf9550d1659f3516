/- Contracts. No condition. -/
import Derived.Test.YtahlaccdpmddbaaGreatVmCFnInBoundsP4
import Derived.Test.YtahlaccdpmddbaaGreatVmLibThree
namespace Go.Proofs.YtahlaccdpmddbaaGreat.Vm
open Go Go.Proofs.YtahlaccdpmddbaaGreat.Lib
noncomputable section
set_option maxRecDepth 100000
set_option linter.unusedVariables false
def f232 (r : Int) : AV × Sig := (.one (.int .i64 r), [])
def E232 := ((E0.p ok192).p ok233)
@[reducible] def ss232_0 : List SP := oI :: oI :: U2 (oI :: oI :: oI :: U16 (U8 (U4 (.und :: []))))
@[reducible] def V232_0 : Type := Int × Int × Int × Int × Int × Unit
def t232_0 (v : V232_0) {Z : Type} (κ : Nat × V232_0 -> Option Z) : Option Z := cond (decide (v.2.2.2.2.1 < v.2.1)) (cond (decide (v.2.2.2.1 < (2147483647 : Int))) (cond (d233 v.1 v.2.2.2.2.1) (κ (0, (v.1, v.2.1, v.2.2.1, if (2147483647 : Int) < (IntKind.wrap .i64 (v.2.2.2.1 + (v233 v.1 v.2.2.2.2.1))) then 2147483647 else IntKind.wrap .i64 (v.2.2.2.1 + (v233 v.1 v.2.2.2.2.1)), IntKind.wrap .i64 (v.2.2.2.2.1 + (1 : Int)), ()))) (none)) (κ (1, (v.1, v.2.1, v.2.2.1, v.2.2.2.1, v.2.2.2.2.1, ())))) (κ (1, (v.1, v.2.1, v.2.2.1, v.2.2.2.1, v.2.2.2.2.1, ())))
def s232_0 (v : V232_0) : Option (Nat × V232_0) := t232_0 v some
def n232_0 (v : V232_0) : Nat := v.1.toNat + v.2.1.toNat + v.2.2.1.toNat + v.2.2.2.1.toNat + v.2.2.2.2.1.toNat + 100
def k232_0 (h0 : Int) (h1 : Int) (h2 : Int) (h3 : Int) (h4 : Int) (c : Nat) : Bool := iK s232_0 n232_0 (h0, h1, h2, h3, h4, ()) c
def w232_0 (h0 : Int) (h1 : Int) (h2 : Int) (h3 : Int) (h4 : Int) : V232_0 := iW s232_0 n232_0 (h0, h1, h2, h3, h4, ())
def F232_0 (v : V232_0) : Ways (Ex × St) := waysOf s232_0 (n232_0 v) v (bldSt ss232_0 gs116_0) [.exit 1] 0
theorem l232_0 : LoopOk Tryz.prog (loopAt (pb 6 47) (bodyOf Tryz.f232)) ss232_0 gs116_0 F232_0 := loopOk_iter (lt := .none) E232.ok orders (LtOk.no _) fun n v K => Eq.trans (b := t232_0 v (kont _ _ _ _ _ K)) (by kernel_rfl) (show t232_0 v _ = (t232_0 v some).bind _ from (bC (bC (bC rfl rfl) rfl) rfl))
def E232l := E232.l (g := 232) (t := (ltPut (pb 6 47) (bodyOf Tryz.f232) .none (.sum ss232_0 gs116_0 F232_0))) (ltOk_of Tryz.func232 (LtOk.put (wf_of (by kernel_rfl)) (LtOk.no _) l232_0))
def u232 (a0 : Int) (a1 : Int) : Option (AV × Sig) := cond (decide (a1 <= (0 : Int))) (some (.one (.int .i64 0), [])) (cond ((v192 a0 2147483647) == (0 : Int)) (some (.one (.int .i64 1), [])) (cond ((v192 a0 2147483647) == (1 : Int)) (some (.one (.int .i64 (if (2147483647 : Int) < a1 then 2147483647 else a1)), [])) (cond (k232_0 (v192 a0 2147483647) a1 0 0 0 0) (some (.one (.int .i64 (w232_0 (v192 a0 2147483647) a1 0 0 0).2.2.2.1), [])) (none))))
def v232 (a0 : Int) (a1 : Int) : Int := cond (decide (a1 <= (0 : Int))) (0) (cond ((v192 a0 2147483647) == (0 : Int)) (1) (cond ((v192 a0 2147483647) == (1 : Int)) (if (2147483647 : Int) < a1 then 2147483647 else a1) (cond (k232_0 (v192 a0 2147483647) a1 0 0 0 0) ((w232_0 (v192 a0 2147483647) a1 0 0 0).2.2.2.1) (0))))
def d232 (a0 : Int) (a1 : Int) : Bool := cond (decide (a1 <= (0 : Int))) (true) (cond ((v192 a0 2147483647) == (0 : Int)) (true) (cond ((v192 a0 2147483647) == (1 : Int)) (true) (cond (k232_0 (v192 a0 2147483647) a1 0 0 0 0) (true) (false))))
theorem o232 (a0 : Int) (a1 : Int) : u232 a0 a1 = cond (d232 a0 a1) (some (f232 (v232 a0 a1))) none := (pC (pS _) (pC (pS _) (pC (pS _) (pC (pS _) (pN _)))))
def p232 : Prim := ⟨[oI, oI], fun v => .br (d232 v.1 v.2.1) (.done (f232 (v232 v.1 v.2.1))) .no⟩
theorem ok232 : PO 232 p232 := pK E232l fun v => Eq.trans (b := u232 v.1 v.2.1) (by kernel_rfl) (o232 v.1 v.2.1)
def f144 (r : Int) : AV × Sig := (.one (.int .i64 r), [])
def E144 := ((E0.p ok232).p ok68)
def u144 (a0 : List (Ty.T y108)) : Option (AV × Sig) := cond (d68 a0) (cond (d232 3 (v68 a0)) (some (.one (.int .i64 (v232 3 (v68 a0))), [])) (none)) (none)
def v144 (a0 : List (Ty.T y108)) : Int := cond (d68 a0) (cond (d232 3 (v68 a0)) ((v232 3 (v68 a0))) (0)) (0)
def d144 (a0 : List (Ty.T y108)) : Bool := cond (d68 a0) (cond (d232 3 (v68 a0)) (true) (false)) (false)
theorem o144 (a0 : List (Ty.T y108)) : u144 a0 = cond (d144 a0) (some (f144 (v144 a0))) none := (pC (pC (pS _) (pN _)) (pN _))
def p144 : Prim := ⟨[.one (.dat (.sl 109 y108) true)], fun v => .br (d144 v.1) (.done (f144 (v144 v.1))) .no⟩
theorem ok144 : PO 144 p144 := pK E144 fun v => Eq.trans (b := u144 v.1) (by kernel_rfl) (o144 v.1)
def f145 (r : Int) : AV × Sig := (.one (.int .i64 r), [])
def E145 := ((E0.p ok233).p ok68)
def u145 (a0 : List (Ty.T y108)) : Option (AV × Sig) := cond (d68 a0) (cond (d233 3 (v68 a0)) (some (.one (.int .i64 (v233 3 (v68 a0))), [])) (none)) (none)
def v145 (a0 : List (Ty.T y108)) : Int := cond (d68 a0) (cond (d233 3 (v68 a0)) ((v233 3 (v68 a0))) (0)) (0)
def d145 (a0 : List (Ty.T y108)) : Bool := cond (d68 a0) (cond (d233 3 (v68 a0)) (true) (false)) (false)
theorem o145 (a0 : List (Ty.T y108)) : u145 a0 = cond (d145 a0) (some (f145 (v145 a0))) none := (pC (pC (pS _) (pN _)) (pN _))
def p145 : Prim := ⟨[.one (.dat (.sl 109 y108) true)], fun v => .br (d145 v.1) (.done (f145 (v145 v.1))) .no⟩
theorem ok145 : PO 145 p145 := pK E145 fun v => Eq.trans (b := u145 v.1) (by kernel_rfl) (o145 v.1)
def f46 (r : Bool) : AV × Sig := (.one (.bool r), [])
def E46 := ((((E0.p ok144).p ok145).p ok65).p ok68)
def u46 (a0 : List (Ty.T y108)) (a1 : Ty.T y56) : Option (AV × Sig) := cond (d144 a0) (cond (decide (((a1.2.2.2).length : Int) <= (v144 a0))) (cond (d145 a0) (cond (decide (((a1.1).length : Int) <= (v145 a0))) (cond (d65 a1) (cond (d68 a0) (some (.one (.bool (decide ((v65 a1) <= (v68 a0)))), [])) (none)) (none)) (some (.one (.bool false), []))) (none)) (some (.one (.bool false), []))) (none)
def v46 (a0 : List (Ty.T y108)) (a1 : Ty.T y56) : Bool := cond (d144 a0) (cond (decide (((a1.2.2.2).length : Int) <= (v144 a0))) (cond (d145 a0) (cond (decide (((a1.1).length : Int) <= (v145 a0))) (cond (d65 a1) (cond (d68 a0) (decide ((v65 a1) <= (v68 a0))) (false)) (false)) (false)) (false)) (false)) (false)
def d46 (a0 : List (Ty.T y108)) (a1 : Ty.T y56) : Bool := cond (d144 a0) (cond (decide (((a1.2.2.2).length : Int) <= (v144 a0))) (cond (d145 a0) (cond (decide (((a1.1).length : Int) <= (v145 a0))) (cond (d65 a1) (cond (d68 a0) (true) (false)) (false)) (true)) (false)) (true)) (false)
theorem o46 (a0 : List (Ty.T y108)) (a1 : Ty.T y56) : u46 a0 a1 = cond (d46 a0 a1) (some (f46 (v46 a0 a1))) none := (pC (pC (pC (pC (pC (pC (pS _) (pN _)) (pN _)) (pS _)) (pN _)) (pS _)) (pN _))
def p46 : Prim := ⟨[.one (.dat (.sl 109 y108) true), .agg [.dat y56 true]], fun v => .br (d46 v.1 v.2.1) (.done (f46 (v46 v.1 v.2.1))) .no⟩
theorem ok46 : PO 46 p46 := pK E46 fun v => Eq.trans (b := u46 v.1 v.2.1) (by kernel_rfl) (o46 v.1 v.2.1)
def f66 (r : Int) : AV × Sig := (.one (.int .i64 r), [])
def E66 := E0
@[reducible] def ss66_0 : List SP := .und :: .one (.ptr 1 0) :: oI :: oI :: oI :: U32 (.und :: [])
@[reducible] def gs66_0 : List (Nat × GP) := [(1, .box 57 [.dat y56 true])]
@[reducible] def V66_0 : Type := Int × Int × Int × (Ty.T y56) × Unit
def t66_0 (v : V66_0) {Z : Type} (κ : Nat × V66_0 -> Option Z) : Option Z := cond (decide (v.2.2.1 < ((v.2.2.2.1.2.2.2).length : Int))) (if 0 <= v.2.2.1 then (optC ((v.2.2.2.1.2.2.2)[(v.2.2.1).toNat]?) (fun x1 => cond (decide (x1.2.2.2.2.2.2.2 ≥ v.2.1)) (if 0 <= v.2.2.1 then (optC ((v.2.2.2.1.2.2.2)[(v.2.2.1).toNat]?) (fun x2 => cond (decide ((IntKind.wrap .i64 (x2.2.2.2.2.2.2.2 + (1 : Int))) > (0 : Int))) (if 0 <= v.2.2.1 then (optC ((v.2.2.2.1.2.2.2)[(v.2.2.1).toNat]?) (fun x3 => κ (0, (v.1, IntKind.wrap .i64 (x3.2.2.2.2.2.2.2 + (1 : Int)), IntKind.wrap .i64 (v.2.2.1 + (1 : Int)), v.2.2.2.1, ())))) else none) (κ (0, (v.1, v.2.1, IntKind.wrap .i64 (v.2.2.1 + (1 : Int)), v.2.2.2.1, ()))))) else none) (κ (0, (v.1, v.2.1, IntKind.wrap .i64 (v.2.2.1 + (1 : Int)), v.2.2.2.1, ()))))) else none) (κ (1, (v.1, v.2.1, v.2.2.1, v.2.2.2.1, ())))
def s66_0 (v : V66_0) : Option (Nat × V66_0) := t66_0 v some
def n66_0 (v : V66_0) : Nat := v.1.toNat + v.2.1.toNat + v.2.2.1.toNat + v.2.2.2.1.1.length + v.2.2.2.1.2.1.length + v.2.2.2.1.2.2.1.length + v.2.2.2.1.2.2.2.length + 100
def k66_0 (h0 : Int) (h1 : Int) (h2 : Int) (h3 : Ty.T y56) (c : Nat) : Bool := iK s66_0 n66_0 (h0, h1, h2, h3, ()) c
def w66_0 (h0 : Int) (h1 : Int) (h2 : Int) (h3 : Ty.T y56) : V66_0 := iW s66_0 n66_0 (h0, h1, h2, h3, ())
def F66_0 (v : V66_0) : Ways (Ex × St) := waysOf s66_0 (n66_0 v) v (bldSt ss66_0 gs66_0) [.exit 0] 0
theorem l66_0 : LoopOk Tryz.prog (loopAt (pb 4 11) (bodyOf Tryz.f66)) ss66_0 gs66_0 F66_0 := loopOk_iter (lt := .none) E66.ok orders (LtOk.no _) fun n v K => Eq.trans (b := t66_0 v (kont _ _ _ _ _ K)) (by kernel_rfl) (show t66_0 v _ = (t66_0 v some).bind _ from (bC (bI (bO fun x1 => (bC (bI (bO fun x2 => (bC (bI (bO fun x3 => rfl)) rfl))) rfl))) rfl))
def E66l := E66.l (g := 66) (t := (ltPut (pb 4 11) (bodyOf Tryz.f66) .none (.sum ss66_0 gs66_0 F66_0))) (ltOk_of Tryz.func66 (LtOk.put (wf_of (by kernel_rfl)) (LtOk.no _) l66_0))
def u66 (a0 : Ty.T y56) : Option (AV × Sig) := cond (k66_0 0 0 0 a0 0) (some (.one (.int .i64 (w66_0 0 0 0 a0).2.1), [])) (none)
def v66 (a0 : Ty.T y56) : Int := cond (k66_0 0 0 0 a0 0) ((w66_0 0 0 0 a0).2.1) (0)
def d66 (a0 : Ty.T y56) : Bool := cond (k66_0 0 0 0 a0 0) (true) (false)
theorem o66 (a0 : Ty.T y56) : u66 a0 = cond (d66 a0) (some (f66 (v66 a0))) none := (pC (pS _) (pN _))
def p66 : Prim := ⟨[.agg [.dat y56 true]], fun v => .br (d66 v.1) (.done (f66 (v66 v.1))) .no⟩
theorem ok66 : PO 66 p66 := pK E66l fun v => Eq.trans (b := u66 v.1) (by kernel_rfl) (o66 v.1)
def f69 (r : Int) : AV × Sig := (.one (.int .i64 r), [])
def E69 := E0
@[reducible] def ss69_0 : List SP := .one (.dat (.sl 109 y108) true) :: .und :: oI :: oI :: oI :: U8 (U4 (U2 (.und :: [])))
def t69_0 (v : V246_0) {Z : Type} (κ : Nat × V246_0 -> Option Z) : Option Z := cond (decide (v.2.2.2.1 < ((v.1).length : Int))) (if 0 <= v.2.2.2.1 then (optC ((v.1)[(v.2.2.2.1).toNat]?) (fun x1 => cond (x1.2.2.2.2.2.2.2.2 != (0 : Int)) (κ (0, (v.1, v.2.1, IntKind.wrap .i64 (v.2.2.1 + (1 : Int)), IntKind.wrap .i64 (v.2.2.2.1 + (1 : Int)), ()))) (κ (0, (v.1, v.2.1, v.2.2.1, IntKind.wrap .i64 (v.2.2.2.1 + (1 : Int)), ()))))) else none) (κ (1, (v.1, v.2.1, v.2.2.1, v.2.2.2.1, ())))
def s69_0 (v : V246_0) : Option (Nat × V246_0) := t69_0 v some
def n69_0 (v : V246_0) : Nat := v.1.length + v.2.1.toNat + v.2.2.1.toNat + v.2.2.2.1.toNat + 100
def k69_0 (h0 : List (Ty.T y108)) (h1 : Int) (h2 : Int) (h3 : Int) (c : Nat) : Bool := iK s69_0 n69_0 (h0, h1, h2, h3, ()) c
def w69_0 (h0 : List (Ty.T y108)) (h1 : Int) (h2 : Int) (h3 : Int) : V246_0 := iW s69_0 n69_0 (h0, h1, h2, h3, ())
def F69_0 (v : V246_0) : Ways (Ex × St) := waysOf s69_0 (n69_0 v) v (bldSt ss69_0 gs116_0) [.exit 0] 0
theorem l69_0 : LoopOk Tryz.prog (loopAt (pb 4 11) (bodyOf Tryz.f69)) ss69_0 gs116_0 F69_0 := loopOk_iter (lt := .none) E69.ok orders (LtOk.no _) fun n v K => Eq.trans (b := t69_0 v (kont _ _ _ _ _ K)) (by kernel_rfl) (show t69_0 v _ = (t69_0 v some).bind _ from (bC (bI (bO fun x1 => (bC rfl rfl))) rfl))
def E69l := E69.l (g := 69) (t := (ltPut (pb 4 11) (bodyOf Tryz.f69) .none (.sum ss69_0 gs116_0 F69_0))) (ltOk_of Tryz.func69 (LtOk.put (wf_of (by kernel_rfl)) (LtOk.no _) l69_0))
def u69 (a0 : List (Ty.T y108)) : Option (AV × Sig) := cond (k69_0 a0 0 0 0 0) (some (.one (.int .i64 (w69_0 a0 0 0 0).2.2.1), [])) (none)
def v69 (a0 : List (Ty.T y108)) : Int := cond (k69_0 a0 0 0 0 0) ((w69_0 a0 0 0 0).2.2.1) (0)
def d69 (a0 : List (Ty.T y108)) : Bool := cond (k69_0 a0 0 0 0 0) (true) (false)
theorem o69 (a0 : List (Ty.T y108)) : u69 a0 = cond (d69 a0) (some (f69 (v69 a0))) none := (pC (pS _) (pN _))
def p69 : Prim := ⟨[.one (.dat (.sl 109 y108) true)], fun v => .br (d69 v.1) (.done (f69 (v69 v.1))) .no⟩
theorem ok69 : PO 69 p69 := pK E69l fun v => Eq.trans (b := u69 v.1) (by kernel_rfl) (o69 v.1)
def f235 (r : Int) : AV × Sig := (.one (.int .i64 r), [])
def E235 := ((E0.p ok148).p ok280)
@[reducible] def ss235_0 : List SP := .und :: oI :: U2 (oI :: oI :: oI :: oI :: U16 ([]))
def t235_0 (v : V232_0) {Z : Type} (κ : Nat × V232_0 -> Option Z) : Option Z := cond (decide (v.2.2.2.2.1 < v.1)) (cond (decide (v.2.2.2.2.1 < (64 : Int))) (κ (0, (v.1, v.2.1, v.2.2.1, (v280 (IntKind.wrap .i64 (v.2.2.2.1 * v.2.2.1))), IntKind.wrap .i64 (v.2.2.2.2.1 + (1 : Int)), ()))) (κ (1, (v.1, v.2.1, v.2.2.1, v.2.2.2.1, v.2.2.2.2.1, ())))) (κ (1, (v.1, v.2.1, v.2.2.1, v.2.2.2.1, v.2.2.2.2.1, ())))
def s235_0 (v : V232_0) : Option (Nat × V232_0) := t235_0 v some
def n235_0 (v : V232_0) : Nat := v.1.toNat + v.2.1.toNat + v.2.2.1.toNat + v.2.2.2.1.toNat + v.2.2.2.2.1.toNat + 100
def k235_0 (h0 : Int) (h1 : Int) (h2 : Int) (h3 : Int) (h4 : Int) (c : Nat) : Bool := iK s235_0 n235_0 (h0, h1, h2, h3, h4, ()) c
def w235_0 (h0 : Int) (h1 : Int) (h2 : Int) (h3 : Int) (h4 : Int) : V232_0 := iW s235_0 n235_0 (h0, h1, h2, h3, h4, ())
def F235_0 (v : V232_0) : Ways (Ex × St) := waysOf s235_0 (n235_0 v) v (bldSt ss235_0 gs116_0) [.exit 0] 0
theorem l235_0 : LoopOk Tryz.prog (loopAt (pb 5 23) (bodyOf Tryz.f235)) ss235_0 gs116_0 F235_0 := loopOk_iter (lt := .none) E235.ok orders (LtOk.no _) fun n v K => Eq.trans (b := t235_0 v (kont _ _ _ _ _ K)) (by kernel_rfl) (show t235_0 v _ = (t235_0 v some).bind _ from (bC (bC rfl rfl) rfl))
def E235l := E235.l (g := 235) (t := (ltPut (pb 5 23) (bodyOf Tryz.f235) .none (.sum ss235_0 gs116_0 F235_0))) (ltOk_of Tryz.func235 (LtOk.put (wf_of (by kernel_rfl)) (LtOk.no _) l235_0))
def u235 (a0 : Int) (a1 : Int) : Option (AV × Sig) := cond (k235_0 a1 0 (v148 a0 2147483647) 1 0 0) (some (.one (.int .i64 (w235_0 a1 0 (v148 a0 2147483647) 1 0).2.2.2.1), [])) (none)
def v235 (a0 : Int) (a1 : Int) : Int := cond (k235_0 a1 0 (v148 a0 2147483647) 1 0 0) ((w235_0 a1 0 (v148 a0 2147483647) 1 0).2.2.2.1) (0)
def d235 (a0 : Int) (a1 : Int) : Bool := cond (k235_0 a1 0 (v148 a0 2147483647) 1 0 0) (true) (false)
theorem o235 (a0 : Int) (a1 : Int) : u235 a0 a1 = cond (d235 a0 a1) (some (f235 (v235 a0 a1))) none := (pC (pS _) (pN _))
def p235 : Prim := ⟨[oI, oI], fun v => .br (d235 v.1 v.2.1) (.done (f235 (v235 v.1 v.2.1))) .no⟩
theorem ok235 : PO 235 p235 := pK E235l fun v => Eq.trans (b := u235 v.1 v.2.1) (by kernel_rfl) (o235 v.1 v.2.1)
def f234 (r : Int) : AV × Sig := (.one (.int .i64 r), [])
def E234 := (((E0.p ok148).p ok222).p ok235)
@[reducible] def ss234_0 : List SP := oI :: oI :: U2 (oI :: oI :: oI :: U16 (U8 (U4 ([]))))
def t234_0 (v : V232_0) {Z : Type} (κ : Nat × V232_0 -> Option Z) : Option Z := cond (decide (v.2.2.2.2.1 < v.2.1)) (cond (decide (v.2.2.2.1 < (2147483647 : Int))) (cond (decide (v.2.2.2.2.1 < (64 : Int))) (cond (d235 v.1 v.2.2.2.2.1) (κ (0, (v.1, v.2.1, v.2.2.1, (v222 v.2.2.2.1 (v235 v.1 v.2.2.2.2.1)), IntKind.wrap .i64 (v.2.2.2.2.1 + (1 : Int)), ()))) (none)) (κ (1, (v.1, v.2.1, v.2.2.1, v.2.2.2.1, v.2.2.2.2.1, ())))) (κ (1, (v.1, v.2.1, v.2.2.1, v.2.2.2.1, v.2.2.2.2.1, ())))) (κ (1, (v.1, v.2.1, v.2.2.1, v.2.2.2.1, v.2.2.2.2.1, ())))
def s234_0 (v : V232_0) : Option (Nat × V232_0) := t234_0 v some
def n234_0 (v : V232_0) : Nat := v.1.toNat + v.2.1.toNat + v.2.2.1.toNat + v.2.2.2.1.toNat + v.2.2.2.2.1.toNat + 100
def k234_0 (h0 : Int) (h1 : Int) (h2 : Int) (h3 : Int) (h4 : Int) (c : Nat) : Bool := iK s234_0 n234_0 (h0, h1, h2, h3, h4, ()) c
def w234_0 (h0 : Int) (h1 : Int) (h2 : Int) (h3 : Int) (h4 : Int) : V232_0 := iW s234_0 n234_0 (h0, h1, h2, h3, h4, ())
def F234_0 (v : V232_0) : Ways (Ex × St) := waysOf s234_0 (n234_0 v) v (bldSt ss234_0 gs116_0) [.exit 0] 0
theorem l234_0 : LoopOk Tryz.prog (loopAt (pb 4 11) (bodyOf Tryz.f234)) ss234_0 gs116_0 F234_0 := loopOk_iter (lt := .none) E234.ok orders (LtOk.no _) fun n v K => Eq.trans (b := t234_0 v (kont _ _ _ _ _ K)) (by kernel_rfl) (show t234_0 v _ = (t234_0 v some).bind _ from (bC (bC (bC (bC rfl rfl) rfl) rfl) rfl))
def E234l := E234.l (g := 234) (t := (ltPut (pb 4 11) (bodyOf Tryz.f234) .none (.sum ss234_0 gs116_0 F234_0))) (ltOk_of Tryz.func234 (LtOk.put (wf_of (by kernel_rfl)) (LtOk.no _) l234_0))
def u234 (a0 : Int) (a1 : Int) : Option (AV × Sig) := cond (k234_0 a0 a1 0 0 0 0) (cond (decide ((w234_0 a0 a1 0 0 0).2.1 > (64 : Int))) (cond ((v148 (w234_0 a0 a1 0 0 0).1 2) == (1 : Int)) (some (.one (.int .i64 (v148 (w234_0 a0 a1 0 0 0).2.1 2147483647)), [])) (some (.one (.int .i64 (w234_0 a0 a1 0 0 0).2.2.2.1), []))) (some (.one (.int .i64 (w234_0 a0 a1 0 0 0).2.2.2.1), []))) (none)
def v234 (a0 : Int) (a1 : Int) : Int := cond (k234_0 a0 a1 0 0 0 0) (cond (decide ((w234_0 a0 a1 0 0 0).2.1 > (64 : Int))) (cond ((v148 (w234_0 a0 a1 0 0 0).1 2) == (1 : Int)) ((v148 (w234_0 a0 a1 0 0 0).2.1 2147483647)) ((w234_0 a0 a1 0 0 0).2.2.2.1)) ((w234_0 a0 a1 0 0 0).2.2.2.1)) (0)
def d234 (a0 : Int) (a1 : Int) : Bool := cond (k234_0 a0 a1 0 0 0 0) (cond (decide ((w234_0 a0 a1 0 0 0).2.1 > (64 : Int))) (cond ((v148 (w234_0 a0 a1 0 0 0).1 2) == (1 : Int)) (true) (true)) (true)) (false)
theorem o234 (a0 : Int) (a1 : Int) : u234 a0 a1 = cond (d234 a0 a1) (some (f234 (v234 a0 a1))) none := (pC (pC (pC (pS _) (pS _)) (pS _)) (pN _))
def p234 : Prim := ⟨[oI, oI], fun v => .br (d234 v.1 v.2.1) (.done (f234 (v234 v.1 v.2.1))) .no⟩
theorem ok234 : PO 234 p234 := pK E234l fun v => Eq.trans (b := u234 v.1 v.2.1) (by kernel_rfl) (o234 v.1 v.2.1)
def f146 (r : Int) : AV × Sig := (.one (.int .i64 r), [])
def E146 := ((E0.p ok234).p ok69)
def u146 (a0 : List (Ty.T y108)) : Option (AV × Sig) := cond (d69 a0) (cond (d234 3 (v69 a0)) (some (.one (.int .i64 (v234 3 (v69 a0))), [])) (none)) (none)
def v146 (a0 : List (Ty.T y108)) : Int := cond (d69 a0) (cond (d234 3 (v69 a0)) ((v234 3 (v69 a0))) (0)) (0)
def d146 (a0 : List (Ty.T y108)) : Bool := cond (d69 a0) (cond (d234 3 (v69 a0)) (true) (false)) (false)
theorem o146 (a0 : List (Ty.T y108)) : u146 a0 = cond (d146 a0) (some (f146 (v146 a0))) none := (pC (pC (pS _) (pN _)) (pN _))
def p146 : Prim := ⟨[.one (.dat (.sl 109 y108) true)], fun v => .br (d146 v.1) (.done (f146 (v146 v.1))) .no⟩
theorem ok146 : PO 146 p146 := pK E146 fun v => Eq.trans (b := u146 v.1) (by kernel_rfl) (o146 v.1)
def f147 (r : Int) : AV × Sig := (.one (.int .i64 r), [])
def E147 := ((E0.p ok235).p ok69)
def u147 (a0 : List (Ty.T y108)) : Option (AV × Sig) := cond (d69 a0) (cond (d235 3 (v69 a0)) (some (.one (.int .i64 (v235 3 (v69 a0))), [])) (none)) (none)
def v147 (a0 : List (Ty.T y108)) : Int := cond (d69 a0) (cond (d235 3 (v69 a0)) ((v235 3 (v69 a0))) (0)) (0)
def d147 (a0 : List (Ty.T y108)) : Bool := cond (d69 a0) (cond (d235 3 (v69 a0)) (true) (false)) (false)
theorem o147 (a0 : List (Ty.T y108)) : u147 a0 = cond (d147 a0) (some (f147 (v147 a0))) none := (pC (pC (pS _) (pN _)) (pN _))
def p147 : Prim := ⟨[.one (.dat (.sl 109 y108) true)], fun v => .br (d147 v.1) (.done (f147 (v147 v.1))) .no⟩
theorem ok147 : PO 147 p147 := pK E147 fun v => Eq.trans (b := u147 v.1) (by kernel_rfl) (o147 v.1)
def f47 (r : Bool) : AV × Sig := (.one (.bool r), [])
def E47 := ((((E0.p ok146).p ok147).p ok66).p ok69)
def u47 (a0 : List (Ty.T y108)) (a1 : Ty.T y56) : Option (AV × Sig) := cond (d146 a0) (cond (decide (((a1.2.2.2).length : Int) <= (v146 a0))) (cond (d147 a0) (cond (decide (((a1.1).length : Int) <= (v147 a0))) (cond (d66 a1) (cond (d69 a0) (some (.one (.bool (decide ((v66 a1) <= (v69 a0)))), [])) (none)) (none)) (some (.one (.bool false), []))) (none)) (some (.one (.bool false), []))) (none)
def v47 (a0 : List (Ty.T y108)) (a1 : Ty.T y56) : Bool := cond (d146 a0) (cond (decide (((a1.2.2.2).length : Int) <= (v146 a0))) (cond (d147 a0) (cond (decide (((a1.1).length : Int) <= (v147 a0))) (cond (d66 a1) (cond (d69 a0) (decide ((v66 a1) <= (v69 a0))) (false)) (false)) (false)) (false)) (false)) (false)
def d47 (a0 : List (Ty.T y108)) (a1 : Ty.T y56) : Bool := cond (d146 a0) (cond (decide (((a1.2.2.2).length : Int) <= (v146 a0))) (cond (d147 a0) (cond (decide (((a1.1).length : Int) <= (v147 a0))) (cond (d66 a1) (cond (d69 a0) (true) (false)) (false)) (true)) (false)) (true)) (false)
theorem o47 (a0 : List (Ty.T y108)) (a1 : Ty.T y56) : u47 a0 a1 = cond (d47 a0 a1) (some (f47 (v47 a0 a1))) none := (pC (pC (pC (pC (pC (pC (pS _) (pN _)) (pN _)) (pS _)) (pN _)) (pS _)) (pN _))
def p47 : Prim := ⟨[.one (.dat (.sl 109 y108) true), .agg [.dat y56 true]], fun v => .br (d47 v.1 v.2.1) (.done (f47 (v47 v.1 v.2.1))) .no⟩
theorem ok47 : PO 47 p47 := pK E47 fun v => Eq.trans (b := u47 v.1 v.2.1) (by kernel_rfl) (o47 v.1 v.2.1)
def f48 (r : Int) : AV × Sig := (.one (.int .i64 r), [])
def E48 := (E0.p ok148)
def u48 (a0 : List (Ty.T (.int .i64))) (a1 : Ty.T y56) : Option (AV × Sig) := some (.one (.int .i64 (v148 (IntKind.wrap .i64 (((a0).length : Int) - ((a1.2.2.1).length : Int))) 2147483647)), [])
def v48 (a0 : List (Ty.T (.int .i64))) (a1 : Ty.T y56) : Int := (v148 (IntKind.wrap .i64 (((a0).length : Int) - ((a1.2.2.1).length : Int))) 2147483647)
theorem o48 (a0 : List (Ty.T (.int .i64))) (a1 : Ty.T y56) : u48 a0 a1 = some (f48 (v48 a0 a1)) := rfl
def p48 : Prim := ⟨[.one (.dat (.sl 3 (.int .i64)) true), .agg [.dat y56 true]], fun v => .done (f48 (v48 v.1 v.2.1))⟩
theorem ok48 : PO 48 p48 := pK E48 fun v => Eq.trans (b := u48 v.1 v.2.1) (by kernel_rfl) (o48 v.1 v.2.1)
def f58 (r : (List (Ty.T (.int .i64)))) : AV × Sig := (.one (.sl 4096), [(4096, .arr 3 (.int .i64) r false)])
def E58 := E0
@[reducible] def ss58_0 : List SP := U2 (.one (.dat (.sl 3 (.int .i64)) false) :: .one (.own 6) :: U2 (.und :: .one (.dat (.sl 67 y66) true) :: oI :: oI :: U8 (U4 (.und :: []))))
@[reducible] def V58_0 : Type := (List (Ty.T (.int .i64))) × (List (Ty.T y66)) × Int × Int × (List (Ty.T (.int .i64))) × Unit
def t58_0 (v : V58_0) {Z : Type} (κ : Nat × V58_0 -> Option Z) : Option Z := cond (decide (v.2.2.2.1 < v.2.2.1)) (if 0 <= v.2.2.2.1 then (optC ((v.2.1)[(v.2.2.2.1).toNat]?) (fun x1 => cond (decide (x1.2.2.2.1 ≥ (2 : Int))) (if (v.2.2.2.2.1 ++ [x1.2.2.1] : List (Ty.T (.int .i64))).length * 8 <= 140737488351232 then (κ (0, (v.1, v.2.1, v.2.2.1, IntKind.wrap .i64 (v.2.2.2.1 + (1 : Int)), v.2.2.2.2.1 ++ [x1.2.2.1], ()))) else none) (κ (0, (v.1, v.2.1, v.2.2.1, IntKind.wrap .i64 (v.2.2.2.1 + (1 : Int)), v.2.2.2.2.1, ()))))) else none) (κ (1, (v.1, v.2.1, v.2.2.1, v.2.2.2.1, v.2.2.2.2.1, ())))
def s58_0 (v : V58_0) : Option (Nat × V58_0) := t58_0 v some
def n58_0 (v : V58_0) : Nat := v.1.length + v.2.1.length + v.2.2.1.toNat + v.2.2.2.1.toNat + v.2.2.2.2.1.length + 100
def k58_0 (h0 : List (Ty.T (.int .i64))) (h1 : List (Ty.T y66)) (h2 : Int) (h3 : Int) (h4 : List (Ty.T (.int .i64))) (c : Nat) : Bool := iK s58_0 n58_0 (h0, h1, h2, h3, h4, ()) c
def w58_0 (h0 : List (Ty.T (.int .i64))) (h1 : List (Ty.T y66)) (h2 : Int) (h3 : Int) (h4 : List (Ty.T (.int .i64))) : V58_0 := iW s58_0 n58_0 (h0, h1, h2, h3, h4, ())
def F58_0 (v : V58_0) : Ways (Ex × St) := waysOf s58_0 (n58_0 v) v (bldSt ss58_0 gs301_2) [.exit 0] 0
theorem l58_0 : LoopOk Tryz.prog (loopAt (pb 4 11) (bodyOf Tryz.f58)) ss58_0 gs301_2 F58_0 := loopOk_iter (lt := .none) E58.ok orders (LtOk.no _) fun n v K => Eq.trans (b := t58_0 v (kont _ _ _ _ _ K)) (by kernel_rfl) (show t58_0 v _ = (t58_0 v some).bind _ from (bC (bI (bO fun x1 => (bC (bI rfl) rfl))) rfl))
def E58l := E58.l (g := 58) (t := (ltPut (pb 4 11) (bodyOf Tryz.f58) .none (.sum ss58_0 gs301_2 F58_0))) (ltOk_of Tryz.func58 (LtOk.put (wf_of (by kernel_rfl)) (LtOk.no _) l58_0))
def u58 (a0 : List (Ty.T y66)) : Option (AV × Sig) := cond (k58_0 [] a0 ((a0).length : Int) 0 [] 0) (some (.one (.sl 4096), [(4096, .arr 3 (.int .i64) (w58_0 [] a0 ((a0).length : Int) 0 []).2.2.2.2.1 false)])) (none)
def v58 (a0 : List (Ty.T y66)) : (List (Ty.T (.int .i64))) := cond (k58_0 [] a0 ((a0).length : Int) 0 [] 0) ((w58_0 [] a0 ((a0).length : Int) 0 []).2.2.2.2.1) ([])
def d58 (a0 : List (Ty.T y66)) : Bool := cond (k58_0 [] a0 ((a0).length : Int) 0 [] 0) (true) (false)
theorem o58 (a0 : List (Ty.T y66)) : u58 a0 = cond (d58 a0) (some (f58 (v58 a0))) none := (pC (pS _) (pN _))
def p58 : Prim := ⟨[.one (.dat (.sl 67 y66) true)], fun v => .br (d58 v.1) (.done (f58 (v58 v.1))) .no⟩
theorem ok58 : PO 58 p58 := pK E58l fun v => Eq.trans (b := u58 v.1) (by kernel_rfl) (o58 v.1)
def f49 (r : Int) : AV × Sig := (.one (.int .i64 r), [])
def E49 := (E0.p ok58)
def u49 (a0 : Ty.T y56) : Option (AV × Sig) := cond (d58 a0.2.2.2) (some (.one (.int .i64 (((v58 a0.2.2.2)).length : Int)), [])) (none)
def v49 (a0 : Ty.T y56) : Int := cond (d58 a0.2.2.2) ((((v58 a0.2.2.2)).length : Int)) (0)
def d49 (a0 : Ty.T y56) : Bool := cond (d58 a0.2.2.2) (true) (false)
theorem o49 (a0 : Ty.T y56) : u49 a0 = cond (d49 a0) (some (f49 (v49 a0))) none := (pC (pS _) (pN _))
def p49 : Prim := ⟨[.agg [.dat y56 true]], fun v => .br (d49 v.1) (.done (f49 (v49 v.1))) .no⟩
theorem ok49 : PO 49 p49 := pK E49 fun v => Eq.trans (b := u49 v.1) (by kernel_rfl) (o49 v.1)
def f6 (r : Bool) : AV × Sig := (.one (.bool r), [])
def E6 := ((((((((((E0.p ok28).p ok41).p ok42).p ok43).p ok44).p ok45).p ok46).p ok47).p ok48).p ok49)
def u6 (a0 : List (Ty.T (.int .u8))) : Option (AV × Sig) := cond (v28 a0) (some (.one (.bool true), [])) (cond (d41 a0) (cond (d42 (v41 a0).1 (v41 a0).2.1 (v41 a0).2.2.1 (v41 a0).2.2.2) (cond (d43 a0) (cond (d44 a0) (cond (d46 (v43 a0).1 (v43 a0).2) (cond (d47 (v43 a0).1 (v43 a0).2) (cond ((v46 (v43 a0).1 (v43 a0).2) == (v47 (v43 a0).1 (v43 a0).2)) (cond ((v45 (v44 a0).1 (v44 a0).2) == (v48 (v44 a0).1 (v44 a0).2)) (cond (d46 (v41 a0).2.1 (v42 (v41 a0).1 (v41 a0).2.1 (v41 a0).2.2.1 (v41 a0).2.2.2)) (cond (v46 (v41 a0).2.1 (v42 (v41 a0).1 (v41 a0).2.1 (v41 a0).2.2.1 (v41 a0).2.2.2)) (cond (d49 (v42 (v41 a0).1 (v41 a0).2.1 (v41 a0).2.2.1 (v41 a0).2.2.2)) (cond (decide ((v45 (v41 a0).2.2.2 (v42 (v41 a0).1 (v41 a0).2.1 (v41 a0).2.2.1 (v41 a0).2.2.2)) <= (v49 (v42 (v41 a0).1 (v41 a0).2.1 (v41 a0).2.2.1 (v41 a0).2.2.2)))) (cond (decide ((v45 (v41 a0).2.2.2 (v42 (v41 a0).1 (v41 a0).2.1 (v41 a0).2.2.1 (v41 a0).2.2.2)) <= (((v42 (v41 a0).1 (v41 a0).2.1 (v41 a0).2.2.1 (v41 a0).2.2.2).2.2.2).length : Int))) (some (.one (.bool ((IntKind.wrap .i64 ((v45 (v41 a0).2.2.2 (v42 (v41 a0).1 (v41 a0).2.1 (v41 a0).2.2.1 (v41 a0).2.2.2)) + (((v42 (v41 a0).1 (v41 a0).2.1 (v41 a0).2.2.1 (v41 a0).2.2.2).2.2.1).length : Int))) == (((v41 a0).2.2.2).length : Int))), [])) (some (.one (.bool false), []))) (some (.one (.bool false), []))) (none)) (some (.one (.bool false), []))) (none)) (some (.one (.bool false), []))) (some (.one (.bool false), []))) (none)) (none)) (none)) (none)) (none)) (none))
def v6 (a0 : List (Ty.T (.int .u8))) : Bool := cond (v28 a0) (true) (cond (d41 a0) (cond (d42 (v41 a0).1 (v41 a0).2.1 (v41 a0).2.2.1 (v41 a0).2.2.2) (cond (d43 a0) (cond (d44 a0) (cond (d46 (v43 a0).1 (v43 a0).2) (cond (d47 (v43 a0).1 (v43 a0).2) (cond ((v46 (v43 a0).1 (v43 a0).2) == (v47 (v43 a0).1 (v43 a0).2)) (cond ((v45 (v44 a0).1 (v44 a0).2) == (v48 (v44 a0).1 (v44 a0).2)) (cond (d46 (v41 a0).2.1 (v42 (v41 a0).1 (v41 a0).2.1 (v41 a0).2.2.1 (v41 a0).2.2.2)) (cond (v46 (v41 a0).2.1 (v42 (v41 a0).1 (v41 a0).2.1 (v41 a0).2.2.1 (v41 a0).2.2.2)) (cond (d49 (v42 (v41 a0).1 (v41 a0).2.1 (v41 a0).2.2.1 (v41 a0).2.2.2)) (cond (decide ((v45 (v41 a0).2.2.2 (v42 (v41 a0).1 (v41 a0).2.1 (v41 a0).2.2.1 (v41 a0).2.2.2)) <= (v49 (v42 (v41 a0).1 (v41 a0).2.1 (v41 a0).2.2.1 (v41 a0).2.2.2)))) (cond (decide ((v45 (v41 a0).2.2.2 (v42 (v41 a0).1 (v41 a0).2.1 (v41 a0).2.2.1 (v41 a0).2.2.2)) <= (((v42 (v41 a0).1 (v41 a0).2.1 (v41 a0).2.2.1 (v41 a0).2.2.2).2.2.2).length : Int))) (((IntKind.wrap .i64 ((v45 (v41 a0).2.2.2 (v42 (v41 a0).1 (v41 a0).2.1 (v41 a0).2.2.1 (v41 a0).2.2.2)) + (((v42 (v41 a0).1 (v41 a0).2.1 (v41 a0).2.2.1 (v41 a0).2.2.2).2.2.1).length : Int))) == (((v41 a0).2.2.2).length : Int))) (false)) (false)) (false)) (false)) (false)) (false)) (false)) (false)) (false)) (false)) (false)) (false)) (false))
def d6 (a0 : List (Ty.T (.int .u8))) : Bool := cond (v28 a0) (true) (cond (d41 a0) (cond (d42 (v41 a0).1 (v41 a0).2.1 (v41 a0).2.2.1 (v41 a0).2.2.2) (cond (d43 a0) (cond (d44 a0) (cond (d46 (v43 a0).1 (v43 a0).2) (cond (d47 (v43 a0).1 (v43 a0).2) (cond ((v46 (v43 a0).1 (v43 a0).2) == (v47 (v43 a0).1 (v43 a0).2)) (cond ((v45 (v44 a0).1 (v44 a0).2) == (v48 (v44 a0).1 (v44 a0).2)) (cond (d46 (v41 a0).2.1 (v42 (v41 a0).1 (v41 a0).2.1 (v41 a0).2.2.1 (v41 a0).2.2.2)) (cond (v46 (v41 a0).2.1 (v42 (v41 a0).1 (v41 a0).2.1 (v41 a0).2.2.1 (v41 a0).2.2.2)) (cond (d49 (v42 (v41 a0).1 (v41 a0).2.1 (v41 a0).2.2.1 (v41 a0).2.2.2)) (cond (decide ((v45 (v41 a0).2.2.2 (v42 (v41 a0).1 (v41 a0).2.1 (v41 a0).2.2.1 (v41 a0).2.2.2)) <= (v49 (v42 (v41 a0).1 (v41 a0).2.1 (v41 a0).2.2.1 (v41 a0).2.2.2)))) (cond (decide ((v45 (v41 a0).2.2.2 (v42 (v41 a0).1 (v41 a0).2.1 (v41 a0).2.2.1 (v41 a0).2.2.2)) <= (((v42 (v41 a0).1 (v41 a0).2.1 (v41 a0).2.2.1 (v41 a0).2.2.2).2.2.2).length : Int))) (true) (true)) (true)) (false)) (true)) (false)) (true)) (true)) (false)) (false)) (false)) (false)) (false)) (false))
theorem o6 (a0 : List (Ty.T (.int .u8))) : u6 a0 = cond (d6 a0) (some (f6 (v6 a0))) none := (pC (pS _) (pC (pC (pC (pC (pC (pC (pC (pC (pC (pC (pC (pC (pC (pS _) (pS _)) (pS _)) (pN _)) (pS _)) (pN _)) (pS _)) (pS _)) (pN _)) (pN _)) (pN _)) (pN _)) (pN _)) (pN _)))
def p6 : Prim := ⟨[.one (.dat (.sl 5 (.int .u8)) true)], fun v => .br (d6 v.1) (.done (f6 (v6 v.1))) .no⟩
theorem ok6 : PO 6 p6 := pK E6 fun v => Eq.trans (b := u6 v.1) (by kernel_rfl) (o6 v.1)
end
end Go.Proofs.YtahlaccdpmddbaaGreat.Vm
