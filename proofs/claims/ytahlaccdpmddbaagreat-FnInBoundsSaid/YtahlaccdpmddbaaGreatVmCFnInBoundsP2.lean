/- Contracts. No condition. -/
import Derived.Test.YtahlaccdpmddbaaGreatVmCFnInBoundsP1
import Derived.Test.YtahlaccdpmddbaaGreatVmLibThree
namespace Go.Proofs.YtahlaccdpmddbaaGreat.Vm
open Go Go.Proofs.YtahlaccdpmddbaaGreat.Lib
noncomputable section
set_option maxRecDepth 100000
set_option linter.unusedVariables false
def f134 (r : (List (Ty.T y108))) : AV × Sig := (.one (.sl 4096), [(4096, .arr 109 y108 r false)])
def E134 := (E0.p ok226)
@[reducible] def ss134_0 : List SP := U2 (.one (.dat (.sl 109 y108) false) :: .one (.own 6) :: U2 (.und :: .one (.dat (.sl 109 y108) true) :: oI :: oI :: U8 (U2 ([]))))
@[reducible] def gs134_0 : List (Nat × GP) := [(6, .arr 109 y108 false)]
@[reducible] def V134_0 : Type := (List (Ty.T y108)) × (List (Ty.T y108)) × Int × Int × (List (Ty.T y108)) × Unit
def t134_0 (v : V134_0) {Z : Type} (κ : Nat × V134_0 -> Option Z) : Option Z := cond (decide (v.2.2.2.1 < v.2.2.1)) (if 0 <= v.2.2.2.1 then (optC ((v.2.1)[(v.2.2.2.1).toNat]?) (fun x1 => cond (d226 x1) (if (v.2.2.2.2.1 ++ [((v226 x1).1.1, (v226 x1).1.2.1, (v226 x1).1.2.2.1, (v226 x1).1.2.2.2.1, (v226 x1).1.2.2.2.2.1, (v226 x1).1.2.2.2.2.2.1, ((v226 x1).1.2.2.2.2.2.2.1, (v226 x1).1.2.2.2.2.2.2.2.1, (v226 x1).1.2.2.2.2.2.2.2.2.1, (v226 x1).1.2.2.2.2.2.2.2.2.2.1, (v226 x1).1.2.2.2.2.2.2.2.2.2.2.1, (v226 x1).1.2.2.2.2.2.2.2.2.2.2.2, (v226 x1).2.2), (v226 x1).2.1)] : List (Ty.T y108)).length * 192 <= 140737488351232 then (κ (0, (v.1, v.2.1, v.2.2.1, IntKind.wrap .i64 (v.2.2.2.1 + (1 : Int)), v.2.2.2.2.1 ++ [((v226 x1).1.1, (v226 x1).1.2.1, (v226 x1).1.2.2.1, (v226 x1).1.2.2.2.1, (v226 x1).1.2.2.2.2.1, (v226 x1).1.2.2.2.2.2.1, ((v226 x1).1.2.2.2.2.2.2.1, (v226 x1).1.2.2.2.2.2.2.2.1, (v226 x1).1.2.2.2.2.2.2.2.2.1, (v226 x1).1.2.2.2.2.2.2.2.2.2.1, (v226 x1).1.2.2.2.2.2.2.2.2.2.2.1, (v226 x1).1.2.2.2.2.2.2.2.2.2.2.2, (v226 x1).2.2), (v226 x1).2.1)], ()))) else none) (none))) else none) (κ (1, (v.1, v.2.1, v.2.2.1, v.2.2.2.1, v.2.2.2.2.1, ())))
def s134_0 (v : V134_0) : Option (Nat × V134_0) := t134_0 v some
def n134_0 (v : V134_0) : Nat := v.1.length + v.2.1.length + v.2.2.1.toNat + v.2.2.2.1.toNat + v.2.2.2.2.1.length + 100
def k134_0 (h0 : List (Ty.T y108)) (h1 : List (Ty.T y108)) (h2 : Int) (h3 : Int) (h4 : List (Ty.T y108)) (c : Nat) : Bool := iK s134_0 n134_0 (h0, h1, h2, h3, h4, ()) c
def w134_0 (h0 : List (Ty.T y108)) (h1 : List (Ty.T y108)) (h2 : Int) (h3 : Int) (h4 : List (Ty.T y108)) : V134_0 := iW s134_0 n134_0 (h0, h1, h2, h3, h4, ())
def F134_0 (v : V134_0) : Ways (Ex × St) := waysOf s134_0 (n134_0 v) v (bldSt ss134_0 gs134_0) [.exit 0] 0
theorem l134_0 : LoopOk Tryz.prog (loopAt (pb 4 11) (bodyOf Tryz.f134)) ss134_0 gs134_0 F134_0 := loopOk_iter (lt := .none) E134.ok orders (LtOk.no _) fun n v K => Eq.trans (b := t134_0 v (kont _ _ _ _ _ K)) (by kernel_rfl) (show t134_0 v _ = (t134_0 v some).bind _ from (bC (bI (bO fun x1 => (bC (bI rfl) rfl))) rfl))
def E134l := E134.l (g := 134) (t := (ltPut (pb 4 11) (bodyOf Tryz.f134) .none (.sum ss134_0 gs134_0 F134_0))) (ltOk_of Tryz.func134 (LtOk.put (wf_of (by kernel_rfl)) (LtOk.no _) l134_0))
def u134 (a0 : List (Ty.T y108)) : Option (AV × Sig) := cond (k134_0 [] a0 ((a0).length : Int) 0 [] 0) (some (.one (.sl 4096), [(4096, .arr 109 y108 (w134_0 [] a0 ((a0).length : Int) 0 []).2.2.2.2.1 false)])) (none)
def v134 (a0 : List (Ty.T y108)) : (List (Ty.T y108)) := cond (k134_0 [] a0 ((a0).length : Int) 0 [] 0) ((w134_0 [] a0 ((a0).length : Int) 0 []).2.2.2.2.1) ([])
def d134 (a0 : List (Ty.T y108)) : Bool := cond (k134_0 [] a0 ((a0).length : Int) 0 [] 0) (true) (false)
theorem o134 (a0 : List (Ty.T y108)) : u134 a0 = cond (d134 a0) (some (f134 (v134 a0))) none := (pC (pS _) (pN _))
def p134 : Prim := ⟨[.one (.dat (.sl 109 y108) true)], fun v => .br (d134 v.1) (.done (f134 (v134 v.1))) .no⟩
theorem ok134 : PO 134 p134 := pK E134l fun v => Eq.trans (b := u134 v.1) (by kernel_rfl) (o134 v.1)
def f135 (r : List (Ty.T (.int .i64))) : AV × Sig := (.one (.sl 4096), [(4096, .arr 3 (.int .i64) r false)])
def v135 (a0 : List (Ty.T (.int .i64))) : List (Ty.T (.int .i64)) := a0
def d135 (a0 : List (Ty.T (.int .i64))) : Bool := decide (List.length a0 * 8 <= 140737488351232)
def p135 : Prim := ⟨[.one (.dat (.sl 3 (.int .i64)) true)], fun v => .br (d135 v.1) (.done (f135 (v135 v.1))) .no⟩
theorem ok135 : PO 135 p135 := cloneOk (t := 50) (tb := 4) (e := 3) hEt Tryz.func135 (by kernel_rfl) (by kernel_rfl) (by kernel_rfl) (by kernel_rfl) rfl rfl (by decide) (by kernel_rfl)
def f320 (r : Bool) : AV × Sig := (.one (.bool r), [])
def E320 := (E0.p ok165)
def u320 (a0 : Int) : Option (AV × Sig) := some (.one (.bool (v165 a0 1 6)), [])
def v320 (a0 : Int) : Bool := (v165 a0 1 6)
theorem o320 (a0 : Int) : u320 a0 = some (f320 (v320 a0)) := rfl
def p320 : Prim := ⟨[oI], fun v => .done (f320 (v320 v.1))⟩
theorem ok320 : PO 320 p320 := pK E320 fun v => Eq.trans (b := u320 v.1) (by kernel_rfl) (o320 v.1)
def f283 (r : Bool) : AV × Sig := (.one (.bool r), [])
def E283 := ((((E0.p ok159).p ok165).p ok250).p ok320)
def t283 (a0 : Ty.T y102) {Z : Type} (κ : Bool -> Z) : Z := cond (!(v320 a0.1)) (κ false) (cond (!(v165 a0.2.1 0 2)) (κ false) (cond (!(v165 a0.2.2.1 0 99)) (κ false) (cond (!(v250 a0.2.2.2.1)) (κ false) (cond (!(v165 a0.2.2.2.2.1 0 99)) (κ false) (cond (!(v159 a0.2.2.2.2.2.1)) (κ false) (cond (!(v165 a0.2.2.2.2.2.2 0 4)) (κ false) (cond (a0.1 != (1 : Int)) (cond (a0.2.2.1 != (0 : Int)) (κ false) (cond (a0.2.2.2.1 != (0 : Int)) (κ false) (cond (a0.1 != (2 : Int)) (cond (a0.2.2.2.2.2.2 != (0 : Int)) (κ false) (cond (a0.2.2.2.2.1 == (0 : Int)) (κ true) (cond (a0.1 != (3 : Int)) (κ (a0.1 != (4 : Int))) (κ false)))) (cond (a0.2.2.2.2.1 == (0 : Int)) (κ true) (cond (a0.1 != (3 : Int)) (κ (a0.1 != (4 : Int))) (κ false)))))) (cond (a0.1 != (2 : Int)) (cond (a0.2.2.2.2.2.2 != (0 : Int)) (κ false) (cond (a0.2.2.2.2.1 == (0 : Int)) (κ true) (cond (a0.1 != (3 : Int)) (κ (a0.1 != (4 : Int))) (κ false)))) (cond (a0.2.2.2.2.1 == (0 : Int)) (κ true) (cond (a0.1 != (3 : Int)) (κ (a0.1 != (4 : Int))) (κ false)))))))))))
def v283 (a0 : Ty.T y102) : Bool := t283 a0 fun r => r
def p283 : Prim := ⟨[.agg [.dat y102 true]], fun v => .done (f283 (v283 v.1))⟩
theorem ok283 : PO 283 p283 := pK E283 fun v => Eq.trans (b := (t283 v.1 (sm f283))) (by kernel_rfl) (show t283 v.1 (sm f283) = some (f283 (t283 v.1 fun r => r)) from (tC rfl (tC rfl (tC rfl (tC rfl (tC rfl (tC rfl (tC rfl (tC (tC rfl (tC rfl (tC (tC rfl (tC rfl (tC rfl rfl))) (tC rfl (tC rfl rfl))))) (tC (tC rfl (tC rfl (tC rfl rfl))) (tC rfl (tC rfl rfl))))))))))))
def f284 (r : Bool) : AV × Sig := (.one (.bool r), [])
def E284 := ((E0.p ok165).p ok173)
def t284 (a0 : Ty.T y104) {Z : Type} (κ : Bool -> Z) : Z := cond (a0.1 == (0 : Int)) (cond (a0.1 == (0 : Int)) (κ (a0.2 == (0 : Int))) (cond (a0.1 == (1 : Int)) (κ ((v173 a0.2) == a0.2)) (cond (a0.1 == (2 : Int)) (cond (a0.1 == (2 : Int)) (κ (v165 a0.2 0 8)) (κ false)) (cond (a0.1 == (4 : Int)) (κ (v165 a0.2 0 8)) (κ false))))) (cond (a0.1 == (3 : Int)) (κ (a0.2 == (0 : Int))) (cond (a0.1 == (1 : Int)) (κ ((v173 a0.2) == a0.2)) (cond (a0.1 == (2 : Int)) (cond (a0.1 == (2 : Int)) (κ (v165 a0.2 0 8)) (κ false)) (cond (a0.1 == (4 : Int)) (κ (v165 a0.2 0 8)) (κ false)))))
def v284 (a0 : Ty.T y104) : Bool := t284 a0 fun r => r
def p284 : Prim := ⟨[.agg [.dat y104 true]], fun v => .done (f284 (v284 v.1))⟩
theorem ok284 : PO 284 p284 := pK E284 fun v => Eq.trans (b := (t284 v.1 (sm f284))) (by kernel_rfl) (show t284 v.1 (sm f284) = some (f284 (t284 v.1 fun r => r)) from (tC (tC rfl (tC rfl (tC (tC rfl rfl) (tC rfl rfl)))) (tC rfl (tC rfl (tC (tC rfl rfl) (tC rfl rfl))))))
def f322 (r : Bool) : AV × Sig := (.one (.bool r), [])
def E322 := (E0.p ok53)
def u322 (a0 : Ty.T y27) : Option (AV × Sig) := cond (v53 a0) (some (.one (.bool true), [])) (cond (a0.1 != (2 : Int)) (cond (a0.2.2.2.2.1 == (-1 : Int)) (some (.one (.bool (v53 (a0.1, a0.2.1, a0.2.2.1, a0.2.2.2.1, 0, a0.2.2.2.2.2))), [])) (some (.one (.bool false), []))) (some (.one (.bool false), [])))
def v322 (a0 : Ty.T y27) : Bool := cond (v53 a0) (true) (cond (a0.1 != (2 : Int)) (cond (a0.2.2.2.2.1 == (-1 : Int)) ((v53 (a0.1, a0.2.1, a0.2.2.1, a0.2.2.2.1, 0, a0.2.2.2.2.2))) (false)) (false))
theorem o322 (a0 : Ty.T y27) : u322 a0 = some (f322 (v322 a0)) := (tC rfl (tC (tC rfl rfl) rfl))
def p322 : Prim := ⟨[.agg [.dat y27 true]], fun v => .done (f322 (v322 v.1))⟩
theorem ok322 : PO 322 p322 := pK E322 fun v => Eq.trans (b := u322 v.1) (by kernel_rfl) (o322 v.1)
def f321 (r : Bool) : AV × Sig := (.one (.bool r), [])
def E321 := (E0.p ok322)
def u321 (a0 : Ty.T y27) : Option (AV × Sig) := some (.one (.bool (!(v322 a0))), [])
def v321 (a0 : Ty.T y27) : Bool := !(v322 a0)
theorem o321 (a0 : Ty.T y27) : u321 a0 = some (f321 (v321 a0)) := rfl
def p321 : Prim := ⟨[.agg [.dat y27 true]], fun v => .done (f321 (v321 v.1))⟩
theorem ok321 : PO 321 p321 := pK E321 fun v => Eq.trans (b := u321 v.1) (by kernel_rfl) (o321 v.1)
def f249c1 (r : Int) : AV × Sig := (.one (.int .i64 r), [])
def E249c1 := (E0.p ok321)
@[reducible] def ss249c1_0 : List SP := .one (.dat (.sl 41 y27) true) :: .one (.fnc 321 []) :: U2 (oI :: U2 (oI :: oI :: U8 (U2 ([]))))
@[reducible] def V249c1_0 : Type := (List (Ty.T y27)) × Int × Int × Int × Unit
def t249c1_0 (v : V249c1_0) {Z : Type} (κ : Nat × V249c1_0 -> Option Z) : Option Z := cond (decide (v.2.2.2.1 < v.2.2.1)) (if 0 <= v.2.2.2.1 then (optC ((v.1)[(v.2.2.2.1).toNat]?) (fun x1 => cond (v321 x1) (κ (1, (v.1, v.2.2.2.1, v.2.2.1, v.2.2.2.1, ()))) (κ (0, (v.1, v.2.1, v.2.2.1, IntKind.wrap .i64 (v.2.2.2.1 + (1 : Int)), ()))))) else none) (κ (2, (v.1, v.2.1, v.2.2.1, v.2.2.2.1, ())))
def s249c1_0 (v : V249c1_0) : Option (Nat × V249c1_0) := t249c1_0 v some
def n249c1_0 (v : V249c1_0) : Nat := v.1.length + v.2.1.toNat + v.2.2.1.toNat + v.2.2.2.1.toNat + 100
def k249c1_0 (h0 : List (Ty.T y27)) (h1 : Int) (h2 : Int) (h3 : Int) (c : Nat) : Bool := iK s249c1_0 n249c1_0 (h0, h1, h2, h3, ()) c
def w249c1_0 (h0 : List (Ty.T y27)) (h1 : Int) (h2 : Int) (h3 : Int) : V249c1_0 := iW s249c1_0 n249c1_0 (h0, h1, h2, h3, ())
def F249c1_0 (v : V249c1_0) : Ways (Ex × St) := waysOf s249c1_0 (n249c1_0 v) v (bldSt ss249c1_0 gs116_0) [.ret, .exit 0] 0
theorem l249c1_0 : LoopOk Tryz.prog (loopAt (pb 3 5) (bodyOf Tryz.f249)) ss249c1_0 gs116_0 F249c1_0 := loopOk_iter (lt := .none) E249c1.ok orders (LtOk.no _) fun n v K => Eq.trans (b := t249c1_0 v (kont _ _ _ _ _ K)) (by kernel_rfl) (show t249c1_0 v _ = (t249c1_0 v some).bind _ from (bC (bI (bO fun x1 => (bC rfl rfl))) rfl))
def E249c1l := E249c1.l (g := 249) (t := (ltPut (pb 3 5) (bodyOf Tryz.f249) .none (.sum ss249c1_0 gs116_0 F249c1_0))) (ltOk_of Tryz.func249 (LtOk.put (wf_of (by kernel_rfl)) (LtOk.no _) l249c1_0))
def u249c1 (a0 : List (Ty.T y27)) : Option (AV × Sig) := cond (k249c1_0 a0 0 ((a0).length : Int) 0 0) (some (.one (.int .i64 (w249c1_0 a0 0 ((a0).length : Int) 0).2.1), [])) (cond (k249c1_0 a0 0 ((a0).length : Int) 0 1) (some (.one (.int .i64 (-1)), [])) (none))
def v249c1 (a0 : List (Ty.T y27)) : Int := cond (k249c1_0 a0 0 ((a0).length : Int) 0 0) ((w249c1_0 a0 0 ((a0).length : Int) 0).2.1) (cond (k249c1_0 a0 0 ((a0).length : Int) 0 1) ((-1)) (0))
def d249c1 (a0 : List (Ty.T y27)) : Bool := cond (k249c1_0 a0 0 ((a0).length : Int) 0 0) (true) (cond (k249c1_0 a0 0 ((a0).length : Int) 0 1) (true) (false))
theorem o249c1 (a0 : List (Ty.T y27)) : u249c1 a0 = cond (d249c1 a0) (some (f249c1 (v249c1 a0))) none := (pC (pS _) (pC (pS _) (pN _)))
def p249c1 : Prim := ⟨[.one (.dat (.sl 41 y27) true), .one (.fnc 321 [])], fun v => .br (d249c1 v.1) (.done (f249c1 (v249c1 v.1))) .no⟩
theorem ok249c1 : PO 249 p249c1 := pK E249c1l fun v => Eq.trans (b := u249c1 v.1) (by kernel_rfl) (o249c1 v.1)
def f166c1 (r : Bool) : AV × Sig := (.one (.bool r), [])
def E166c1 := (E0.p ok249c1)
def u166c1 (a0 : List (Ty.T y27)) : Option (AV × Sig) := cond (d249c1 a0) (some (.one (.bool (decide ((v249c1 a0) ≥ (0 : Int)))), [])) (none)
def v166c1 (a0 : List (Ty.T y27)) : Bool := cond (d249c1 a0) (decide ((v249c1 a0) ≥ (0 : Int))) (false)
def d166c1 (a0 : List (Ty.T y27)) : Bool := cond (d249c1 a0) (true) (false)
theorem o166c1 (a0 : List (Ty.T y27)) : u166c1 a0 = cond (d166c1 a0) (some (f166c1 (v166c1 a0))) none := (pC (pS _) (pN _))
def p166c1 : Prim := ⟨[.one (.dat (.sl 41 y27) true), .one (.fnc 321 [])], fun v => .br (d166c1 v.1) (.done (f166c1 (v166c1 v.1))) .no⟩
theorem ok166c1 : PO 166 p166c1 := pK E166c1 fun v => Eq.trans (b := u166c1 v.1) (by kernel_rfl) (o166c1 v.1)
def f285 (r : Bool) : AV × Sig := (.one (.bool r), [])
def E285 := (((((E0.p ok166c1).p ok160).p ok163).p ok164).p ok165)
@[reducible] def ss285_0 : List SP := .und :: .one (.ptr 1 0) :: .one (.dat .bool true) :: U64 (U32 (U16 ([])))
@[reducible] def sx285_0 : List SP := .und :: .one (.ptr 1 0) :: .one (.dat .bool true) :: U32 (U16 (U8 (.und :: .one (.dat .bool true) :: U32 (U16 (U4 (U2 ([])))))))
def f285_0 (v : V299_1) (r : Bool) : Ex × St := (.normal, bldSt sx285_0 gs299_0 (v.1, r, v.2.1, ()))
def t285_0 (v : V299_1) {Z : Type} (κ : Bool -> Z) : Z := cond (v.2.1.1 != (3 : Int)) (cond (v.2.1.1 != (8 : Int)) (cond (v.2.1.2.1 != (0 : Int)) (κ true) (cond (v.2.1.1 != (6 : Int)) (cond (v.2.1.2.2.1 != (0 : Int)) (κ true) (cond (v.2.1.2.2.2.1 != (-1 : Int)) (κ true) (cond (v.2.1.1 != (7 : Int)) (cond (v.2.1.2.2.2.2.1 != (0 : Int)) (κ true) (cond (v.2.1.1 != (8 : Int)) (cond v.2.1.2.2.2.2.2.1 (κ true) (cond (v.2.1.1 != (9 : Int)) (κ (decide (((v.2.1.2.2.2.2.2.2).length : Int) > (0 : Int)))) (κ false))) (cond (v.2.1.1 != (9 : Int)) (κ (decide (((v.2.1.2.2.2.2.2.2).length : Int) > (0 : Int)))) (κ false)))) (cond (v.2.1.1 != (8 : Int)) (cond v.2.1.2.2.2.2.2.1 (κ true) (cond (v.2.1.1 != (9 : Int)) (κ (decide (((v.2.1.2.2.2.2.2.2).length : Int) > (0 : Int)))) (κ false))) (cond (v.2.1.1 != (9 : Int)) (κ (decide (((v.2.1.2.2.2.2.2.2).length : Int) > (0 : Int)))) (κ false)))))) (cond (v.2.1.1 != (7 : Int)) (cond (v.2.1.2.2.2.2.1 != (0 : Int)) (κ true) (cond (v.2.1.1 != (8 : Int)) (cond v.2.1.2.2.2.2.2.1 (κ true) (cond (v.2.1.1 != (9 : Int)) (κ (decide (((v.2.1.2.2.2.2.2.2).length : Int) > (0 : Int)))) (κ false))) (cond (v.2.1.1 != (9 : Int)) (κ (decide (((v.2.1.2.2.2.2.2.2).length : Int) > (0 : Int)))) (κ false)))) (cond (v.2.1.1 != (8 : Int)) (cond v.2.1.2.2.2.2.2.1 (κ true) (cond (v.2.1.1 != (9 : Int)) (κ (decide (((v.2.1.2.2.2.2.2.2).length : Int) > (0 : Int)))) (κ false))) (cond (v.2.1.1 != (9 : Int)) (κ (decide (((v.2.1.2.2.2.2.2.2).length : Int) > (0 : Int)))) (κ false)))))) (cond (v.2.1.1 != (6 : Int)) (cond (v.2.1.2.2.1 != (0 : Int)) (κ true) (cond (v.2.1.2.2.2.1 != (-1 : Int)) (κ true) (cond (v.2.1.1 != (7 : Int)) (cond (v.2.1.2.2.2.2.1 != (0 : Int)) (κ true) (cond (v.2.1.1 != (8 : Int)) (cond v.2.1.2.2.2.2.2.1 (κ true) (cond (v.2.1.1 != (9 : Int)) (κ (decide (((v.2.1.2.2.2.2.2.2).length : Int) > (0 : Int)))) (κ false))) (cond (v.2.1.1 != (9 : Int)) (κ (decide (((v.2.1.2.2.2.2.2.2).length : Int) > (0 : Int)))) (κ false)))) (cond (v.2.1.1 != (8 : Int)) (cond v.2.1.2.2.2.2.2.1 (κ true) (cond (v.2.1.1 != (9 : Int)) (κ (decide (((v.2.1.2.2.2.2.2.2).length : Int) > (0 : Int)))) (κ false))) (cond (v.2.1.1 != (9 : Int)) (κ (decide (((v.2.1.2.2.2.2.2.2).length : Int) > (0 : Int)))) (κ false)))))) (cond (v.2.1.1 != (7 : Int)) (cond (v.2.1.2.2.2.2.1 != (0 : Int)) (κ true) (cond (v.2.1.1 != (8 : Int)) (cond v.2.1.2.2.2.2.2.1 (κ true) (cond (v.2.1.1 != (9 : Int)) (κ (decide (((v.2.1.2.2.2.2.2.2).length : Int) > (0 : Int)))) (κ false))) (cond (v.2.1.1 != (9 : Int)) (κ (decide (((v.2.1.2.2.2.2.2.2).length : Int) > (0 : Int)))) (κ false)))) (cond (v.2.1.1 != (8 : Int)) (cond v.2.1.2.2.2.2.2.1 (κ true) (cond (v.2.1.1 != (9 : Int)) (κ (decide (((v.2.1.2.2.2.2.2.2).length : Int) > (0 : Int)))) (κ false))) (cond (v.2.1.1 != (9 : Int)) (κ (decide (((v.2.1.2.2.2.2.2.2).length : Int) > (0 : Int)))) (κ false)))))) (cond (v.2.1.1 != (6 : Int)) (cond (v.2.1.2.2.1 != (0 : Int)) (κ true) (cond (v.2.1.2.2.2.1 != (-1 : Int)) (κ true) (cond (v.2.1.1 != (7 : Int)) (cond (v.2.1.2.2.2.2.1 != (0 : Int)) (κ true) (cond (v.2.1.1 != (8 : Int)) (cond v.2.1.2.2.2.2.2.1 (κ true) (cond (v.2.1.1 != (9 : Int)) (κ (decide (((v.2.1.2.2.2.2.2.2).length : Int) > (0 : Int)))) (κ false))) (cond (v.2.1.1 != (9 : Int)) (κ (decide (((v.2.1.2.2.2.2.2.2).length : Int) > (0 : Int)))) (κ false)))) (cond (v.2.1.1 != (8 : Int)) (cond v.2.1.2.2.2.2.2.1 (κ true) (cond (v.2.1.1 != (9 : Int)) (κ (decide (((v.2.1.2.2.2.2.2.2).length : Int) > (0 : Int)))) (κ false))) (cond (v.2.1.1 != (9 : Int)) (κ (decide (((v.2.1.2.2.2.2.2.2).length : Int) > (0 : Int)))) (κ false)))))) (cond (v.2.1.1 != (7 : Int)) (cond (v.2.1.2.2.2.2.1 != (0 : Int)) (κ true) (cond (v.2.1.1 != (8 : Int)) (cond v.2.1.2.2.2.2.2.1 (κ true) (cond (v.2.1.1 != (9 : Int)) (κ (decide (((v.2.1.2.2.2.2.2.2).length : Int) > (0 : Int)))) (κ false))) (cond (v.2.1.1 != (9 : Int)) (κ (decide (((v.2.1.2.2.2.2.2.2).length : Int) > (0 : Int)))) (κ false)))) (cond (v.2.1.1 != (8 : Int)) (cond v.2.1.2.2.2.2.2.1 (κ true) (cond (v.2.1.1 != (9 : Int)) (κ (decide (((v.2.1.2.2.2.2.2.2).length : Int) > (0 : Int)))) (κ false))) (cond (v.2.1.1 != (9 : Int)) (κ (decide (((v.2.1.2.2.2.2.2.2).length : Int) > (0 : Int)))) (κ false)))))
def c285_0 (v : V299_1) : Bool := t285_0 v id
def F285_0 (v : V299_1) : Ways (Ex × St) := .done (f285_0 v (c285_0 v))
theorem l285_0 : CodeOk Tryz.prog (pieceAt (pb 3 1) (bodyOf Tryz.f285)) ss285_0 gs299_0 F285_0 := codeOk_eq (lt := .none) (sx := sx285_0) (gx := gs299_0) E285.ok orders (LtOk.no _) fun v => Eq.trans (b := t285_0 v (sm (f285_0 v))) (by kernel_rfl) (show t285_0 v (sm (f285_0 v)) = some (f285_0 v (t285_0 v id)) from (tC (tC (tC rfl (tC (tC rfl (tC rfl (tC (tC rfl (tC (tC rfl (tC rfl rfl)) (tC rfl rfl))) (tC (tC rfl (tC rfl rfl)) (tC rfl rfl))))) (tC (tC rfl (tC (tC rfl (tC rfl rfl)) (tC rfl rfl))) (tC (tC rfl (tC rfl rfl)) (tC rfl rfl))))) (tC (tC rfl (tC rfl (tC (tC rfl (tC (tC rfl (tC rfl rfl)) (tC rfl rfl))) (tC (tC rfl (tC rfl rfl)) (tC rfl rfl))))) (tC (tC rfl (tC (tC rfl (tC rfl rfl)) (tC rfl rfl))) (tC (tC rfl (tC rfl rfl)) (tC rfl rfl))))) (tC (tC rfl (tC rfl (tC (tC rfl (tC (tC rfl (tC rfl rfl)) (tC rfl rfl))) (tC (tC rfl (tC rfl rfl)) (tC rfl rfl))))) (tC (tC rfl (tC (tC rfl (tC rfl rfl)) (tC rfl rfl))) (tC (tC rfl (tC rfl rfl)) (tC rfl rfl))))))
@[reducible] def ss285_1 : List SP := .und :: .one (.ptr 1 0) :: .one (.dat .bool true) :: U32 (U16 (U8 (U2 (.und :: oI :: .one (.dat .bool true) :: U32 (U16 (U2 (.und :: [])))))))
def f285_1 (v : V299_0) (r : Bool) : Ex × St := (.normal, bldSt ss285_1 gs299_0 (v.1, v.2.1, r, v.2.2.2.1, ()))
def t285_1 (v : V299_0) {Z : Type} (κ : Bool -> Z) : Z := cond v.2.2.1 (κ v.2.2.1) (cond (v.2.1 == (2 : Int)) (κ (v.2.1 == (2 : Int))) (cond (v.2.1 == (4 : Int)) (κ (v.2.1 == (4 : Int))) (κ (v.2.1 == (5 : Int)))))
def c285_1 (v : V299_0) : Bool := t285_1 v id
def F285_1 (v : V299_0) : Ways (Ex × St) := .done (f285_1 v (c285_1 v))
theorem l285_1 : CodeOk Tryz.prog (pieceAt (pb 6 43) (bodyOf Tryz.f285)) ss285_1 gs299_0 F285_1 := codeOk_eq (lt := .none) (sx := ss285_1) (gx := gs299_0) E285.ok orders (LtOk.no _) fun v => Eq.trans (b := t285_1 v (sm (f285_1 v))) (by kernel_rfl) (show t285_1 v (sm (f285_1 v)) = some (f285_1 v (t285_1 v id)) from (tC rfl (tC rfl (tC rfl rfl))))
@[reducible] def sx285_2 : List SP := U2 (.one (.dat .bool true) :: U64 (U32 (U16 ([]))))
def f285_2 (v : V299_1) (r : Bool) : Ex × St := (.normal, bldSt sx285_2 gs116_0 (r, ()))
def t285_2 (v : V299_1) {Z : Type} (κ : Bool -> Z) : Z := cond (v160 v.2.1.2.2.1) (cond (v.2.1.2.2.2.1 == (-1 : Int)) (κ true) (cond (v.2.1.2.2.1 == (0 : Int)) (κ (v164 v.2.1.2.2.2.1)) (κ false))) (cond (v.2.1.2.2.1 == (0 : Int)) (κ (v164 v.2.1.2.2.2.1)) (κ false))
def c285_2 (v : V299_1) : Bool := t285_2 v id
def F285_2 (v : V299_1) : Ways (Ex × St) := .done (f285_2 v (c285_2 v))
theorem l285_2 : CodeOk Tryz.prog (pieceAt (pb 11 507) (bodyOf Tryz.f285)) ss285_0 gs299_0 F285_2 := codeOk_eq (lt := .none) (sx := sx285_2) (gx := gs116_0) E285.ok orders (LtOk.no _) fun v => Eq.trans (b := t285_2 v (sm (f285_2 v))) (by kernel_rfl) (show t285_2 v (sm (f285_2 v)) = some (f285_2 v (t285_2 v id)) from (tC (tC rfl (tC rfl rfl)) (tC rfl rfl)))
def f285_3 (v : V299_1) (r : Bool) : Ex × St := (.normal, bldSt sx285_2 gs116_0 (r, ()))
def t285_3 (v : V299_1) {Z : Type} (κ : Bool -> Option Z) : Option Z := cond (v165 ((v.2.1.2.2.2.2.2.2).length : Int) 1 3) (cond (d166c1 v.2.1.2.2.2.2.2.2) (κ (!(v166c1 v.2.1.2.2.2.2.2.2))) (none)) (κ false)
def c285_3 (v : V299_1) : Bool := (t285_3 v some).getD false
def g285_3 (v : V299_1) : Bool := (t285_3 v some).isSome
def F285_3 (v : V299_1) : Ways (Ex × St) := .br (g285_3 v) (.done (f285_3 v (c285_3 v))) .no
theorem l285_3 : CodeOk Tryz.prog (pieceAt (pb 17 32763) (bodyOf Tryz.f285)) ss285_0 gs299_0 F285_3 := codeOk_eq (lt := .none) (sx := sx285_2) (gx := gs116_0) E285.ok orders (LtOk.no _) fun v => Eq.trans (b := t285_3 v (sm (f285_3 v))) (by kernel_rfl) (run_fin (show t285_3 v (sm (f285_3 v)) = (t285_3 v some).bind _ from (bC (bC rfl rfl) rfl)))
def E285l := E285.l (g := 285) (t := (ltPutC (pb 17 32763) (bodyOf Tryz.f285) (ltPutC (pb 11 507) (bodyOf Tryz.f285) (ltPutC (pb 6 43) (bodyOf Tryz.f285) (ltPutC (pb 3 1) (bodyOf Tryz.f285) .none (.sum ss285_0 gs299_0 F285_0)) (.sum ss285_1 gs299_0 F285_1)) (.sum ss285_0 gs299_0 F285_2)) (.sum ss285_0 gs299_0 F285_3))) (ltOk_of Tryz.func285 (LtOk.putC (wf_of (by kernel_rfl)) (LtOk.putC (wf_of (by kernel_rfl)) (LtOk.putC (wf_of (by kernel_rfl)) (LtOk.putC (wf_of (by kernel_rfl)) (LtOk.no _) l285_0) l285_1) l285_2) l285_3))
def t285 (a0 : Ty.T y106) {Z : Type} (κ : Bool -> Option Z) : Option Z := cond (c285_0 (false, a0, ())) (κ false) (cond (c285_1 (false, a0.1, (a0.1 == (1 : Int)), a0, ())) (κ true) (cond (a0.1 == (3 : Int)) (κ (v165 a0.2.1 1 2147483647)) (cond (a0.1 == (6 : Int)) (κ (c285_2 (false, a0, ()))) (cond (a0.1 == (7 : Int)) (κ (v163 a0.2.2.2.2.1)) (cond (a0.1 == (8 : Int)) (κ (v165 a0.2.1 0 99)) (cond (a0.1 == (9 : Int)) (cond (g285_3 (false, a0, ())) (κ (c285_3 (false, a0, ()))) (none)) (κ false)))))))
def v285 (a0 : Ty.T y106) : Bool := (t285 a0 some).getD false
def d285 (a0 : Ty.T y106) : Bool := (t285 a0 some).isSome
def p285 : Prim := ⟨[.agg [.dat y106 true]], fun v => .br (d285 v.1) (.done (f285 (v285 v.1))) .no⟩
theorem ok285 : PO 285 p285 := pK E285l fun v => Eq.trans (b := (t285 v.1 (sm f285))) (by kernel_rfl) (run_fin (show t285 v.1 (sm f285) = (t285 v.1 some).bind _ from by unfold t285; simp only [bb]))
def f286 (r : Bool) : AV × Sig := (.one (.bool r), [])
def E286 := (E0.p ok320)
def t286 (a0 : Ty.T y106) (a1 : Int) {Z : Type} (κ : Bool -> Z) : Z := cond (!(v320 a1)) (κ false) (cond (a0.1 == (1 : Int)) (cond (a0.1 == (1 : Int)) (κ true) (cond (a0.1 == (2 : Int)) (cond (a0.1 == (2 : Int)) (κ (a1 == (1 : Int))) (cond (a0.1 == (3 : Int)) (cond (a0.1 == (3 : Int)) (κ (a1 != (2 : Int))) (cond (a0.1 == (7 : Int)) (cond (a0.1 == (7 : Int)) (κ (a1 == (2 : Int))) (κ false)) (cond (a0.1 == (8 : Int)) (κ (a1 == (2 : Int))) (κ false)))) (cond (a0.1 == (4 : Int)) (cond (a0.1 == (4 : Int)) (κ (a1 != (2 : Int))) (cond (a0.1 == (7 : Int)) (cond (a0.1 == (7 : Int)) (κ (a1 == (2 : Int))) (κ false)) (cond (a0.1 == (8 : Int)) (κ (a1 == (2 : Int))) (κ false)))) (cond (a0.1 == (5 : Int)) (κ (a1 != (2 : Int))) (cond (a0.1 == (7 : Int)) (cond (a0.1 == (7 : Int)) (κ (a1 == (2 : Int))) (κ false)) (cond (a0.1 == (8 : Int)) (κ (a1 == (2 : Int))) (κ false))))))) (cond (a0.1 == (6 : Int)) (κ (a1 == (1 : Int))) (cond (a0.1 == (3 : Int)) (cond (a0.1 == (3 : Int)) (κ (a1 != (2 : Int))) (cond (a0.1 == (7 : Int)) (cond (a0.1 == (7 : Int)) (κ (a1 == (2 : Int))) (κ false)) (cond (a0.1 == (8 : Int)) (κ (a1 == (2 : Int))) (κ false)))) (cond (a0.1 == (4 : Int)) (cond (a0.1 == (4 : Int)) (κ (a1 != (2 : Int))) (cond (a0.1 == (7 : Int)) (cond (a0.1 == (7 : Int)) (κ (a1 == (2 : Int))) (κ false)) (cond (a0.1 == (8 : Int)) (κ (a1 == (2 : Int))) (κ false)))) (cond (a0.1 == (5 : Int)) (κ (a1 != (2 : Int))) (cond (a0.1 == (7 : Int)) (cond (a0.1 == (7 : Int)) (κ (a1 == (2 : Int))) (κ false)) (cond (a0.1 == (8 : Int)) (κ (a1 == (2 : Int))) (κ false))))))))) (cond (a0.1 == (9 : Int)) (κ true) (cond (a0.1 == (2 : Int)) (cond (a0.1 == (2 : Int)) (κ (a1 == (1 : Int))) (cond (a0.1 == (3 : Int)) (cond (a0.1 == (3 : Int)) (κ (a1 != (2 : Int))) (cond (a0.1 == (7 : Int)) (cond (a0.1 == (7 : Int)) (κ (a1 == (2 : Int))) (κ false)) (cond (a0.1 == (8 : Int)) (κ (a1 == (2 : Int))) (κ false)))) (cond (a0.1 == (4 : Int)) (cond (a0.1 == (4 : Int)) (κ (a1 != (2 : Int))) (cond (a0.1 == (7 : Int)) (cond (a0.1 == (7 : Int)) (κ (a1 == (2 : Int))) (κ false)) (cond (a0.1 == (8 : Int)) (κ (a1 == (2 : Int))) (κ false)))) (cond (a0.1 == (5 : Int)) (κ (a1 != (2 : Int))) (cond (a0.1 == (7 : Int)) (cond (a0.1 == (7 : Int)) (κ (a1 == (2 : Int))) (κ false)) (cond (a0.1 == (8 : Int)) (κ (a1 == (2 : Int))) (κ false))))))) (cond (a0.1 == (6 : Int)) (κ (a1 == (1 : Int))) (cond (a0.1 == (3 : Int)) (cond (a0.1 == (3 : Int)) (κ (a1 != (2 : Int))) (cond (a0.1 == (7 : Int)) (cond (a0.1 == (7 : Int)) (κ (a1 == (2 : Int))) (κ false)) (cond (a0.1 == (8 : Int)) (κ (a1 == (2 : Int))) (κ false)))) (cond (a0.1 == (4 : Int)) (cond (a0.1 == (4 : Int)) (κ (a1 != (2 : Int))) (cond (a0.1 == (7 : Int)) (cond (a0.1 == (7 : Int)) (κ (a1 == (2 : Int))) (κ false)) (cond (a0.1 == (8 : Int)) (κ (a1 == (2 : Int))) (κ false)))) (cond (a0.1 == (5 : Int)) (κ (a1 != (2 : Int))) (cond (a0.1 == (7 : Int)) (cond (a0.1 == (7 : Int)) (κ (a1 == (2 : Int))) (κ false)) (cond (a0.1 == (8 : Int)) (κ (a1 == (2 : Int))) (κ false))))))))))
def v286 (a0 : Ty.T y106) (a1 : Int) : Bool := t286 a0 a1 fun r => r
def p286 : Prim := ⟨[.agg [.dat y106 true], oI], fun v => .done (f286 (v286 v.1 v.2.1))⟩
theorem ok286 : PO 286 p286 := pK E286 fun v => Eq.trans (b := (t286 v.1 v.2.1 (sm f286))) (by kernel_rfl) (show t286 v.1 v.2.1 (sm f286) = some (f286 (t286 v.1 v.2.1 fun r => r)) from (tC rfl (tC (tC rfl (tC (tC rfl (tC (tC rfl (tC (tC rfl rfl) (tC rfl rfl))) (tC (tC rfl (tC (tC rfl rfl) (tC rfl rfl))) (tC rfl (tC (tC rfl rfl) (tC rfl rfl)))))) (tC rfl (tC (tC rfl (tC (tC rfl rfl) (tC rfl rfl))) (tC (tC rfl (tC (tC rfl rfl) (tC rfl rfl))) (tC rfl (tC (tC rfl rfl) (tC rfl rfl)))))))) (tC rfl (tC (tC rfl (tC (tC rfl (tC (tC rfl rfl) (tC rfl rfl))) (tC (tC rfl (tC (tC rfl rfl) (tC rfl rfl))) (tC rfl (tC (tC rfl rfl) (tC rfl rfl)))))) (tC rfl (tC (tC rfl (tC (tC rfl rfl) (tC rfl rfl))) (tC (tC rfl (tC (tC rfl rfl) (tC rfl rfl))) (tC rfl (tC (tC rfl rfl) (tC rfl rfl)))))))))))
def f227 (r : Bool) : AV × Sig := (.one (.bool r), [])
def E227 := (((((((E0.p ok160).p ok164).p ok165).p ok283).p ok284).p ok285).p ok286)
def t227 (a0 : Ty.T y108) {Z : Type} (κ : Bool -> Option Z) : Option Z := cond (a0.2.2.2.2.2.2.1.1 == (2 : Int)) (cond (v160 a0.1) (cond (v164 a0.2.1) (cond (v165 a0.2.2.1 0 99) (cond (v165 a0.2.2.2.1 0 4) (cond (a0.2.2.2.1 != (0 : Int)) (cond (v283 a0.2.2.2.2.1) (cond (v284 a0.2.2.2.2.2.1) (cond (d285 a0.2.2.2.2.2.2.1) (cond (v285 a0.2.2.2.2.2.2.1) (cond (v286 a0.2.2.2.2.2.2.1 a0.2.2.2.2.1.1) (cond (v165 a0.2.2.2.2.2.2.2.1 (-1) 9999) (κ (v165 a0.2.2.2.2.2.2.2.2 0 2147483647)) (κ false)) (κ false)) (κ false)) (none)) (κ false)) (κ false)) (cond (a0.2.2.1 != (0 : Int)) (cond (v283 a0.2.2.2.2.1) (cond (v284 a0.2.2.2.2.2.1) (cond (d285 a0.2.2.2.2.2.2.1) (cond (v285 a0.2.2.2.2.2.2.1) (cond (v286 a0.2.2.2.2.2.2.1 a0.2.2.2.2.1.1) (cond (v165 a0.2.2.2.2.2.2.2.1 (-1) 9999) (κ (v165 a0.2.2.2.2.2.2.2.2 0 2147483647)) (κ false)) (κ false)) (κ false)) (none)) (κ false)) (κ false)) (κ false))) (κ false)) (κ false)) (κ false)) (κ false)) (cond (v160 a0.1) (cond (v164 a0.2.1) (cond (v165 a0.2.2.1 0 99) (cond (v165 a0.2.2.2.1 0 4) (cond (a0.2.2.2.1 != (0 : Int)) (cond (v283 a0.2.2.2.2.1) (cond (v284 a0.2.2.2.2.2.1) (cond (d285 a0.2.2.2.2.2.2.1) (cond (v285 a0.2.2.2.2.2.2.1) (cond (v286 a0.2.2.2.2.2.2.1 a0.2.2.2.2.1.1) (cond (v165 a0.2.2.2.2.2.2.2.1 (-1) 9999) (κ (v165 a0.2.2.2.2.2.2.2.2 (-1) 2147483647)) (κ false)) (κ false)) (κ false)) (none)) (κ false)) (κ false)) (cond (a0.2.2.1 != (0 : Int)) (cond (v283 a0.2.2.2.2.1) (cond (v284 a0.2.2.2.2.2.1) (cond (d285 a0.2.2.2.2.2.2.1) (cond (v285 a0.2.2.2.2.2.2.1) (cond (v286 a0.2.2.2.2.2.2.1 a0.2.2.2.2.1.1) (cond (v165 a0.2.2.2.2.2.2.2.1 (-1) 9999) (κ (v165 a0.2.2.2.2.2.2.2.2 (-1) 2147483647)) (κ false)) (κ false)) (κ false)) (none)) (κ false)) (κ false)) (κ false))) (κ false)) (κ false)) (κ false)) (κ false))
def v227 (a0 : Ty.T y108) : Bool := (t227 a0 some).getD false
def d227 (a0 : Ty.T y108) : Bool := (t227 a0 some).isSome
def p227 : Prim := ⟨[.agg [.dat y108 true]], fun v => .br (d227 v.1) (.done (f227 (v227 v.1))) .no⟩
theorem ok227 : PO 227 p227 := pK E227 fun v => Eq.trans (b := (t227 v.1 (sm f227))) (by kernel_rfl) (run_fin (show t227 v.1 (sm f227) = (t227 v.1 some).bind _ from by unfold t227; simp only [bb]))
def f136 (r : Bool) : AV × Sig := (.one (.bool r), [])
def E136 := (E0.p ok227)
@[reducible] def ss136_0 : List SP := .one (.dat (.sl 109 y108) true) :: .und :: .one (.dat .bool true) :: U2 (.one (.dat (.sl 109 y108) true) :: oI :: oI :: U16 (U8 (U2 ([]))))
@[reducible] def V136_0 : Type := (List (Ty.T y108)) × Bool × (List (Ty.T y108)) × Int × Int × Unit
def t136_0 (v : V136_0) {Z : Type} (κ : Nat × V136_0 -> Option Z) : Option Z := cond (decide (v.2.2.2.2.1 < v.2.2.2.1)) (if 0 <= v.2.2.2.2.1 then (optC ((v.2.2.1)[(v.2.2.2.2.1).toNat]?) (fun x1 => cond (d227 x1) (cond (!(v227 x1)) (κ (1, (v.1, false, v.2.2.1, v.2.2.2.1, v.2.2.2.2.1, ()))) (cond (decide (v.2.2.2.2.1 > (0 : Int))) (if 0 <= (IntKind.wrap .i64 (v.2.2.2.2.1 - (1 : Int))) then (optC ((v.1)[(IntKind.wrap .i64 (v.2.2.2.2.1 - (1 : Int))).toNat]?) (fun x2 => cond (decide (x2.1 ≥ x1.1)) (κ (1, (v.1, false, v.2.2.1, v.2.2.2.1, v.2.2.2.2.1, ()))) (κ (0, (v.1, v.2.1, v.2.2.1, v.2.2.2.1, IntKind.wrap .i64 (v.2.2.2.2.1 + (1 : Int)), ()))))) else none) (κ (0, (v.1, v.2.1, v.2.2.1, v.2.2.2.1, IntKind.wrap .i64 (v.2.2.2.2.1 + (1 : Int)), ()))))) (none))) else none) (κ (2, (v.1, v.2.1, v.2.2.1, v.2.2.2.1, v.2.2.2.2.1, ())))
def s136_0 (v : V136_0) : Option (Nat × V136_0) := t136_0 v some
def n136_0 (v : V136_0) : Nat := v.1.length + v.2.2.1.length + v.2.2.2.1.toNat + v.2.2.2.2.1.toNat + 100
def k136_0 (h0 : List (Ty.T y108)) (h1 : Bool) (h2 : List (Ty.T y108)) (h3 : Int) (h4 : Int) (c : Nat) : Bool := iK s136_0 n136_0 (h0, h1, h2, h3, h4, ()) c
def w136_0 (h0 : List (Ty.T y108)) (h1 : Bool) (h2 : List (Ty.T y108)) (h3 : Int) (h4 : Int) : V136_0 := iW s136_0 n136_0 (h0, h1, h2, h3, h4, ())
def F136_0 (v : V136_0) : Ways (Ex × St) := waysOf s136_0 (n136_0 v) v (bldSt ss136_0 gs116_0) [.ret, .exit 0] 0
theorem l136_0 : LoopOk Tryz.prog (loopAt (pb 3 5) (bodyOf Tryz.f136)) ss136_0 gs116_0 F136_0 := loopOk_iter (lt := .none) E136.ok orders (LtOk.no _) fun n v K => Eq.trans (b := t136_0 v (kont _ _ _ _ _ K)) (by kernel_rfl) (show t136_0 v _ = (t136_0 v some).bind _ from (bC (bI (bO fun x1 => (bC (bC rfl (bC (bI (bO fun x2 => (bC rfl rfl))) rfl)) rfl))) rfl))
def E136l := E136.l (g := 136) (t := (ltPut (pb 3 5) (bodyOf Tryz.f136) .none (.sum ss136_0 gs116_0 F136_0))) (ltOk_of Tryz.func136 (LtOk.put (wf_of (by kernel_rfl)) (LtOk.no _) l136_0))
def u136 (a0 : List (Ty.T y108)) : Option (AV × Sig) := cond (k136_0 a0 false a0 ((a0).length : Int) 0 0) (some (.one (.bool (w136_0 a0 false a0 ((a0).length : Int) 0).2.1), [])) (cond (k136_0 a0 false a0 ((a0).length : Int) 0 1) (some (.one (.bool (decide ((((w136_0 a0 false a0 ((a0).length : Int) 0).1).length : Int) <= (5 : Int)))), [])) (none))
def v136 (a0 : List (Ty.T y108)) : Bool := cond (k136_0 a0 false a0 ((a0).length : Int) 0 0) ((w136_0 a0 false a0 ((a0).length : Int) 0).2.1) (cond (k136_0 a0 false a0 ((a0).length : Int) 0 1) (decide ((((w136_0 a0 false a0 ((a0).length : Int) 0).1).length : Int) <= (5 : Int))) (false))
def d136 (a0 : List (Ty.T y108)) : Bool := cond (k136_0 a0 false a0 ((a0).length : Int) 0 0) (true) (cond (k136_0 a0 false a0 ((a0).length : Int) 0 1) (true) (false))
theorem o136 (a0 : List (Ty.T y108)) : u136 a0 = cond (d136 a0) (some (f136 (v136 a0))) none := (pC (pS _) (pC (pS _) (pN _)))
def p136 : Prim := ⟨[.one (.dat (.sl 109 y108) true)], fun v => .br (d136 v.1) (.done (f136 (v136 v.1))) .no⟩
theorem ok136 : PO 136 p136 := pK E136l fun v => Eq.trans (b := u136 v.1) (by kernel_rfl) (o136 v.1)
def f141 (r : (List (Ty.T y66))) : AV × Sig := (.one (.sl 4096), [(4096, .arr 67 y66 r false)])
def E141 := (E0.p ok177)
@[reducible] def ss141_0 : List SP := U2 (.one (.dat (.sl 67 y66) false) :: .one (.own 6) :: U2 (.und :: .one (.dat (.sl 67 y66) true) :: oI :: oI :: U8 (U4 (.und :: []))))
@[reducible] def gs141_0 : List (Nat × GP) := [(6, .arr 67 y66 false)]
@[reducible] def V141_0 : Type := (List (Ty.T y66)) × (List (Ty.T y66)) × Int × Int × (List (Ty.T y66)) × Unit
def t141_0 (v : V141_0) {Z : Type} (κ : Nat × V141_0 -> Option Z) : Option Z := cond (decide (v.2.2.2.1 < v.2.2.1)) (if 0 <= v.2.2.2.1 then (optC ((v.2.1)[(v.2.2.2.1).toNat]?) (fun x1 => cond (d177 x1.2.2.2.2.2.1) (if (v.2.2.2.2.1 ++ [(x1.1, x1.2.1, x1.2.2.1, x1.2.2.2.1, x1.2.2.2.2.1, (v177 x1.2.2.2.2.2.1), x1.2.2.2.2.2.2)] : List (Ty.T y66)).length * 128 <= 140737488351232 then (κ (0, (v.1, v.2.1, v.2.2.1, IntKind.wrap .i64 (v.2.2.2.1 + (1 : Int)), v.2.2.2.2.1 ++ [(x1.1, x1.2.1, x1.2.2.1, x1.2.2.2.1, x1.2.2.2.2.1, (v177 x1.2.2.2.2.2.1), x1.2.2.2.2.2.2)], ()))) else none) (none))) else none) (κ (1, (v.1, v.2.1, v.2.2.1, v.2.2.2.1, v.2.2.2.2.1, ())))
def s141_0 (v : V141_0) : Option (Nat × V141_0) := t141_0 v some
def n141_0 (v : V141_0) : Nat := v.1.length + v.2.1.length + v.2.2.1.toNat + v.2.2.2.1.toNat + v.2.2.2.2.1.length + 100
def k141_0 (h0 : List (Ty.T y66)) (h1 : List (Ty.T y66)) (h2 : Int) (h3 : Int) (h4 : List (Ty.T y66)) (c : Nat) : Bool := iK s141_0 n141_0 (h0, h1, h2, h3, h4, ()) c
def w141_0 (h0 : List (Ty.T y66)) (h1 : List (Ty.T y66)) (h2 : Int) (h3 : Int) (h4 : List (Ty.T y66)) : V141_0 := iW s141_0 n141_0 (h0, h1, h2, h3, h4, ())
def F141_0 (v : V141_0) : Ways (Ex × St) := waysOf s141_0 (n141_0 v) v (bldSt ss141_0 gs141_0) [.exit 0] 0
theorem l141_0 : LoopOk Tryz.prog (loopAt (pb 4 11) (bodyOf Tryz.f141)) ss141_0 gs141_0 F141_0 := loopOk_iter (lt := .none) E141.ok orders (LtOk.no _) fun n v K => Eq.trans (b := t141_0 v (kont _ _ _ _ _ K)) (by kernel_rfl) (show t141_0 v _ = (t141_0 v some).bind _ from (bC (bI (bO fun x1 => (bC (bI rfl) rfl))) rfl))
def E141l := E141.l (g := 141) (t := (ltPut (pb 4 11) (bodyOf Tryz.f141) .none (.sum ss141_0 gs141_0 F141_0))) (ltOk_of Tryz.func141 (LtOk.put (wf_of (by kernel_rfl)) (LtOk.no _) l141_0))
def u141 (a0 : List (Ty.T y66)) : Option (AV × Sig) := cond (k141_0 [] a0 ((a0).length : Int) 0 [] 0) (some (.one (.sl 4096), [(4096, .arr 67 y66 (w141_0 [] a0 ((a0).length : Int) 0 []).2.2.2.2.1 false)])) (none)
def v141 (a0 : List (Ty.T y66)) : (List (Ty.T y66)) := cond (k141_0 [] a0 ((a0).length : Int) 0 [] 0) ((w141_0 [] a0 ((a0).length : Int) 0 []).2.2.2.2.1) ([])
def d141 (a0 : List (Ty.T y66)) : Bool := cond (k141_0 [] a0 ((a0).length : Int) 0 [] 0) (true) (false)
theorem o141 (a0 : List (Ty.T y66)) : u141 a0 = cond (d141 a0) (some (f141 (v141 a0))) none := (pC (pS _) (pN _))
def p141 : Prim := ⟨[.one (.dat (.sl 67 y66) true)], fun v => .br (d141 v.1) (.done (f141 (v141 v.1))) .no⟩
theorem ok141 : PO 141 p141 := pK E141l fun v => Eq.trans (b := u141 v.1) (by kernel_rfl) (o141 v.1)
def f252 (r : Int) : AV × Sig := (.one (.int .i64 r), [])
def E252 := E0
@[reducible] def ss252_0 : List SP := .one (.dat (.sl 3 (.int .i64)) true) :: oI :: U2 (oI :: U2 (oI :: oI :: U8 (U2 ([]))))
@[reducible] def V252_0 : Type := (List (Ty.T (.int .i64))) × Int × Int × Int × Int × Unit
def t252_0 (v : V252_0) {Z : Type} (κ : Nat × V252_0 -> Option Z) : Option Z := cond (decide (v.2.2.2.2.1 < v.2.2.2.1)) (if 0 <= v.2.2.2.2.1 then (optC ((v.1)[(v.2.2.2.2.1).toNat]?) (fun x1 => cond (v.2.1 == x1) (κ (1, (v.1, v.2.1, v.2.2.2.2.1, v.2.2.2.1, v.2.2.2.2.1, ()))) (κ (0, (v.1, v.2.1, v.2.2.1, v.2.2.2.1, IntKind.wrap .i64 (v.2.2.2.2.1 + (1 : Int)), ()))))) else none) (κ (2, (v.1, v.2.1, v.2.2.1, v.2.2.2.1, v.2.2.2.2.1, ())))
def s252_0 (v : V252_0) : Option (Nat × V252_0) := t252_0 v some
def n252_0 (v : V252_0) : Nat := v.1.length + v.2.1.toNat + v.2.2.1.toNat + v.2.2.2.1.toNat + v.2.2.2.2.1.toNat + 100
def k252_0 (h0 : List (Ty.T (.int .i64))) (h1 : Int) (h2 : Int) (h3 : Int) (h4 : Int) (c : Nat) : Bool := iK s252_0 n252_0 (h0, h1, h2, h3, h4, ()) c
def w252_0 (h0 : List (Ty.T (.int .i64))) (h1 : Int) (h2 : Int) (h3 : Int) (h4 : Int) : V252_0 := iW s252_0 n252_0 (h0, h1, h2, h3, h4, ())
def F252_0 (v : V252_0) : Ways (Ex × St) := waysOf s252_0 (n252_0 v) v (bldSt ss252_0 gs116_0) [.ret, .exit 0] 0
theorem l252_0 : LoopOk Tryz.prog (loopAt (pb 3 5) (bodyOf Tryz.f252)) ss252_0 gs116_0 F252_0 := loopOk_iter (lt := .none) E252.ok orders (LtOk.no _) fun n v K => Eq.trans (b := t252_0 v (kont _ _ _ _ _ K)) (by kernel_rfl) (show t252_0 v _ = (t252_0 v some).bind _ from (bC (bI (bO fun x1 => (bC rfl rfl))) rfl))
def E252l := E252.l (g := 252) (t := (ltPut (pb 3 5) (bodyOf Tryz.f252) .none (.sum ss252_0 gs116_0 F252_0))) (ltOk_of Tryz.func252 (LtOk.put (wf_of (by kernel_rfl)) (LtOk.no _) l252_0))
def u252 (a0 : List (Ty.T (.int .i64))) (a1 : Int) : Option (AV × Sig) := cond (k252_0 a0 a1 0 ((a0).length : Int) 0 0) (some (.one (.int .i64 (w252_0 a0 a1 0 ((a0).length : Int) 0).2.2.1), [])) (cond (k252_0 a0 a1 0 ((a0).length : Int) 0 1) (some (.one (.int .i64 (-1)), [])) (none))
def v252 (a0 : List (Ty.T (.int .i64))) (a1 : Int) : Int := cond (k252_0 a0 a1 0 ((a0).length : Int) 0 0) ((w252_0 a0 a1 0 ((a0).length : Int) 0).2.2.1) (cond (k252_0 a0 a1 0 ((a0).length : Int) 0 1) ((-1)) (0))
def d252 (a0 : List (Ty.T (.int .i64))) (a1 : Int) : Bool := cond (k252_0 a0 a1 0 ((a0).length : Int) 0 0) (true) (cond (k252_0 a0 a1 0 ((a0).length : Int) 0 1) (true) (false))
theorem o252 (a0 : List (Ty.T (.int .i64))) (a1 : Int) : u252 a0 a1 = cond (d252 a0 a1) (some (f252 (v252 a0 a1))) none := (pC (pS _) (pC (pS _) (pN _)))
def p252 : Prim := ⟨[.one (.dat (.sl 3 (.int .i64)) true), oI], fun v => .br (d252 v.1 v.2.1) (.done (f252 (v252 v.1 v.2.1))) .no⟩
theorem ok252 : PO 252 p252 := pK E252l fun v => Eq.trans (b := u252 v.1 v.2.1) (by kernel_rfl) (o252 v.1 v.2.1)
def f181 (r : Bool) : AV × Sig := (.one (.bool r), [])
def E181 := (E0.p ok252)
def u181 (a0 : List (Ty.T (.int .i64))) (a1 : Int) : Option (AV × Sig) := cond (d252 a0 a1) (some (.one (.bool (decide ((v252 a0 a1) ≥ (0 : Int)))), [])) (none)
def v181 (a0 : List (Ty.T (.int .i64))) (a1 : Int) : Bool := cond (d252 a0 a1) (decide ((v252 a0 a1) ≥ (0 : Int))) (false)
def d181 (a0 : List (Ty.T (.int .i64))) (a1 : Int) : Bool := cond (d252 a0 a1) (true) (false)
theorem o181 (a0 : List (Ty.T (.int .i64))) (a1 : Int) : u181 a0 a1 = cond (d181 a0 a1) (some (f181 (v181 a0 a1))) none := (pC (pS _) (pN _))
def p181 : Prim := ⟨[.one (.dat (.sl 3 (.int .i64)) true), oI], fun v => .br (d181 v.1 v.2.1) (.done (f181 (v181 v.1 v.2.1))) .no⟩
theorem ok181 : PO 181 p181 := pK E181 fun v => Eq.trans (b := u181 v.1 v.2.1) (by kernel_rfl) (o181 v.1 v.2.1)
def f75 (r : Bool) : AV × Sig := (.one (.bool r), [])
def E75 := (E0.p ok181)
def u75 (a0 : List (Ty.T (.int .i64))) (a1 : Int) : Option (AV × Sig) := cond (d181 a0 a1) (some (.one (.bool (v181 a0 a1)), [])) (none)
def v75 (a0 : List (Ty.T (.int .i64))) (a1 : Int) : Bool := cond (d181 a0 a1) ((v181 a0 a1)) (false)
def d75 (a0 : List (Ty.T (.int .i64))) (a1 : Int) : Bool := cond (d181 a0 a1) (true) (false)
theorem o75 (a0 : List (Ty.T (.int .i64))) (a1 : Int) : u75 a0 a1 = cond (d75 a0 a1) (some (f75 (v75 a0 a1))) none := (pC (pS _) (pN _))
def p75 : Prim := ⟨[.one (.dat (.sl 3 (.int .i64)) true), oI], fun v => .br (d75 v.1 v.2.1) (.done (f75 (v75 v.1 v.2.1))) .no⟩
theorem ok75 : PO 75 p75 := pK E75 fun v => Eq.trans (b := u75 v.1 v.2.1) (by kernel_rfl) (o75 v.1 v.2.1)
def f253 (r : Bool) : AV × Sig := (.one (.bool r), [])
def E253 := E0
def u253 (a0 : Ty.T y108) (a1 : Int) : Option (AV × Sig) := cond (a0.2.2.2.2.2.2.2.2 != (0 : Int)) (cond (a0.2.2.2.2.2.2.2.1 == (-1 : Int)) (some (.one (.bool true), [])) (some (.one (.bool (decide (a0.2.2.2.2.2.2.2.1 ≥ a1))), []))) (some (.one (.bool false), []))
def v253 (a0 : Ty.T y108) (a1 : Int) : Bool := cond (a0.2.2.2.2.2.2.2.2 != (0 : Int)) (cond (a0.2.2.2.2.2.2.2.1 == (-1 : Int)) (true) (decide (a0.2.2.2.2.2.2.2.1 ≥ a1))) (false)
theorem o253 (a0 : Ty.T y108) (a1 : Int) : u253 a0 a1 = some (f253 (v253 a0 a1)) := (tC (tC rfl rfl) rfl)
def p253 : Prim := ⟨[.agg [.dat y108 true], oI], fun v => .done (f253 (v253 v.1 v.2.1))⟩
theorem ok253 : PO 253 p253 := pK E253 fun v => Eq.trans (b := u253 v.1 v.2.1) (by kernel_rfl) (o253 v.1 v.2.1)
def f254 (r : Bool) : AV × Sig := (.one (.bool r), [])
def E254 := E0
def u254 (a0 : Ty.T y108) (a1 : Ty.T y27) : Option (AV × Sig) := cond (a0.2.2.2.1 != (0 : Int)) (some (.one (.bool true), [])) (cond (a0.2.2.1 == a1.2.1) (some (.one (.bool true), [])) (some (.one (.bool (a0.2.2.1 == a1.2.2.1)), [])))
def v254 (a0 : Ty.T y108) (a1 : Ty.T y27) : Bool := cond (a0.2.2.2.1 != (0 : Int)) (true) (cond (a0.2.2.1 == a1.2.1) (true) ((a0.2.2.1 == a1.2.2.1)))
theorem o254 (a0 : Ty.T y108) (a1 : Ty.T y27) : u254 a0 a1 = some (f254 (v254 a0 a1)) := (tC rfl (tC rfl rfl))
def p254 : Prim := ⟨[.agg [.dat y108 true], .agg [.dat y27 true]], fun v => .done (f254 (v254 v.1 v.2.1))⟩
theorem ok254 : PO 254 p254 := pK E254 fun v => Eq.trans (b := u254 v.1 v.2.1) (by kernel_rfl) (o254 v.1 v.2.1)
def f302 (r : (List (Ty.T (.int .i64)))) : AV × Sig := (.one (.sl 4096), [(4096, .arr 3 (.int .i64) r false)])
def E302 := E0
@[reducible] def ss302_0 : List SP := .und :: oI :: U2 (.one (.dat (.sl 3 (.int .i64)) false) :: .one (.own 8) :: U4 (.one (.dat (.sl 64 y63) true) :: oI :: oI :: U16 (U4 (U2 (.und :: [])))))
@[reducible] def gs302_0 : List (Nat × GP) := [(8, .arr 3 (.int .i64) false)]
@[reducible] def V302_0 : Type := Int × (List (Ty.T (.int .i64))) × (List (Ty.T y63)) × Int × Int × (List (Ty.T (.int .i64))) × Unit
def t302_0 (v : V302_0) {Z : Type} (κ : Nat × V302_0 -> Option Z) : Option Z := cond (decide (v.2.2.2.2.1 < v.2.2.2.1)) (if 0 <= v.2.2.2.2.1 then (optC ((v.2.2.1)[(v.2.2.2.2.1).toNat]?) (fun x1 => cond (x1.2.2.2.1 == (2 : Int)) (cond (v.1 == (-1 : Int)) (if (v.2.2.2.2.2.1 ++ [x1.1] : List (Ty.T (.int .i64))).length * 8 <= 140737488351232 then (κ (0, (v.1, v.2.1, v.2.2.1, v.2.2.2.1, IntKind.wrap .i64 (v.2.2.2.2.1 + (1 : Int)), v.2.2.2.2.2.1 ++ [x1.1], ()))) else none) (cond (x1.2.2.1 == v.1) (if (v.2.2.2.2.2.1 ++ [x1.1] : List (Ty.T (.int .i64))).length * 8 <= 140737488351232 then (κ (0, (v.1, v.2.1, v.2.2.1, v.2.2.2.1, IntKind.wrap .i64 (v.2.2.2.2.1 + (1 : Int)), v.2.2.2.2.2.1 ++ [x1.1], ()))) else none) (κ (0, (v.1, v.2.1, v.2.2.1, v.2.2.2.1, IntKind.wrap .i64 (v.2.2.2.2.1 + (1 : Int)), v.2.2.2.2.2.1, ()))))) (κ (0, (v.1, v.2.1, v.2.2.1, v.2.2.2.1, IntKind.wrap .i64 (v.2.2.2.2.1 + (1 : Int)), v.2.2.2.2.2.1, ()))))) else none) (κ (1, (v.1, v.2.1, v.2.2.1, v.2.2.2.1, v.2.2.2.2.1, v.2.2.2.2.2.1, ())))
def s302_0 (v : V302_0) : Option (Nat × V302_0) := t302_0 v some
def n302_0 (v : V302_0) : Nat := v.1.toNat + v.2.1.length + v.2.2.1.length + v.2.2.2.1.toNat + v.2.2.2.2.1.toNat + v.2.2.2.2.2.1.length + 100
def k302_0 (h0 : Int) (h1 : List (Ty.T (.int .i64))) (h2 : List (Ty.T y63)) (h3 : Int) (h4 : Int) (h5 : List (Ty.T (.int .i64))) (c : Nat) : Bool := iK s302_0 n302_0 (h0, h1, h2, h3, h4, h5, ()) c
def w302_0 (h0 : Int) (h1 : List (Ty.T (.int .i64))) (h2 : List (Ty.T y63)) (h3 : Int) (h4 : Int) (h5 : List (Ty.T (.int .i64))) : V302_0 := iW s302_0 n302_0 (h0, h1, h2, h3, h4, h5, ())
def F302_0 (v : V302_0) : Ways (Ex × St) := waysOf s302_0 (n302_0 v) v (bldSt ss302_0 gs302_0) [.exit 0] 0
theorem l302_0 : LoopOk Tryz.prog (loopAt (pb 4 11) (bodyOf Tryz.f302)) ss302_0 gs302_0 F302_0 := loopOk_iter (lt := .none) E302.ok orders (LtOk.no _) fun n v K => Eq.trans (b := t302_0 v (kont _ _ _ _ _ K)) (by kernel_rfl) (show t302_0 v _ = (t302_0 v some).bind _ from (bC (bI (bO fun x1 => (bC (bC (bI rfl) (bC (bI rfl) rfl)) rfl))) rfl))
def E302l := E302.l (g := 302) (t := (ltPut (pb 4 11) (bodyOf Tryz.f302) .none (.sum ss302_0 gs302_0 F302_0))) (ltOk_of Tryz.func302 (LtOk.put (wf_of (by kernel_rfl)) (LtOk.no _) l302_0))
def u302 (a0 : Ty.T y36) (a1 : Int) : Option (AV × Sig) := cond (k302_0 a1 [] a0.1 ((a0.1).length : Int) 0 [] 0) (some (.one (.sl 4096), [(4096, .arr 3 (.int .i64) (w302_0 a1 [] a0.1 ((a0.1).length : Int) 0 []).2.2.2.2.2.1 false)])) (none)
def v302 (a0 : Ty.T y36) (a1 : Int) : (List (Ty.T (.int .i64))) := cond (k302_0 a1 [] a0.1 ((a0.1).length : Int) 0 [] 0) ((w302_0 a1 [] a0.1 ((a0.1).length : Int) 0 []).2.2.2.2.2.1) ([])
def d302 (a0 : Ty.T y36) (a1 : Int) : Bool := cond (k302_0 a1 [] a0.1 ((a0.1).length : Int) 0 [] 0) (true) (false)
theorem o302 (a0 : Ty.T y36) (a1 : Int) : u302 a0 a1 = cond (d302 a0 a1) (some (f302 (v302 a0 a1))) none := (pC (pS _) (pN _))
def p302 : Prim := ⟨[.agg [.dat y36 true], oI], fun v => .br (d302 v.1 v.2.1) (.done (f302 (v302 v.1 v.2.1))) .no⟩
theorem ok302 : PO 302 p302 := pK E302l fun v => Eq.trans (b := u302 v.1 v.2.1) (by kernel_rfl) (o302 v.1 v.2.1)
def f303 (r : Int) : AV × Sig := (.one (.int .i64 r), [])
def E303 := E0
@[reducible] def ss303_0 : List SP := .und :: oI :: U2 (oI :: oI :: U2 (.und :: .one (.dat (.sl 64 y63) true) :: oI :: oI :: U16 (U4 ([]))))
@[reducible] def V303_0 : Type := Int × Int × Int × (List (Ty.T y63)) × Int × Int × Unit
def t303_0 (v : V303_0) {Z : Type} (κ : Nat × V303_0 -> Option Z) : Option Z := cond (decide (v.2.2.2.2.2.1 < v.2.2.2.2.1)) (if 0 <= v.2.2.2.2.2.1 then (optC ((v.2.2.2.1)[(v.2.2.2.2.2.1).toNat]?) (fun x1 => cond (x1.2.2.2.1 == (2 : Int)) (cond (x1.2.2.1 == v.1) (cond x1.2.2.2.2.2.2.2.2.2.2.2.2 (κ (0, (v.1, v.2.1, IntKind.wrap .i64 (v.2.2.1 + (1 : Int)), v.2.2.2.1, v.2.2.2.2.1, IntKind.wrap .i64 (v.2.2.2.2.2.1 + (1 : Int)), ()))) (κ (0, (v.1, v.2.1, v.2.2.1, v.2.2.2.1, v.2.2.2.2.1, IntKind.wrap .i64 (v.2.2.2.2.2.1 + (1 : Int)), ())))) (κ (0, (v.1, v.2.1, v.2.2.1, v.2.2.2.1, v.2.2.2.2.1, IntKind.wrap .i64 (v.2.2.2.2.2.1 + (1 : Int)), ())))) (κ (0, (v.1, v.2.1, v.2.2.1, v.2.2.2.1, v.2.2.2.2.1, IntKind.wrap .i64 (v.2.2.2.2.2.1 + (1 : Int)), ()))))) else none) (κ (1, (v.1, v.2.1, v.2.2.1, v.2.2.2.1, v.2.2.2.2.1, v.2.2.2.2.2.1, ())))
def s303_0 (v : V303_0) : Option (Nat × V303_0) := t303_0 v some
def n303_0 (v : V303_0) : Nat := v.1.toNat + v.2.1.toNat + v.2.2.1.toNat + v.2.2.2.1.length + v.2.2.2.2.1.toNat + v.2.2.2.2.2.1.toNat + 100
def k303_0 (h0 : Int) (h1 : Int) (h2 : Int) (h3 : List (Ty.T y63)) (h4 : Int) (h5 : Int) (c : Nat) : Bool := iK s303_0 n303_0 (h0, h1, h2, h3, h4, h5, ()) c
def w303_0 (h0 : Int) (h1 : Int) (h2 : Int) (h3 : List (Ty.T y63)) (h4 : Int) (h5 : Int) : V303_0 := iW s303_0 n303_0 (h0, h1, h2, h3, h4, h5, ())
def F303_0 (v : V303_0) : Ways (Ex × St) := waysOf s303_0 (n303_0 v) v (bldSt ss303_0 gs116_0) [.exit 0] 0
theorem l303_0 : LoopOk Tryz.prog (loopAt (pb 4 11) (bodyOf Tryz.f303)) ss303_0 gs116_0 F303_0 := loopOk_iter (lt := .none) E303.ok orders (LtOk.no _) fun n v K => Eq.trans (b := t303_0 v (kont _ _ _ _ _ K)) (by kernel_rfl) (show t303_0 v _ = (t303_0 v some).bind _ from (bC (bI (bO fun x1 => (bC (bC (bC rfl rfl) rfl) rfl))) rfl))
def E303l := E303.l (g := 303) (t := (ltPut (pb 4 11) (bodyOf Tryz.f303) .none (.sum ss303_0 gs116_0 F303_0))) (ltOk_of Tryz.func303 (LtOk.put (wf_of (by kernel_rfl)) (LtOk.no _) l303_0))
def u303 (a0 : Ty.T y36) (a1 : Int) : Option (AV × Sig) := cond (k303_0 a1 0 0 a0.1 ((a0.1).length : Int) 0 0) (some (.one (.int .i64 (w303_0 a1 0 0 a0.1 ((a0.1).length : Int) 0).2.2.1), [])) (none)
def v303 (a0 : Ty.T y36) (a1 : Int) : Int := cond (k303_0 a1 0 0 a0.1 ((a0.1).length : Int) 0 0) ((w303_0 a1 0 0 a0.1 ((a0.1).length : Int) 0).2.2.1) (0)
def d303 (a0 : Ty.T y36) (a1 : Int) : Bool := cond (k303_0 a1 0 0 a0.1 ((a0.1).length : Int) 0 0) (true) (false)
theorem o303 (a0 : Ty.T y36) (a1 : Int) : u303 a0 a1 = cond (d303 a0 a1) (some (f303 (v303 a0 a1))) none := (pC (pS _) (pN _))
def p303 : Prim := ⟨[.agg [.dat y36 true], oI], fun v => .br (d303 v.1 v.2.1) (.done (f303 (v303 v.1 v.2.1))) .no⟩
theorem ok303 : PO 303 p303 := pK E303l fun v => Eq.trans (b := u303 v.1 v.2.1) (by kernel_rfl) (o303 v.1 v.2.1)
def f255 (r : Bool) : AV × Sig := (.one (.bool r), [])
def E255 := ((((E0.p ok168).p ok284).p ok302).p ok303)
def u255 (a0 : Ty.T y36) (a1 : Int) (a2 : Ty.T y104) : Option (AV × Sig) := cond (!(v284 a2)) (some (.one (.bool false), [])) (cond (!(v168 a0 a1)) (some (.one (.bool false), [])) (cond (a2.1 == (1 : Int)) (if 0 <= a1 then (optC ((a0.2.1)[(a1).toNat]?) (fun x1 => some (.one (.bool (decide (x1.1 <= a2.2))), []))) else none) (cond (a2.1 == (2 : Int)) (cond (d302 a0 a1) (some (.one (.bool (decide ((((v302 a0 a1)).length : Int) ≥ a2.2))), [])) (none)) (cond (a2.1 == (3 : Int)) (some (.one (.bool (a0.2.2.1 == a1)), [])) (cond (a2.1 == (4 : Int)) (cond (d303 a0 a1) (some (.one (.bool (decide ((v303 a0 a1) ≥ a2.2))), [])) (none)) (some (.one (.bool true), [])))))))
def v255 (a0 : Ty.T y36) (a1 : Int) (a2 : Ty.T y104) : Bool := cond (!(v284 a2)) (false) (cond (!(v168 a0 a1)) (false) (cond (a2.1 == (1 : Int)) (optV ((a0.2.1)[(a1).toNat]?) false (fun x1 => decide (x1.1 <= a2.2))) (cond (a2.1 == (2 : Int)) (cond (d302 a0 a1) (decide ((((v302 a0 a1)).length : Int) ≥ a2.2)) (false)) (cond (a2.1 == (3 : Int)) ((a0.2.2.1 == a1)) (cond (a2.1 == (4 : Int)) (cond (d303 a0 a1) (decide ((v303 a0 a1) ≥ a2.2)) (false)) (true))))))
def d255 (a0 : Ty.T y36) (a1 : Int) (a2 : Ty.T y104) : Bool := cond (!(v284 a2)) (true) (cond (!(v168 a0 a1)) (true) (cond (a2.1 == (1 : Int)) (decide (0 <= a1) && (optD ((a0.2.1)[(a1).toNat]?) (fun x1 => true))) (cond (a2.1 == (2 : Int)) (cond (d302 a0 a1) (true) (false)) (cond (a2.1 == (3 : Int)) (true) (cond (a2.1 == (4 : Int)) (cond (d303 a0 a1) (true) (false)) (true))))))
theorem o255 (a0 : Ty.T y36) (a1 : Int) (a2 : Ty.T y104) : u255 a0 a1 a2 = cond (d255 a0 a1 a2) (some (f255 (v255 a0 a1 a2))) none := (pC (pS _) (pC (pS _) (pC (pI (pO fun x1 => (pS _))) (pC (pC (pS _) (pN _)) (pC (pS _) (pC (pC (pS _) (pN _)) (pS _)))))))
def p255 : Prim := ⟨[.agg [.dat y36 true], oI, .agg [.dat y104 true]], fun v => .br (d255 v.1 v.2.1 v.2.2.1) (.done (f255 (v255 v.1 v.2.1 v.2.2.1))) .no⟩
theorem ok255 : PO 255 p255 := pK E255 fun v => Eq.trans (b := u255 v.1 v.2.1 v.2.2.1) (by kernel_rfl) (o255 v.1 v.2.1 v.2.2.1)
def f341c1 (r : Bool) : AV × Sig := (.one (.bool r), [])
def E341c1 := E0
def u341c1 (a0 : Ty.T y63) (a1 : Int) : Option (AV × Sig) := some (.one (.bool (a0.1 == a1)), [])
def v341c1 (a0 : Ty.T y63) (a1 : Int) : Bool := (a0.1 == a1)
theorem o341c1 (a0 : Ty.T y63) (a1 : Int) : u341c1 a0 a1 = some (f341c1 (v341c1 a0 a1)) := rfl
def p341c1 : Prim := ⟨[.agg [.dat y63 true], .one (.ept (.int .i64))], fun v => .done (f341c1 (v341c1 v.1 v.2.1))⟩
theorem ok341c1 : PO 341 p341c1 := pK E341c1 fun v => Eq.trans (b := u341c1 v.1 v.2.1) (by kernel_rfl) (o341c1 v.1 v.2.1)
def f340c1 (r : Int) : AV × Sig := (.one (.int .i64 r), [])
def E340c1 := (E0.p ok341c1)
@[reducible] def ss340c1_0 : List SP := .one (.dat (.sl 64 y63) true) :: .one (.fnc 341 [(.int .i64)]) :: U2 (oI :: U2 (oI :: oI :: U8 (U2 ([]))))
@[reducible] def V340c1_0 : Type := (List (Ty.T y63)) × Int × Int × Int × Int × Unit
def t340c1_0 (v : V340c1_0) {Z : Type} (κ : Nat × V340c1_0 -> Option Z) : Option Z := cond (decide (v.2.2.2.2.1 < v.2.2.2.1)) (if 0 <= v.2.2.2.2.1 then (optC ((v.1)[(v.2.2.2.2.1).toNat]?) (fun x1 => cond (v341c1 x1 v.2.1) (κ (1, (v.1, v.2.1, v.2.2.2.2.1, v.2.2.2.1, v.2.2.2.2.1, ()))) (κ (0, (v.1, v.2.1, v.2.2.1, v.2.2.2.1, IntKind.wrap .i64 (v.2.2.2.2.1 + (1 : Int)), ()))))) else none) (κ (2, (v.1, v.2.1, v.2.2.1, v.2.2.2.1, v.2.2.2.2.1, ())))
def s340c1_0 (v : V340c1_0) : Option (Nat × V340c1_0) := t340c1_0 v some
def n340c1_0 (v : V340c1_0) : Nat := v.1.length + v.2.1.toNat + v.2.2.1.toNat + v.2.2.2.1.toNat + v.2.2.2.2.1.toNat + 100
def k340c1_0 (h0 : List (Ty.T y63)) (h1 : Int) (h2 : Int) (h3 : Int) (h4 : Int) (c : Nat) : Bool := iK s340c1_0 n340c1_0 (h0, h1, h2, h3, h4, ()) c
def w340c1_0 (h0 : List (Ty.T y63)) (h1 : Int) (h2 : Int) (h3 : Int) (h4 : Int) : V340c1_0 := iW s340c1_0 n340c1_0 (h0, h1, h2, h3, h4, ())
def F340c1_0 (v : V340c1_0) : Ways (Ex × St) := waysOf s340c1_0 (n340c1_0 v) v (bldSt ss340c1_0 gs116_0) [.ret, .exit 0] 0
theorem l340c1_0 : LoopOk Tryz.prog (loopAt (pb 3 5) (bodyOf Tryz.f340)) ss340c1_0 gs116_0 F340c1_0 := loopOk_iter (lt := .none) E340c1.ok orders (LtOk.no _) fun n v K => Eq.trans (b := t340c1_0 v (kont _ _ _ _ _ K)) (by kernel_rfl) (show t340c1_0 v _ = (t340c1_0 v some).bind _ from (bC (bI (bO fun x1 => (bC rfl rfl))) rfl))
def E340c1l := E340c1.l (g := 340) (t := (ltPut (pb 3 5) (bodyOf Tryz.f340) .none (.sum ss340c1_0 gs116_0 F340c1_0))) (ltOk_of Tryz.func340 (LtOk.put (wf_of (by kernel_rfl)) (LtOk.no _) l340c1_0))
def u340c1 (a0 : List (Ty.T y63)) (a1_0 : Int) : Option (AV × Sig) := cond (k340c1_0 a0 a1_0 0 ((a0).length : Int) 0 0) (some (.one (.int .i64 (w340c1_0 a0 a1_0 0 ((a0).length : Int) 0).2.2.1), [])) (cond (k340c1_0 a0 a1_0 0 ((a0).length : Int) 0 1) (some (.one (.int .i64 (-1)), [])) (none))
def v340c1 (a0 : List (Ty.T y63)) (a1_0 : Int) : Int := cond (k340c1_0 a0 a1_0 0 ((a0).length : Int) 0 0) ((w340c1_0 a0 a1_0 0 ((a0).length : Int) 0).2.2.1) (cond (k340c1_0 a0 a1_0 0 ((a0).length : Int) 0 1) ((-1)) (0))
def d340c1 (a0 : List (Ty.T y63)) (a1_0 : Int) : Bool := cond (k340c1_0 a0 a1_0 0 ((a0).length : Int) 0 0) (true) (cond (k340c1_0 a0 a1_0 0 ((a0).length : Int) 0 1) (true) (false))
theorem o340c1 (a0 : List (Ty.T y63)) (a1_0 : Int) : u340c1 a0 a1_0 = cond (d340c1 a0 a1_0) (some (f340c1 (v340c1 a0 a1_0))) none := (pC (pS _) (pC (pS _) (pN _)))
def p340c1 : Prim := ⟨[.one (.dat (.sl 64 y63) true), .one (.fnc 341 [(.int .i64)])], fun v => .br (d340c1 v.1 v.2.1) (.done (f340c1 (v340c1 v.1 v.2.1))) .no⟩
theorem ok340c1 : PO 340 p340c1 := pK E340c1l fun v => Eq.trans (b := u340c1 v.1 v.2.1) (by kernel_rfl) (o340c1 v.1 v.2.1)
def f326 (r : Int) : AV × Sig := (.one (.int .i64 r), [])
def E326 := (E0.p ok340c1)
def u326 (a0 : Ty.T y36) (a1 : Int) : Option (AV × Sig) := cond (d340c1 a0.1 a1) (some (.one (.int .i64 (v340c1 a0.1 a1)), [])) (none)
def v326 (a0 : Ty.T y36) (a1 : Int) : Int := cond (d340c1 a0.1 a1) ((v340c1 a0.1 a1)) (0)
def d326 (a0 : Ty.T y36) (a1 : Int) : Bool := cond (d340c1 a0.1 a1) (true) (false)
theorem o326 (a0 : Ty.T y36) (a1 : Int) : u326 a0 a1 = cond (d326 a0 a1) (some (f326 (v326 a0 a1))) none := (pC (pS _) (pN _))
def p326 : Prim := ⟨[.agg [.dat y36 true], oI], fun v => .br (d326 v.1 v.2.1) (.done (f326 (v326 v.1 v.2.1))) .no⟩
theorem ok326 : PO 326 p326 := pK E326 fun v => Eq.trans (b := u326 v.1 v.2.1) (by kernel_rfl) (o326 v.1 v.2.1)
def f292 (r : Int) : AV × Sig := (.one (.int .i64 r), [])
def E292 := ((E0.p ok168).p ok326)
def u292 (a0 : Ty.T y36) (a1 : Ty.T y27) : Option (AV × Sig) := cond (a1.2.2.1 == (0 : Int)) (cond (v168 a0 a1.2.2.2.1) (some (.one (.int .i64 a1.2.2.2.1), [])) (some (.one (.int .i64 (-1)), []))) (cond (d326 a0 a1.2.2.1) (cond (decide ((v326 a0 a1.2.2.1) < (0 : Int))) (some (.one (.int .i64 (-1)), [])) (if 0 <= (v326 a0 a1.2.2.1) then (optC ((a0.1)[(v326 a0 a1.2.2.1).toNat]?) (fun x1 => some (.one (.int .i64 x1.2.2.1), []))) else none)) (none))
def v292 (a0 : Ty.T y36) (a1 : Ty.T y27) : Int := cond (a1.2.2.1 == (0 : Int)) (cond (v168 a0 a1.2.2.2.1) (a1.2.2.2.1) ((-1))) (cond (d326 a0 a1.2.2.1) (cond (decide ((v326 a0 a1.2.2.1) < (0 : Int))) ((-1)) (optV ((a0.1)[(v326 a0 a1.2.2.1).toNat]?) 0 (fun x1 => x1.2.2.1))) (0))
def d292 (a0 : Ty.T y36) (a1 : Ty.T y27) : Bool := cond (a1.2.2.1 == (0 : Int)) (cond (v168 a0 a1.2.2.2.1) (true) (true)) (cond (d326 a0 a1.2.2.1) (cond (decide ((v326 a0 a1.2.2.1) < (0 : Int))) (true) (decide (0 <= (v326 a0 a1.2.2.1)) && (optD ((a0.1)[(v326 a0 a1.2.2.1).toNat]?) (fun x1 => true)))) (false))
theorem o292 (a0 : Ty.T y36) (a1 : Ty.T y27) : u292 a0 a1 = cond (d292 a0 a1) (some (f292 (v292 a0 a1))) none := (pC (pC (pS _) (pS _)) (pC (pC (pS _) (pI (pO fun x1 => (pS _)))) (pN _)))
def p292 : Prim := ⟨[.agg [.dat y36 true], .agg [.dat y27 true]], fun v => .br (d292 v.1 v.2.1) (.done (f292 (v292 v.1 v.2.1))) .no⟩
theorem ok292 : PO 292 p292 := pK E292 fun v => Eq.trans (b := u292 v.1 v.2.1) (by kernel_rfl) (o292 v.1 v.2.1)
def f304 (r : Bool) : AV × Sig := (.one (.bool r), [])
def E304 := (E0.p ok292)
def t304 (a0 : Ty.T y36) (a1 : Int) (a2 : Ty.T y102) (a3 : Ty.T y27) {Z : Type} (κ : Bool -> Option Z) : Option Z := cond (d292 a0 a3) (cond ((v292 a0 a3) == (-1 : Int)) (κ false) (cond (a2.2.1 == (1 : Int)) (cond ((v292 a0 a3) != a1) (κ false) (cond (a2.2.1 == (2 : Int)) (cond ((v292 a0 a3) == a1) (κ false) (cond (a2.2.2.2.2.1 == (0 : Int)) (κ true) (κ (a2.2.2.2.2.1 == a3.2.2.1)))) (cond (a2.2.2.2.2.1 == (0 : Int)) (κ true) (κ (a2.2.2.2.2.1 == a3.2.2.1))))) (cond (a2.2.1 == (2 : Int)) (cond ((v292 a0 a3) == a1) (κ false) (cond (a2.2.2.2.2.1 == (0 : Int)) (κ true) (κ (a2.2.2.2.2.1 == a3.2.2.1)))) (cond (a2.2.2.2.2.1 == (0 : Int)) (κ true) (κ (a2.2.2.2.2.1 == a3.2.2.1)))))) (none)
def v304 (a0 : Ty.T y36) (a1 : Int) (a2 : Ty.T y102) (a3 : Ty.T y27) : Bool := (t304 a0 a1 a2 a3 some).getD false
def d304 (a0 : Ty.T y36) (a1 : Int) (a2 : Ty.T y102) (a3 : Ty.T y27) : Bool := (t304 a0 a1 a2 a3 some).isSome
def p304 : Prim := ⟨[.agg [.dat y36 true], oI, .agg [.dat y102 true], .agg [.dat y27 true]], fun v => .br (d304 v.1 v.2.1 v.2.2.1 v.2.2.2.1) (.done (f304 (v304 v.1 v.2.1 v.2.2.1 v.2.2.2.1))) .no⟩
theorem ok304 : PO 304 p304 := pK E304 fun v => Eq.trans (b := (t304 v.1 v.2.1 v.2.2.1 v.2.2.2.1 (sm f304))) (by kernel_rfl) (run_fin (show t304 v.1 v.2.1 v.2.2.1 v.2.2.2.1 (sm f304) = (t304 v.1 v.2.1 v.2.2.1 v.2.2.2.1 some).bind _ from by unfold t304; simp only [bb]))
def f329 (r : (Ty.T y63)) : AV × Sig := (.agg (y63.cells false r), [])
def E329 := (E0.p ok326)
def t329 (a0 : Ty.T y36) (a1 : Ty.T y27) {Z : Type} (κ : (Ty.T y63) -> Option Z) : Option Z := cond (d326 a0 a1.2.1) (cond (a1.1 != (1 : Int)) (κ (0, 0, 0, 0, 0, 0, 0, 0, 0, 0, 0, false, false)) (cond (decide ((v326 a0 a1.2.1) < (0 : Int))) (κ (0, 0, 0, 0, 0, 0, 0, 0, 0, 0, 0, false, false)) (if 0 <= (v326 a0 a1.2.1) then (optC ((a0.1)[(v326 a0 a1.2.1).toNat]?) (fun x1 => κ x1)) else none))) (none)
def v329 (a0 : Ty.T y36) (a1 : Ty.T y27) : (Ty.T y63) := (t329 a0 a1 some).getD (Ty.zero y63)
def d329 (a0 : Ty.T y36) (a1 : Ty.T y27) : Bool := (t329 a0 a1 some).isSome
def p329 : Prim := ⟨[.agg [.dat y36 true], .agg [.dat y27 true]], fun v => .br (d329 v.1 v.2.1) (.done (f329 (v329 v.1 v.2.1))) .no⟩
theorem ok329 : PO 329 p329 := pK E329 fun v => Eq.trans (b := (t329 v.1 v.2.1 (sm f329))) (by kernel_rfl) (run_fin (show t329 v.1 v.2.1 (sm f329) = (t329 v.1 v.2.1 some).bind _ from (bC (bC rfl (bC rfl (bI (bO fun x1 => rfl)))) rfl)))
def f305 (r : Bool) : AV × Sig := (.one (.bool r), [])
def E305 := (E0.p ok329)
def u305 (a0 : Ty.T y36) (a1 : Ty.T y102) (a2 : Ty.T y27) : Option (AV × Sig) := cond (a1.2.2.1 == (0 : Int)) (cond (d329 a0 a2) (some (.one (.bool ((IntKind.wrap .i64 ((BitVec.ofInt (IntKind.bits .i64) (v329 a0 a2).2.2.2.2.2.2.2.1 &&& BitVec.ofInt (IntKind.bits .i64) a1.2.2.2.1).toNat : Int)) == a1.2.2.2.1)), [])) (none)) (cond (a1.2.2.1 == a2.2.1) (cond (d329 a0 a2) (some (.one (.bool ((IntKind.wrap .i64 ((BitVec.ofInt (IntKind.bits .i64) (v329 a0 a2).2.2.2.2.2.2.2.1 &&& BitVec.ofInt (IntKind.bits .i64) a1.2.2.2.1).toNat : Int)) == a1.2.2.2.1)), [])) (none)) (some (.one (.bool false), [])))
def v305 (a0 : Ty.T y36) (a1 : Ty.T y102) (a2 : Ty.T y27) : Bool := cond (a1.2.2.1 == (0 : Int)) (cond (d329 a0 a2) (((IntKind.wrap .i64 ((BitVec.ofInt (IntKind.bits .i64) (v329 a0 a2).2.2.2.2.2.2.2.1 &&& BitVec.ofInt (IntKind.bits .i64) a1.2.2.2.1).toNat : Int)) == a1.2.2.2.1)) (false)) (cond (a1.2.2.1 == a2.2.1) (cond (d329 a0 a2) (((IntKind.wrap .i64 ((BitVec.ofInt (IntKind.bits .i64) (v329 a0 a2).2.2.2.2.2.2.2.1 &&& BitVec.ofInt (IntKind.bits .i64) a1.2.2.2.1).toNat : Int)) == a1.2.2.2.1)) (false)) (false))
def d305 (a0 : Ty.T y36) (a1 : Ty.T y102) (a2 : Ty.T y27) : Bool := cond (a1.2.2.1 == (0 : Int)) (cond (d329 a0 a2) (true) (false)) (cond (a1.2.2.1 == a2.2.1) (cond (d329 a0 a2) (true) (false)) (true))
theorem o305 (a0 : Ty.T y36) (a1 : Ty.T y102) (a2 : Ty.T y27) : u305 a0 a1 a2 = cond (d305 a0 a1 a2) (some (f305 (v305 a0 a1 a2))) none := (pC (pC (pS _) (pN _)) (pC (pC (pS _) (pN _)) (pS _)))
def p305 : Prim := ⟨[.agg [.dat y36 true], .agg [.dat y102 true], .agg [.dat y27 true]], fun v => .br (d305 v.1 v.2.1 v.2.2.1) (.done (f305 (v305 v.1 v.2.1 v.2.2.1))) .no⟩
theorem ok305 : PO 305 p305 := pK E305 fun v => Eq.trans (b := u305 v.1 v.2.1 v.2.2.1) (by kernel_rfl) (o305 v.1 v.2.1 v.2.2.1)
def f256 (r : Bool) : AV × Sig := (.one (.bool r), [])
def E256 := ((((E0.p ok283).p ok304).p ok305).p ok53)
def u256 (a0 : Ty.T y36) (a1 : Int) (a2 : Ty.T y102) (a3 : Ty.T y27) : Option (AV × Sig) := cond (v283 a2) (cond (v53 a3) (cond (a2.1 == a3.1) (cond (d304 a0 a1 a2 a3) (cond (v304 a0 a1 a2 a3) (cond (d305 a0 a2 a3) (cond (v305 a0 a2 a3) (cond (decide (a3.2.2.2.2.1 ≥ a2.2.2.2.2.2.1)) (cond (a2.2.2.2.2.2.2 == (0 : Int)) (some (.one (.bool true), [])) (some (.one (.bool (a2.2.2.2.2.2.2 == a3.2.2.2.2.2.1)), []))) (some (.one (.bool false), []))) (some (.one (.bool false), []))) (none)) (some (.one (.bool false), []))) (none)) (some (.one (.bool false), []))) (some (.one (.bool false), []))) (some (.one (.bool false), []))
def v256 (a0 : Ty.T y36) (a1 : Int) (a2 : Ty.T y102) (a3 : Ty.T y27) : Bool := cond (v283 a2) (cond (v53 a3) (cond (a2.1 == a3.1) (cond (d304 a0 a1 a2 a3) (cond (v304 a0 a1 a2 a3) (cond (d305 a0 a2 a3) (cond (v305 a0 a2 a3) (cond (decide (a3.2.2.2.2.1 ≥ a2.2.2.2.2.2.1)) (cond (a2.2.2.2.2.2.2 == (0 : Int)) (true) ((a2.2.2.2.2.2.2 == a3.2.2.2.2.2.1))) (false)) (false)) (false)) (false)) (false)) (false)) (false)) (false)
def d256 (a0 : Ty.T y36) (a1 : Int) (a2 : Ty.T y102) (a3 : Ty.T y27) : Bool := cond (v283 a2) (cond (v53 a3) (cond (a2.1 == a3.1) (cond (d304 a0 a1 a2 a3) (cond (v304 a0 a1 a2 a3) (cond (d305 a0 a2 a3) (cond (v305 a0 a2 a3) (cond (decide (a3.2.2.2.2.1 ≥ a2.2.2.2.2.2.1)) (cond (a2.2.2.2.2.2.2 == (0 : Int)) (true) (true)) (true)) (true)) (false)) (true)) (false)) (true)) (true)) (true)
theorem o256 (a0 : Ty.T y36) (a1 : Int) (a2 : Ty.T y102) (a3 : Ty.T y27) : u256 a0 a1 a2 a3 = cond (d256 a0 a1 a2 a3) (some (f256 (v256 a0 a1 a2 a3))) none := (pC (pC (pC (pC (pC (pC (pC (pC (pC (pS _) (pS _)) (pS _)) (pS _)) (pN _)) (pS _)) (pN _)) (pS _)) (pS _)) (pS _))
def p256 : Prim := ⟨[.agg [.dat y36 true], oI, .agg [.dat y102 true], .agg [.dat y27 true]], fun v => .br (d256 v.1 v.2.1 v.2.2.1 v.2.2.2.1) (.done (f256 (v256 v.1 v.2.1 v.2.2.1 v.2.2.2.1))) .no⟩
theorem ok256 : PO 256 p256 := pK E256 fun v => Eq.trans (b := u256 v.1 v.2.1 v.2.2.1 v.2.2.2.1) (by kernel_rfl) (o256 v.1 v.2.1 v.2.2.1 v.2.2.2.1)
def f182 (r : Bool) : AV × Sig := (.one (.bool r), [])
def E182 := (((((E0.p ok227).p ok253).p ok254).p ok255).p ok256)
def u182 (a0 : Ty.T y36) (a1 : Ty.T y108) (a2 : Ty.T y27) : Option (AV × Sig) := cond (d227 a1) (cond (v227 a1) (cond (v253 a1 a0.2.2.2) (cond (v254 a1 a2) (cond (d255 a0 a1.2.1 a1.2.2.2.2.2.1) (cond (v255 a0 a1.2.1 a1.2.2.2.2.2.1) (cond (d256 a0 a1.2.1 a1.2.2.2.2.1 a2) (some (.one (.bool (v256 a0 a1.2.1 a1.2.2.2.2.1 a2)), [])) (none)) (some (.one (.bool false), []))) (none)) (some (.one (.bool false), []))) (some (.one (.bool false), []))) (some (.one (.bool false), []))) (none)
def v182 (a0 : Ty.T y36) (a1 : Ty.T y108) (a2 : Ty.T y27) : Bool := cond (d227 a1) (cond (v227 a1) (cond (v253 a1 a0.2.2.2) (cond (v254 a1 a2) (cond (d255 a0 a1.2.1 a1.2.2.2.2.2.1) (cond (v255 a0 a1.2.1 a1.2.2.2.2.2.1) (cond (d256 a0 a1.2.1 a1.2.2.2.2.1 a2) ((v256 a0 a1.2.1 a1.2.2.2.2.1 a2)) (false)) (false)) (false)) (false)) (false)) (false)) (false)
def d182 (a0 : Ty.T y36) (a1 : Ty.T y108) (a2 : Ty.T y27) : Bool := cond (d227 a1) (cond (v227 a1) (cond (v253 a1 a0.2.2.2) (cond (v254 a1 a2) (cond (d255 a0 a1.2.1 a1.2.2.2.2.2.1) (cond (v255 a0 a1.2.1 a1.2.2.2.2.2.1) (cond (d256 a0 a1.2.1 a1.2.2.2.2.1 a2) (true) (false)) (true)) (false)) (true)) (true)) (true)) (false)
theorem o182 (a0 : Ty.T y36) (a1 : Ty.T y108) (a2 : Ty.T y27) : u182 a0 a1 a2 = cond (d182 a0 a1 a2) (some (f182 (v182 a0 a1 a2))) none := (pC (pC (pC (pC (pC (pC (pC (pS _) (pN _)) (pS _)) (pN _)) (pS _)) (pS _)) (pS _)) (pN _))
def p182 : Prim := ⟨[.agg [.dat y36 true], .agg [.dat y108 true], .agg [.dat y27 true]], fun v => .br (d182 v.1 v.2.1 v.2.2.1) (.done (f182 (v182 v.1 v.2.1 v.2.2.1))) .no⟩
theorem ok182 : PO 182 p182 := pK E182 fun v => Eq.trans (b := u182 v.1 v.2.1 v.2.2.1) (by kernel_rfl) (o182 v.1 v.2.1 v.2.2.1)
def f76 (r : (List (Ty.T (.int .i64)))) : AV × Sig := (.one (.sl 4096), [(4096, .arr 3 (.int .i64) r false)])
def E76 := ((E0.p ok182).p ok75)
@[reducible] def ss76_0 : List SP := U2 (.und :: .one (.dat (.sl 3 (.int .i64)) true) :: .one (.ptr 4 0) :: .und :: .one (.ptr 6 0) :: .und :: .one (.dat (.sl 3 (.int .i64)) false) :: .one (.own 13) :: oI :: U2 (.und :: .one (.dat (.sl 109 y108) true) :: oI :: oI :: U32 (U4 (U2 ([])))))
@[reducible] def gs76_0 : List (Nat × GP) := [(4, .box 37 [.dat y36 true]), (6, .box 41 [.dat y27 false]), (13, .arr 3 (.int .i64) false)]
@[reducible] def V76_0 : Type := (List (Ty.T (.int .i64))) × (List (Ty.T (.int .i64))) × Int × (List (Ty.T y108)) × Int × Int × (Ty.T y36) × (Ty.T y27) × (List (Ty.T (.int .i64))) × Unit
def t76_0 (v : V76_0) {Z : Type} (κ : Nat × V76_0 -> Option Z) : Option Z := cond (decide (v.2.2.2.2.2.1 < v.2.2.2.2.1)) (if 0 <= v.2.2.2.2.2.1 then (optC ((v.2.2.2.1)[(v.2.2.2.2.2.1).toNat]?) (fun x1 => cond (d75 v.1 x1.1) (cond (v75 v.1 x1.1) (κ (0, (v.1, v.2.1, v.2.2.1, v.2.2.2.1, v.2.2.2.2.1, IntKind.wrap .i64 (v.2.2.2.2.2.1 + (1 : Int)), v.2.2.2.2.2.2.1, v.2.2.2.2.2.2.2.1, v.2.2.2.2.2.2.2.2.1, ()))) (cond (d182 v.2.2.2.2.2.2.1 x1 v.2.2.2.2.2.2.2.1) (cond (!(v182 v.2.2.2.2.2.2.1 x1 v.2.2.2.2.2.2.2.1)) (κ (0, (v.1, v.2.1, v.2.2.1, v.2.2.2.1, v.2.2.2.2.1, IntKind.wrap .i64 (v.2.2.2.2.2.1 + (1 : Int)), v.2.2.2.2.2.2.1, v.2.2.2.2.2.2.2.1, v.2.2.2.2.2.2.2.2.1, ()))) (cond (((v.2.2.2.2.2.2.2.2.1).length : Int) == (0 : Int)) (if (0 : Int) <= ((v.2.2.2.2.2.2.2.2.1).length : Int) then (cond (x1.2.2.2.1 == x1.2.2.2.1) (if ((((v.2.2.2.2.2.2.2.2.1).drop 0).take 0) ++ [x1.1] : List (Ty.T (.int .i64))).length * 8 <= 140737488351232 then (κ (0, (v.1, v.2.1, x1.2.2.2.1, v.2.2.2.1, v.2.2.2.2.1, IntKind.wrap .i64 (v.2.2.2.2.2.1 + (1 : Int)), v.2.2.2.2.2.2.1, v.2.2.2.2.2.2.2.1, (((v.2.2.2.2.2.2.2.2.1).drop 0).take 0) ++ [x1.1], ()))) else none) (κ (0, (v.1, v.2.1, x1.2.2.2.1, v.2.2.2.1, v.2.2.2.2.1, IntKind.wrap .i64 (v.2.2.2.2.2.1 + (1 : Int)), v.2.2.2.2.2.2.1, v.2.2.2.2.2.2.2.1, v.2.2.2.2.2.2.2.2.1.take 0, ())))) else none) (cond (decide (x1.2.2.2.1 < v.2.2.1)) (if (0 : Int) <= ((v.2.2.2.2.2.2.2.2.1).length : Int) then (cond (x1.2.2.2.1 == x1.2.2.2.1) (if ((((v.2.2.2.2.2.2.2.2.1).drop 0).take 0) ++ [x1.1] : List (Ty.T (.int .i64))).length * 8 <= 140737488351232 then (κ (0, (v.1, v.2.1, x1.2.2.2.1, v.2.2.2.1, v.2.2.2.2.1, IntKind.wrap .i64 (v.2.2.2.2.2.1 + (1 : Int)), v.2.2.2.2.2.2.1, v.2.2.2.2.2.2.2.1, (((v.2.2.2.2.2.2.2.2.1).drop 0).take 0) ++ [x1.1], ()))) else none) (κ (0, (v.1, v.2.1, x1.2.2.2.1, v.2.2.2.1, v.2.2.2.2.1, IntKind.wrap .i64 (v.2.2.2.2.2.1 + (1 : Int)), v.2.2.2.2.2.2.1, v.2.2.2.2.2.2.2.1, v.2.2.2.2.2.2.2.2.1.take 0, ())))) else none) (cond (x1.2.2.2.1 == v.2.2.1) (if (v.2.2.2.2.2.2.2.2.1 ++ [x1.1] : List (Ty.T (.int .i64))).length * 8 <= 140737488351232 then (κ (0, (v.1, v.2.1, v.2.2.1, v.2.2.2.1, v.2.2.2.2.1, IntKind.wrap .i64 (v.2.2.2.2.2.1 + (1 : Int)), v.2.2.2.2.2.2.1, v.2.2.2.2.2.2.2.1, v.2.2.2.2.2.2.2.2.1 ++ [x1.1], ()))) else none) (κ (0, (v.1, v.2.1, v.2.2.1, v.2.2.2.1, v.2.2.2.2.1, IntKind.wrap .i64 (v.2.2.2.2.2.1 + (1 : Int)), v.2.2.2.2.2.2.1, v.2.2.2.2.2.2.2.1, v.2.2.2.2.2.2.2.2.1, ()))))))) (none))) (none))) else none) (κ (1, (v.1, v.2.1, v.2.2.1, v.2.2.2.1, v.2.2.2.2.1, v.2.2.2.2.2.1, v.2.2.2.2.2.2.1, v.2.2.2.2.2.2.2.1, v.2.2.2.2.2.2.2.2.1, ())))
def s76_0 (v : V76_0) : Option (Nat × V76_0) := t76_0 v some
def n76_0 (v : V76_0) : Nat := v.1.length + v.2.1.length + v.2.2.1.toNat + v.2.2.2.1.length + v.2.2.2.2.1.toNat + v.2.2.2.2.2.1.toNat + v.2.2.2.2.2.2.1.1.length + v.2.2.2.2.2.2.1.2.1.length + v.2.2.2.2.2.2.2.2.1.length + 100
def k76_0 (h0 : List (Ty.T (.int .i64))) (h1 : List (Ty.T (.int .i64))) (h2 : Int) (h3 : List (Ty.T y108)) (h4 : Int) (h5 : Int) (h6 : Ty.T y36) (h7 : Ty.T y27) (h8 : List (Ty.T (.int .i64))) (c : Nat) : Bool := iK s76_0 n76_0 (h0, h1, h2, h3, h4, h5, h6, h7, h8, ()) c
def w76_0 (h0 : List (Ty.T (.int .i64))) (h1 : List (Ty.T (.int .i64))) (h2 : Int) (h3 : List (Ty.T y108)) (h4 : Int) (h5 : Int) (h6 : Ty.T y36) (h7 : Ty.T y27) (h8 : List (Ty.T (.int .i64))) : V76_0 := iW s76_0 n76_0 (h0, h1, h2, h3, h4, h5, h6, h7, h8, ())
def F76_0 (v : V76_0) : Ways (Ex × St) := waysOf s76_0 (n76_0 v) v (bldSt ss76_0 gs76_0) [.exit 0] 0
theorem l76_0 : LoopOk Tryz.prog (loopAt (pb 5 23) (bodyOf Tryz.f76)) ss76_0 gs76_0 F76_0 := loopOk_iter (lt := .none) E76.ok orders (LtOk.no _) fun n v K => Eq.trans (b := t76_0 v (kont _ _ _ _ _ K)) (by kernel_rfl) (show t76_0 v _ = (t76_0 v some).bind _ from (bC (bI (bO fun x1 => (bC (bC rfl (bC (bC rfl (bC (bI (bC (bI rfl) rfl)) (bC (bI (bC (bI rfl) rfl)) (bC (bI rfl) rfl)))) rfl)) rfl))) rfl))
def E76l := E76.l (g := 76) (t := (ltPut (pb 5 23) (bodyOf Tryz.f76) .none (.sum ss76_0 gs76_0 F76_0))) (ltOk_of Tryz.func76 (LtOk.put (wf_of (by kernel_rfl)) (LtOk.no _) l76_0))
def u76 (a0 : Ty.T y36) (a1 : List (Ty.T y108)) (a2 : Ty.T y27) (a3 : List (Ty.T (.int .i64))) : Option (AV × Sig) := cond (k76_0 a3 [] 0 a1 ((a1).length : Int) 0 a0 a2 [] 0) (some (.one (.sl 4096), [(4096, .arr 3 (.int .i64) (w76_0 a3 [] 0 a1 ((a1).length : Int) 0 a0 a2 []).2.2.2.2.2.2.2.2.1 false)])) (none)
def v76 (a0 : Ty.T y36) (a1 : List (Ty.T y108)) (a2 : Ty.T y27) (a3 : List (Ty.T (.int .i64))) : (List (Ty.T (.int .i64))) := cond (k76_0 a3 [] 0 a1 ((a1).length : Int) 0 a0 a2 [] 0) ((w76_0 a3 [] 0 a1 ((a1).length : Int) 0 a0 a2 []).2.2.2.2.2.2.2.2.1) ([])
def d76 (a0 : Ty.T y36) (a1 : List (Ty.T y108)) (a2 : Ty.T y27) (a3 : List (Ty.T (.int .i64))) : Bool := cond (k76_0 a3 [] 0 a1 ((a1).length : Int) 0 a0 a2 [] 0) (true) (false)
theorem o76 (a0 : Ty.T y36) (a1 : List (Ty.T y108)) (a2 : Ty.T y27) (a3 : List (Ty.T (.int .i64))) : u76 a0 a1 a2 a3 = cond (d76 a0 a1 a2 a3) (some (f76 (v76 a0 a1 a2 a3))) none := (pC (pS _) (pN _))
def p76 : Prim := ⟨[.agg [.dat y36 true], .one (.dat (.sl 109 y108) true), .agg [.dat y27 true], .one (.dat (.sl 3 (.int .i64)) true)], fun v => .br (d76 v.1 v.2.1 v.2.2.1 v.2.2.2.1) (.done (f76 (v76 v.1 v.2.1 v.2.2.1 v.2.2.2.1))) .no⟩
theorem ok76 : PO 76 p76 := pK E76l fun v => Eq.trans (b := u76 v.1 v.2.1 v.2.2.1 v.2.2.2.1) (by kernel_rfl) (o76 v.1 v.2.1 v.2.2.1 v.2.2.2.1)
def f54 (r : Bool) : AV × Sig := (.one (.bool r), [])
def E54 := E0
def u54 (a0 : Ty.T y27) : Option (AV × Sig) := cond (a0.2.2.2.2.1 == (0 : Int)) (some (.one (.bool (a0.1 != (2 : Int))), [])) (some (.one (.bool false), []))
def v54 (a0 : Ty.T y27) : Bool := cond (a0.2.2.2.2.1 == (0 : Int)) ((a0.1 != (2 : Int))) (false)
theorem o54 (a0 : Ty.T y27) : u54 a0 = some (f54 (v54 a0)) := (tC rfl rfl)
def p54 : Prim := ⟨[.agg [.dat y27 true]], fun v => .done (f54 (v54 v.1))⟩
theorem ok54 : PO 54 p54 := pK E54 fun v => Eq.trans (b := u54 v.1) (by kernel_rfl) (o54 v.1)
def f138 (r : Int × (List (Ty.T (.int .i64)))) : AV × Sig := (.tup [(false, ([.int .i64 r.1])), (false, ([.sl 8192]))], [(8192, .arr 3 (.int .i64) r.2 false)])
def E138 := (E0.p ok135)
def t138 (a0 : List (Ty.T (.int .i64))) (a1 : Int) {Z : Type} (κ : Int × (List (Ty.T (.int .i64))) -> Option Z) : Option Z := cond (decide (a1 < (2 : Int))) (cond (d135 a0) (κ (0, (v135 a0))) (none)) (cond (((a0).length : Int) == (0 : Int)) (cond (d135 a0) (κ (0, (v135 a0))) (none)) (optC ((a0)[0]?) (fun x1 => if a1 = 0 then none else (cond (decide ((Int.tmod x1 a1) < (0 : Int))) (if (1 : Int) <= ((a0).length : Int) then (cond (d135 ((a0.take ((a0).length)).drop 1)) (κ (IntKind.wrap .i64 ((Int.tmod x1 a1) + a1), (v135 ((a0.take ((a0).length)).drop 1)))) (none)) else none) (if (1 : Int) <= ((a0).length : Int) then (cond (d135 ((a0.take ((a0).length)).drop 1)) (κ (Int.tmod x1 a1, (v135 ((a0.take ((a0).length)).drop 1)))) (none)) else none)))))
def v138 (a0 : List (Ty.T (.int .i64))) (a1 : Int) : Int × (List (Ty.T (.int .i64))) := (t138 a0 a1 some).getD (0, [])
def d138 (a0 : List (Ty.T (.int .i64))) (a1 : Int) : Bool := (t138 a0 a1 some).isSome
def p138 : Prim := ⟨[.one (.dat (.sl 3 (.int .i64)) true), oI], fun v => .br (d138 v.1 v.2.1) (.done (f138 (v138 v.1 v.2.1))) .no⟩
theorem ok138 : PO 138 p138 := pK E138 fun v => Eq.trans (b := (t138 v.1 v.2.1 (sm f138))) (by kernel_rfl) (run_fin (show t138 v.1 v.2.1 (sm f138) = (t138 v.1 v.2.1 some).bind _ from by unfold t138; simp only [bb]))
def f137g1 (r : Int × Bool × (Ty.T y36) × (List (Ty.T y27)) × (List (Ty.T y108)) × (List (Ty.T (.int .i64))) × (List (Ty.T y66))) : AV × Sig := (.tup [(false, ([.int .i64 r.1])), (false, ([.bool r.2.1]))], [(4294967296, .box 165 ([.ptr 4294967297 0 0])), (4294967297, .box 169 ((y36.cells true r.2.2.1) ++ [.sl 17055744] ++ [.sl 17059840] ++ [.sl 17063936] ++ [.sl 17068032] ++ [.fnp 137 [4294967296]] ++ [.fn 139 []])), (17055744, .arr 41 y27 r.2.2.2.1 false), (17059840, .arr 109 y108 r.2.2.2.2.1 false), (17063936, .arr 3 (.int .i64) r.2.2.2.2.2.1 false), (17068032, .arr 67 y66 r.2.2.2.2.2.2 false)])
def E137g1 := (E0.p ok138)
def t137g1 (a0 : Int) (a1 : Ty.T y36) (a2 : List (Ty.T y27)) (a3 : List (Ty.T y108)) (a4 : List (Ty.T (.int .i64))) (a5 : List (Ty.T y66)) {Z : Type} (κ : Int × Bool × (Ty.T y36) × (List (Ty.T y27)) × (List (Ty.T y108)) × (List (Ty.T (.int .i64))) × (List (Ty.T y66)) -> Option Z) : Option Z := cond (d138 a4 a0) (κ ((v138 a4 a0).1, true, a1, a2, a3, (v138 a4 a0).2, a5)) (none)
def v137g1 (a0 : Int) (a1 : Ty.T y36) (a2 : List (Ty.T y27)) (a3 : List (Ty.T y108)) (a4 : List (Ty.T (.int .i64))) (a5 : List (Ty.T y66)) : Int × Bool × (Ty.T y36) × (List (Ty.T y27)) × (List (Ty.T y108)) × (List (Ty.T (.int .i64))) × (List (Ty.T y66)) := (t137g1 a0 a1 a2 a3 a4 a5 some).getD (0, false, (Ty.zero y36), [], [], [], [])
def d137g1 (a0 : Int) (a1 : Ty.T y36) (a2 : List (Ty.T y27)) (a3 : List (Ty.T y108)) (a4 : List (Ty.T (.int .i64))) (a5 : List (Ty.T y66)) : Bool := (t137g1 a0 a1 a2 a3 a4 a5 some).isSome
def p137g1 : Gen := ⟨[false, false], [oI, .one (.ptr 4294967296 0)], [(4294967296, .box 165 [.ptr 4294967297 0]), (4294967297, .box 169 [.dat y36 true, .own 17055744, .own 17059840, .own 17063936, .own 17068032, .fnp 137 [4294967296], .fnc 139 []]), (17055744, .arr 41 y27 false), (17059840, .arr 109 y108 false), (17063936, .arr 3 (.int .i64) false), (17068032, .arr 67 y66 false)], fun v => .br (d137g1 v.1 v.2.1 v.2.2.1 v.2.2.2.1 v.2.2.2.2.1 v.2.2.2.2.2.1) (.done (f137g1 (v137g1 v.1 v.2.1 v.2.2.1 v.2.2.2.1 v.2.2.2.2.1 v.2.2.2.2.2.1))) .no⟩
theorem ok137g1 : GenOk Tryz.prog 137 p137g1 := genOk_eq E137g1.ok orders (wf_of (by kernel_rfl)) ⟨Tryz.f137, bodyOf Tryz.f137, by kernel_rfl, by kernel_rfl⟩ fun v => Eq.trans (b := (t137g1 v.1 v.2.1 v.2.2.1 v.2.2.2.1 v.2.2.2.2.1 v.2.2.2.2.2.1 (sm f137g1))) (by kernel_rfl) (run_fin (show t137g1 v.1 v.2.1 v.2.2.1 v.2.2.2.1 v.2.2.2.2.1 v.2.2.2.2.2.1 (sm f137g1) = (t137g1 v.1 v.2.1 v.2.2.1 v.2.2.2.1 v.2.2.2.2.1 v.2.2.2.2.2.1 some).bind _ from (bC rfl rfl)))
def f291c1 (r : Bool) : AV × Sig := (.one (.bool r), [])
def E291c1 := E0
def u291c1 (a0 : Ty.T y108) (a1 : Int) : Option (AV × Sig) := some (.one (.bool (a0.1 == a1)), [])
def v291c1 (a0 : Ty.T y108) (a1 : Int) : Bool := (a0.1 == a1)
theorem o291c1 (a0 : Ty.T y108) (a1 : Int) : u291c1 a0 a1 = some (f291c1 (v291c1 a0 a1)) := rfl
def p291c1 : Prim := ⟨[.agg [.dat y108 true], .one (.ept (.int .i64))], fun v => .done (f291c1 (v291c1 v.1 v.2.1))⟩
theorem ok291c1 : PO 291 p291c1 := pK E291c1 fun v => Eq.trans (b := u291c1 v.1 v.2.1) (by kernel_rfl) (o291c1 v.1 v.2.1)
def f290c1 (r : Int) : AV × Sig := (.one (.int .i64 r), [])
def E290c1 := (E0.p ok291c1)
@[reducible] def ss290c1_0 : List SP := .one (.dat (.sl 109 y108) true) :: .one (.fnc 291 [(.int .i64)]) :: U2 (oI :: U2 (oI :: oI :: U8 (U2 ([]))))
@[reducible] def V290c1_0 : Type := (List (Ty.T y108)) × Int × Int × Int × Int × Unit
def t290c1_0 (v : V290c1_0) {Z : Type} (κ : Nat × V290c1_0 -> Option Z) : Option Z := cond (decide (v.2.2.2.2.1 < v.2.2.2.1)) (if 0 <= v.2.2.2.2.1 then (optC ((v.1)[(v.2.2.2.2.1).toNat]?) (fun x1 => cond (v291c1 x1 v.2.1) (κ (1, (v.1, v.2.1, v.2.2.2.2.1, v.2.2.2.1, v.2.2.2.2.1, ()))) (κ (0, (v.1, v.2.1, v.2.2.1, v.2.2.2.1, IntKind.wrap .i64 (v.2.2.2.2.1 + (1 : Int)), ()))))) else none) (κ (2, (v.1, v.2.1, v.2.2.1, v.2.2.2.1, v.2.2.2.2.1, ())))
def s290c1_0 (v : V290c1_0) : Option (Nat × V290c1_0) := t290c1_0 v some
def n290c1_0 (v : V290c1_0) : Nat := v.1.length + v.2.1.toNat + v.2.2.1.toNat + v.2.2.2.1.toNat + v.2.2.2.2.1.toNat + 100
def k290c1_0 (h0 : List (Ty.T y108)) (h1 : Int) (h2 : Int) (h3 : Int) (h4 : Int) (c : Nat) : Bool := iK s290c1_0 n290c1_0 (h0, h1, h2, h3, h4, ()) c
def w290c1_0 (h0 : List (Ty.T y108)) (h1 : Int) (h2 : Int) (h3 : Int) (h4 : Int) : V290c1_0 := iW s290c1_0 n290c1_0 (h0, h1, h2, h3, h4, ())
def F290c1_0 (v : V290c1_0) : Ways (Ex × St) := waysOf s290c1_0 (n290c1_0 v) v (bldSt ss290c1_0 gs116_0) [.ret, .exit 0] 0
theorem l290c1_0 : LoopOk Tryz.prog (loopAt (pb 3 5) (bodyOf Tryz.f290)) ss290c1_0 gs116_0 F290c1_0 := loopOk_iter (lt := .none) E290c1.ok orders (LtOk.no _) fun n v K => Eq.trans (b := t290c1_0 v (kont _ _ _ _ _ K)) (by kernel_rfl) (show t290c1_0 v _ = (t290c1_0 v some).bind _ from (bC (bI (bO fun x1 => (bC rfl rfl))) rfl))
def E290c1l := E290c1.l (g := 290) (t := (ltPut (pb 3 5) (bodyOf Tryz.f290) .none (.sum ss290c1_0 gs116_0 F290c1_0))) (ltOk_of Tryz.func290 (LtOk.put (wf_of (by kernel_rfl)) (LtOk.no _) l290c1_0))
def u290c1 (a0 : List (Ty.T y108)) (a1_0 : Int) : Option (AV × Sig) := cond (k290c1_0 a0 a1_0 0 ((a0).length : Int) 0 0) (some (.one (.int .i64 (w290c1_0 a0 a1_0 0 ((a0).length : Int) 0).2.2.1), [])) (cond (k290c1_0 a0 a1_0 0 ((a0).length : Int) 0 1) (some (.one (.int .i64 (-1)), [])) (none))
def v290c1 (a0 : List (Ty.T y108)) (a1_0 : Int) : Int := cond (k290c1_0 a0 a1_0 0 ((a0).length : Int) 0 0) ((w290c1_0 a0 a1_0 0 ((a0).length : Int) 0).2.2.1) (cond (k290c1_0 a0 a1_0 0 ((a0).length : Int) 0 1) ((-1)) (0))
def d290c1 (a0 : List (Ty.T y108)) (a1_0 : Int) : Bool := cond (k290c1_0 a0 a1_0 0 ((a0).length : Int) 0 0) (true) (cond (k290c1_0 a0 a1_0 0 ((a0).length : Int) 0 1) (true) (false))
theorem o290c1 (a0 : List (Ty.T y108)) (a1_0 : Int) : u290c1 a0 a1_0 = cond (d290c1 a0 a1_0) (some (f290c1 (v290c1 a0 a1_0))) none := (pC (pS _) (pC (pS _) (pN _)))
def p290c1 : Prim := ⟨[.one (.dat (.sl 109 y108) true), .one (.fnc 291 [(.int .i64)])], fun v => .br (d290c1 v.1 v.2.1) (.done (f290c1 (v290c1 v.1 v.2.1))) .no⟩
theorem ok290c1 : PO 290 p290c1 := pK E290c1l fun v => Eq.trans (b := u290c1 v.1 v.2.1) (by kernel_rfl) (o290c1 v.1 v.2.1)
def f229 (r : Int) : AV × Sig := (.one (.int .i64 r), [])
def E229 := (E0.p ok290c1)
def u229 (a0 : List (Ty.T y108)) (a1 : Int) : Option (AV × Sig) := cond (d290c1 a0 a1) (some (.one (.int .i64 (v290c1 a0 a1)), [])) (none)
def v229 (a0 : List (Ty.T y108)) (a1 : Int) : Int := cond (d290c1 a0 a1) ((v290c1 a0 a1)) (0)
def d229 (a0 : List (Ty.T y108)) (a1 : Int) : Bool := cond (d290c1 a0 a1) (true) (false)
theorem o229 (a0 : List (Ty.T y108)) (a1 : Int) : u229 a0 a1 = cond (d229 a0 a1) (some (f229 (v229 a0 a1))) none := (pC (pS _) (pN _))
def p229 : Prim := ⟨[.one (.dat (.sl 109 y108) true), oI], fun v => .br (d229 v.1 v.2.1) (.done (f229 (v229 v.1 v.2.1))) .no⟩
theorem ok229 : PO 229 p229 := pK E229 fun v => Eq.trans (b := u229 v.1 v.2.1) (by kernel_rfl) (o229 v.1 v.2.1)
def f192 (r : Int) : AV × Sig := (.one (.int .i64 r), [])
def E192 := E0
def u192 (a0 : Int) (a1 : Int) : Option (AV × Sig) := some (.one (.int .i64 (if (if a1 < a0 then a1 else a0) > (0 : Int) then if a1 < a0 then a1 else a0 else 0)), [])
def v192 (a0 : Int) (a1 : Int) : Int := if (if a1 < a0 then a1 else a0) > (0 : Int) then if a1 < a0 then a1 else a0 else 0
theorem o192 (a0 : Int) (a1 : Int) : u192 a0 a1 = some (f192 (v192 a0 a1)) := rfl
def p192 : Prim := ⟨[oI, oI], fun v => .done (f192 (v192 v.1 v.2.1))⟩
theorem ok192 : PO 192 p192 := pK E192 fun v => Eq.trans (b := u192 v.1 v.2.1) (by kernel_rfl) (o192 v.1 v.2.1)
def f323 (r : (Ty.T y27)) : AV × Sig := (.agg (y27.cells false r), [])
def E323 := (E0.p ok192)
def u323 (a0 : Ty.T y27) (a1 : Int) : Option (AV × Sig) := some (.agg [.int .i64 a0.1, .int .i64 a0.2.1, .int .i64 a0.2.2.1, .int .i64 a0.2.2.2.1, .int .i64 (v192 a1 2147483647), .int .i64 a0.2.2.2.2.2.1, .bool a0.2.2.2.2.2.2], [])
def v323 (a0 : Ty.T y27) (a1 : Int) : (Ty.T y27) := (a0.1, a0.2.1, a0.2.2.1, a0.2.2.2.1, (v192 a1 2147483647), a0.2.2.2.2.2)
theorem o323 (a0 : Ty.T y27) (a1 : Int) : u323 a0 a1 = some (f323 (v323 a0 a1)) := rfl
def p323 : Prim := ⟨[.agg [.dat y27 true], oI], fun v => .done (f323 (v323 v.1 v.2.1))⟩
theorem ok323 : PO 323 p323 := pK E323 fun v => Eq.trans (b := u323 v.1 v.2.1) (by kernel_rfl) (o323 v.1 v.2.1)
def f220 (r : Int) : AV × Sig := (.one (.int .i64 r), [])
def E220 := (E0.p ok173)
def u220 (a0 : Int) (a1 : Int) : Option (AV × Sig) := some (.one (.int .i64 (v173 (IntKind.wrap .i64 ((v173 a0) + (v173 a1))))), [])
def v220 (a0 : Int) (a1 : Int) : Int := (v173 (IntKind.wrap .i64 ((v173 a0) + (v173 a1))))
theorem o220 (a0 : Int) (a1 : Int) : u220 a0 a1 = some (f220 (v220 a0 a1)) := rfl
def p220 : Prim := ⟨[oI, oI], fun v => .done (f220 (v220 v.1 v.2.1))⟩
theorem ok220 : PO 220 p220 := pK E220 fun v => Eq.trans (b := u220 v.1 v.2.1) (by kernel_rfl) (o220 v.1 v.2.1)
def f338 (r : Int) : AV × Sig := (.one (.int .i64 r), [])
def E338 := (E0.p ok173)
def u338 (a0 : Int) : Option (AV × Sig) := some (.one (.int .i64 (v173 (IntKind.wrap .i64 ((2 : Int) * (v173 a0))))), [])
def v338 (a0 : Int) : Int := (v173 (IntKind.wrap .i64 ((2 : Int) * (v173 a0))))
theorem o338 (a0 : Int) : u338 a0 = some (f338 (v338 a0)) := rfl
def p338 : Prim := ⟨[oI], fun v => .done (f338 (v338 v.1))⟩
theorem ok338 : PO 338 p338 := pK E338 fun v => Eq.trans (b := u338 v.1) (by kernel_rfl) (o338 v.1)
def f339 (r : Int) : AV × Sig := (.one (.int .i64 r), [])
def E339 := (E0.p ok173)
def u339 (a0 : Int) : Option (AV × Sig) := some (.one (.int .i64 (IntKind.wrap .i64 ((v173 a0).tdiv (2 : Int)))), [])
def v339 (a0 : Int) : Int := IntKind.wrap .i64 ((v173 a0).tdiv (2 : Int))
theorem o339 (a0 : Int) : u339 a0 = some (f339 (v339 a0)) := rfl
def p339 : Prim := ⟨[oI], fun v => .done (f339 (v339 v.1))⟩
theorem ok339 : PO 339 p339 := pK E339 fun v => Eq.trans (b := u339 v.1) (by kernel_rfl) (o339 v.1)
def f324 (r : Int) : AV × Sig := (.one (.int .i64 r), [])
def E324 := ((((E0.p ok192).p ok220).p ok338).p ok339)
def u324 (a0 : Ty.T y106) (a1 : Int) : Option (AV × Sig) := cond (a0.1 == (1 : Int)) (some (.one (.int .i64 0), [])) (cond (a0.1 == (3 : Int)) (some (.one (.int .i64 (v220 (v192 a1 2147483647) a0.2.1)), [])) (cond (a0.1 == (4 : Int)) (some (.one (.int .i64 (v338 (v192 a1 2147483647))), [])) (cond (a0.1 == (5 : Int)) (some (.one (.int .i64 (v339 (v192 a1 2147483647))), [])) (some (.one (.int .i64 (v192 a1 2147483647)), [])))))
def v324 (a0 : Ty.T y106) (a1 : Int) : Int := cond (a0.1 == (1 : Int)) (0) (cond (a0.1 == (3 : Int)) ((v220 (v192 a1 2147483647) a0.2.1)) (cond (a0.1 == (4 : Int)) ((v338 (v192 a1 2147483647))) (cond (a0.1 == (5 : Int)) ((v339 (v192 a1 2147483647))) ((v192 a1 2147483647)))))
theorem o324 (a0 : Ty.T y106) (a1 : Int) : u324 a0 a1 = some (f324 (v324 a0 a1)) := (tC rfl (tC rfl (tC rfl (tC rfl rfl))))
def p324 : Prim := ⟨[.agg [.dat y106 true], oI], fun v => .done (f324 (v324 v.1 v.2.1))⟩
theorem ok324 : PO 324 p324 := pK E324 fun v => Eq.trans (b := u324 v.1 v.2.1) (by kernel_rfl) (o324 v.1 v.2.1)
def f325 (r : (List (Ty.T y27))) : AV × Sig := (.one (.sl 4096), [(4096, .arr 41 y27 r false)])
def E325 := (E0.p ok192)
@[reducible] def ss325_0 : List SP := U2 (.und :: .one (.ptr 3 0) :: .one (.dat (.sl 41 y27) false) :: .one (.own 8) :: U8 (.one (.dat (.sl 41 y27) true) :: oI :: oI :: U16 ([])))
@[reducible] def gs325_0 : List (Nat × GP) := [(3, .box 41 [.dat y27 false]), (8, .arr 41 y27 false)]
@[reducible] def V325_0 : Type := (List (Ty.T y27)) × (List (Ty.T y27)) × Int × Int × (Ty.T y27) × (List (Ty.T y27)) × Unit
def t325_0 (v : V325_0) {Z : Type} (κ : Nat × V325_0 -> Option Z) : Option Z := cond (decide (v.2.2.2.1 < v.2.2.1)) (if 0 <= v.2.2.2.1 then (optC ((v.2.1)[(v.2.2.2.1).toNat]?) (fun x1 => cond (x1.2.2.2.2.1 == (-1 : Int)) (if (v.2.2.2.2.2.1 ++ [(x1.1, x1.2.1, x1.2.2.1, x1.2.2.2.1, (v192 v.2.2.2.2.1.2.2.2.2.1 2147483647), x1.2.2.2.2.2)] : List (Ty.T y27)).length * 56 <= 140737488351232 then (κ (0, (v.1, v.2.1, v.2.2.1, IntKind.wrap .i64 (v.2.2.2.1 + (1 : Int)), v.2.2.2.2.1, v.2.2.2.2.2.1 ++ [(x1.1, x1.2.1, x1.2.2.1, x1.2.2.2.1, (v192 v.2.2.2.2.1.2.2.2.2.1 2147483647), x1.2.2.2.2.2)], ()))) else none) (if (v.2.2.2.2.2.1 ++ [x1] : List (Ty.T y27)).length * 56 <= 140737488351232 then (κ (0, (v.1, v.2.1, v.2.2.1, IntKind.wrap .i64 (v.2.2.2.1 + (1 : Int)), v.2.2.2.2.1, v.2.2.2.2.2.1 ++ [x1], ()))) else none))) else none) (κ (1, (v.1, v.2.1, v.2.2.1, v.2.2.2.1, v.2.2.2.2.1, v.2.2.2.2.2.1, ())))
def s325_0 (v : V325_0) : Option (Nat × V325_0) := t325_0 v some
def n325_0 (v : V325_0) : Nat := v.1.length + v.2.1.length + v.2.2.1.toNat + v.2.2.2.1.toNat + v.2.2.2.2.2.1.length + 100
def k325_0 (h0 : List (Ty.T y27)) (h1 : List (Ty.T y27)) (h2 : Int) (h3 : Int) (h4 : Ty.T y27) (h5 : List (Ty.T y27)) (c : Nat) : Bool := iK s325_0 n325_0 (h0, h1, h2, h3, h4, h5, ()) c
def w325_0 (h0 : List (Ty.T y27)) (h1 : List (Ty.T y27)) (h2 : Int) (h3 : Int) (h4 : Ty.T y27) (h5 : List (Ty.T y27)) : V325_0 := iW s325_0 n325_0 (h0, h1, h2, h3, h4, h5, ())
def F325_0 (v : V325_0) : Ways (Ex × St) := waysOf s325_0 (n325_0 v) v (bldSt ss325_0 gs325_0) [.exit 0] 0
theorem l325_0 : LoopOk Tryz.prog (loopAt (pb 5 23) (bodyOf Tryz.f325)) ss325_0 gs325_0 F325_0 := loopOk_iter (lt := .none) E325.ok orders (LtOk.no _) fun n v K => Eq.trans (b := t325_0 v (kont _ _ _ _ _ K)) (by kernel_rfl) (show t325_0 v _ = (t325_0 v some).bind _ from (bC (bI (bO fun x1 => (bC (bI rfl) (bI rfl)))) rfl))
def E325l := E325.l (g := 325) (t := (ltPut (pb 5 23) (bodyOf Tryz.f325) .none (.sum ss325_0 gs325_0 F325_0))) (ltOk_of Tryz.func325 (LtOk.put (wf_of (by kernel_rfl)) (LtOk.no _) l325_0))
def u325 (a0 : Ty.T y106) (a1 : Ty.T y27) : Option (AV × Sig) := cond (a0.1 != (9 : Int)) (some (.one (.sl 4096), [(4096, .arr 41 y27 [] false)])) (cond (k325_0 [] a0.2.2.2.2.2.2 ((a0.2.2.2.2.2.2).length : Int) 0 a1 [] 0) (some (.one (.sl 4096), [(4096, .arr 41 y27 (w325_0 [] a0.2.2.2.2.2.2 ((a0.2.2.2.2.2.2).length : Int) 0 a1 []).2.2.2.2.2.1 false)])) (none))
def v325 (a0 : Ty.T y106) (a1 : Ty.T y27) : (List (Ty.T y27)) := cond (a0.1 != (9 : Int)) ([]) (cond (k325_0 [] a0.2.2.2.2.2.2 ((a0.2.2.2.2.2.2).length : Int) 0 a1 [] 0) ((w325_0 [] a0.2.2.2.2.2.2 ((a0.2.2.2.2.2.2).length : Int) 0 a1 []).2.2.2.2.2.1) ([]))
def d325 (a0 : Ty.T y106) (a1 : Ty.T y27) : Bool := cond (a0.1 != (9 : Int)) (true) (cond (k325_0 [] a0.2.2.2.2.2.2 ((a0.2.2.2.2.2.2).length : Int) 0 a1 [] 0) (true) (false))
theorem o325 (a0 : Ty.T y106) (a1 : Ty.T y27) : u325 a0 a1 = cond (d325 a0 a1) (some (f325 (v325 a0 a1))) none := (pC (pS _) (pC (pS _) (pN _)))
def p325 : Prim := ⟨[.agg [.dat y106 true], .agg [.dat y27 true]], fun v => .br (d325 v.1 v.2.1) (.done (f325 (v325 v.1 v.2.1))) .no⟩
theorem ok325 : PO 325 p325 := pK E325l fun v => Eq.trans (b := u325 v.1 v.2.1) (by kernel_rfl) (o325 v.1 v.2.1)
end
end Go.Proofs.YtahlaccdpmddbaaGreat.Vm
