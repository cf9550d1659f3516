/- Contracts. No condition. -/
import Derived.Test.YtcladakiniekcaaVmT
import Derived.Test.YtcladakiniekcaaVmLibTwo
namespace Go.Proofs.Ytcladakiniekcaa.Vm
open Go Go.Proofs.Ytcladakiniekcaa.Lib
set_option maxRecDepth 100000
set_option linter.unusedVariables false
/-! ### laws.szIntS -/
noncomputable def E54 : Env := { ti := ti, fn := fns, prim := [], eqt := eqts }
theorem hE54 : Env.Ok Try.prog E54 := Env.Ok.of tiOk fnOk (mem_nil) mem_nil (mem_nil) eqtOk
noncomputable def f54 (r : Int) : AV × Sig := (.one (.int .i64 r), [])
noncomputable def u54 (a0 : List (Ty.T (.int .i64))) (a1 : Int) : Option (AV × Sig) := cond (decide ((IntKind.wrap .i64 (a1 - ((a0).length : Int))) < (0 : Int))) (some (.one (.int .i64 (-1)), [])) (some (.one (.int .i64 (IntKind.wrap .i64 (a1 - ((a0).length : Int)))), []))
noncomputable def v54 (a0 : List (Ty.T (.int .i64))) (a1 : Int) : Int := cond (decide ((IntKind.wrap .i64 (a1 - ((a0).length : Int))) < (0 : Int))) ((-1)) (IntKind.wrap .i64 (a1 - ((a0).length : Int)))
theorem o54 (a0 : List (Ty.T (.int .i64))) (a1 : Int) : u54 a0 a1 = some (f54 (v54 a0 a1)) := (tot_cond rfl rfl)
noncomputable def p54 : Prim := ⟨[.one (.dat (.sl 3 (.int .i64)) true), .one (.dat (.int .i64) true)], fun v => .done (f54 (v54 v.1 v.2.1))⟩
theorem ok54 : PrimOk Try.prog 54 p54 := primOk_eq hE54 orders fun v => Eq.trans (b := u54 v.1 v.2.1) (by kernel_rfl) (o54 v.1 v.2.1)
/-! ### laws.szIntSS -/
noncomputable def E8 : Env := { ti := ti, fn := fns, prim := [(54, p54)], eqt := eqts }
theorem hE8 : Env.Ok Try.prog E8 := Env.Ok.of tiOk fnOk (mem_cons ok54 <| mem_nil) mem_nil (mem_nil) eqtOk
@[reducible] noncomputable def ss8_0 : List SP := [.one (.dat (.sl 23 (.sl 3 (.int .i64))) true), .one (.dat (.int .i64) true), .und, .und, .one (.dat (.int .i64) true), .one (.dat (.int .i64) true), .und, .und, .und, .und, .und, .und, .und, .und, .und, .und, .und, .und, .und, .und, .und, .und, .und, .und, .und, .und, .und]
@[reducible] noncomputable def gs8_0 : List (Nat × GP) := []
noncomputable def t8_0 (v : (StT ss8_0 gs8_0)) {R : Type} (κ : Nat × (StT ss8_0 gs8_0) → Option R) : Option R := cond (decide (v.2.2.2.1 < ((v.1).length : Int))) (if 0 ≤ v.2.2.2.1 then (optC ((v.1)[(v.2.2.2.1).toNat]?) (fun x1 => cond (decide ((v54 x1 v.2.1) < (0 : Int))) (κ (1, (v.1, (v54 x1 v.2.1), (-1), v.2.2.2.1, ()))) (κ (0, (v.1, (v54 x1 v.2.1), v.2.2.1, IntKind.wrap .i64 (v.2.2.2.1 + (1 : Int)), ()))))) else none) (κ (2, (v.1, v.2.1, v.2.2.1, v.2.2.2.1, ())))
noncomputable def s8_0 (v : (StT ss8_0 gs8_0)) : Option (Nat × (StT ss8_0 gs8_0)) := t8_0 v some
noncomputable def n8_0 (v : (StT ss8_0 gs8_0)) : Nat := v.1.length + v.2.1.toNat + v.2.2.1.toNat + v.2.2.2.1.toNat + 100
noncomputable def k8_0 (x0 : List (Ty.T (.sl 3 (.int .i64)))) (x1 : Int) (x2 : Int) (x3 : Int) (c : Nat) : Bool := iterAt s8_0 (n8_0 (x0, x1, x2, x3, ())) (x0, x1, x2, x3, ()) c
noncomputable def w8_0 (x0 : List (Ty.T (.sl 3 (.int .i64)))) (x1 : Int) (x2 : Int) (x3 : Int) : (StT ss8_0 gs8_0) := iterV s8_0 (n8_0 (x0, x1, x2, x3, ())) (x0, x1, x2, x3, ())
noncomputable def F8_0 (v : (StT ss8_0 gs8_0)) : Ways (Ex × St) := waysOf s8_0 (n8_0 v) v (bldSt ss8_0 gs8_0) [.ret, .exit 0] 0
theorem wf8_0 : wfSt ss8_0 gs8_0 := wf_of (by kernel_rfl)
theorem l8_0 : LoopOk Try.prog (loopAt [true, true, true, false, true] (bodyOf Try.f8)) ss8_0 gs8_0 F8_0 := loopOk_iter (lt := .none) (m := [true, true, false, false, true, true, false, false, false, false, false, false, false, false, false, false, false, false, false, false, false, false, false, false, false, false, false]) (keep := []) hE8 orders (LtOk.no _) fun n v K => Eq.trans (b := t8_0 v (kont _ _ _ _ _ _ K)) (by kernel_rfl) (show t8_0 v _ = (t8_0 v some).bind _ from (bnd_cond (bnd_ite (bnd_opt fun x1 => (bnd_cond rfl rfl))) rfl))
noncomputable def E8l : Env := { ti := ti, fn := fns, prim := [(54, p54)], eqt := eqts, lt := [(8, (ltPut [true, true, true, false, true] (bodyOf Try.f8) .none (.sum ss8_0 gs8_0 F8_0)))] }
theorem hE8l : Env.Ok Try.prog E8l := Env.Ok.of tiOk fnOk (mem_cons ok54 <| mem_nil) (mem_cons (ltOk_of Try.func8 (LtOk.put wf8_0 (LtOk.no _) l8_0)) mem_nil) (mem_nil) eqtOk
noncomputable def f8 (r : Int) : AV × Sig := (.one (.int .i64 r), [])
noncomputable def u8 (a0 : List (Ty.T (.sl 3 (.int .i64)))) (a1 : Int) : Option (AV × Sig) := cond (decide ((IntKind.wrap .i64 (a1 - ((a0).length : Int))) < (0 : Int))) (some (.one (.int .i64 (-1)), [])) (cond (k8_0 a0 (IntKind.wrap .i64 (a1 - ((a0).length : Int))) 0 0 0) (some (.one (.int .i64 ((w8_0 a0 (IntKind.wrap .i64 (a1 - ((a0).length : Int))) 0 0).2.2.1)), [])) (cond (k8_0 a0 (IntKind.wrap .i64 (a1 - ((a0).length : Int))) 0 0 1) (some (.one (.int .i64 ((w8_0 a0 (IntKind.wrap .i64 (a1 - ((a0).length : Int))) 0 0).2.1)), [])) (none)))
noncomputable def v8 (a0 : List (Ty.T (.sl 3 (.int .i64)))) (a1 : Int) : Int := cond (decide ((IntKind.wrap .i64 (a1 - ((a0).length : Int))) < (0 : Int))) ((-1)) (cond (k8_0 a0 (IntKind.wrap .i64 (a1 - ((a0).length : Int))) 0 0 0) ((w8_0 a0 (IntKind.wrap .i64 (a1 - ((a0).length : Int))) 0 0).2.2.1) (cond (k8_0 a0 (IntKind.wrap .i64 (a1 - ((a0).length : Int))) 0 0 1) ((w8_0 a0 (IntKind.wrap .i64 (a1 - ((a0).length : Int))) 0 0).2.1) (0)))
noncomputable def d8 (a0 : List (Ty.T (.sl 3 (.int .i64)))) (a1 : Int) : Bool := cond (decide ((IntKind.wrap .i64 (a1 - ((a0).length : Int))) < (0 : Int))) (true) (cond (k8_0 a0 (IntKind.wrap .i64 (a1 - ((a0).length : Int))) 0 0 0) (true) (cond (k8_0 a0 (IntKind.wrap .i64 (a1 - ((a0).length : Int))) 0 0 1) (true) (false)))
theorem o8 (a0 : List (Ty.T (.sl 3 (.int .i64)))) (a1 : Int) : u8 a0 a1 = cond (d8 a0 a1) (some (f8 (v8 a0 a1))) none := (par_cond (par_some _) (par_cond (par_some _) (par_cond (par_some _) (par_none _))))
noncomputable def p8 : Prim := ⟨[.one (.dat (.sl 23 (.sl 3 (.int .i64))) true), .one (.dat (.int .i64) true)], fun v => .br (d8 v.1 v.2.1) (.done (f8 (v8 v.1 v.2.1))) .no⟩
theorem ok8 : PrimOk Try.prog 8 p8 := primOk_eq hE8l orders fun v => Eq.trans (b := u8 v.1 v.2.1) (by kernel_rfl) (o8 v.1 v.2.1)
/-! ### spec.l15SameInts -/
noncomputable def E55 : Env := { ti := ti, fn := fns, prim := [], eqt := eqts }
theorem hE55 : Env.Ok Try.prog E55 := Env.Ok.of tiOk fnOk (mem_nil) mem_nil (mem_nil) eqtOk
@[reducible] noncomputable def ss55_0 : List SP := [.one (.dat (.sl 3 (.int .i64)) true), .one (.dat (.sl 3 (.int .i64)) true), .und, .und, .one (.dat .bool true), .one (.dat (.int .i64) true), .und, .und, .und, .und, .und, .und, .und, .und, .und, .und, .und, .und, .und, .und, .und, .und, .und, .und, .und, .und]
@[reducible] noncomputable def gs55_0 : List (Nat × GP) := []
noncomputable def t55_0 (v : (StT ss55_0 gs55_0)) {R : Type} (κ : Nat × (StT ss55_0 gs55_0) → Option R) : Option R := cond (decide (v.2.2.2.1 < ((v.1).length : Int))) (if 0 ≤ v.2.2.2.1 then (optC ((v.1)[(v.2.2.2.1).toNat]?) (fun x1 => if 0 ≤ v.2.2.2.1 then (optC ((v.2.1)[(v.2.2.2.1).toNat]?) (fun x2 => cond (x1 != x2) (κ (1, (v.1, v.2.1, false, v.2.2.2.1, ()))) (κ (0, (v.1, v.2.1, v.2.2.1, IntKind.wrap .i64 (v.2.2.2.1 + (1 : Int)), ()))))) else none)) else none) (κ (2, (v.1, v.2.1, v.2.2.1, v.2.2.2.1, ())))
noncomputable def s55_0 (v : (StT ss55_0 gs55_0)) : Option (Nat × (StT ss55_0 gs55_0)) := t55_0 v some
noncomputable def n55_0 (v : (StT ss55_0 gs55_0)) : Nat := v.1.length + v.2.1.length + v.2.2.2.1.toNat + 100
noncomputable def k55_0 (x0 : List (Ty.T (.int .i64))) (x1 : List (Ty.T (.int .i64))) (x2 : Bool) (x3 : Int) (c : Nat) : Bool := iterAt s55_0 (n55_0 (x0, x1, x2, x3, ())) (x0, x1, x2, x3, ()) c
noncomputable def w55_0 (x0 : List (Ty.T (.int .i64))) (x1 : List (Ty.T (.int .i64))) (x2 : Bool) (x3 : Int) : (StT ss55_0 gs55_0) := iterV s55_0 (n55_0 (x0, x1, x2, x3, ())) (x0, x1, x2, x3, ())
noncomputable def F55_0 (v : (StT ss55_0 gs55_0)) : Ways (Ex × St) := waysOf s55_0 (n55_0 v) v (bldSt ss55_0 gs55_0) [.ret, .exit 0] 0
theorem wf55_0 : wfSt ss55_0 gs55_0 := wf_of (by kernel_rfl)
theorem l55_0 : LoopOk Try.prog (loopAt [true, true, false, true] (bodyOf Try.f55)) ss55_0 gs55_0 F55_0 := loopOk_iter (lt := .none) (m := [true, true, false, false, true, true, false, false, false, false, false, false, false, false, false, false, false, false, false, false, false, false, false, false, false, false]) (keep := []) hE55 orders (LtOk.no _) fun n v K => Eq.trans (b := t55_0 v (kont _ _ _ _ _ _ K)) (by kernel_rfl) (show t55_0 v _ = (t55_0 v some).bind _ from (bnd_cond (bnd_ite (bnd_opt fun x1 => (bnd_ite (bnd_opt fun x2 => (bnd_cond rfl rfl))))) rfl))
noncomputable def E55l : Env := { ti := ti, fn := fns, prim := [], eqt := eqts, lt := [(55, (ltPut [true, true, false, true] (bodyOf Try.f55) .none (.sum ss55_0 gs55_0 F55_0)))] }
theorem hE55l : Env.Ok Try.prog E55l := Env.Ok.of tiOk fnOk (mem_nil) (mem_cons (ltOk_of Try.func55 (LtOk.put wf55_0 (LtOk.no _) l55_0)) mem_nil) (mem_nil) eqtOk
noncomputable def f55 (r : Bool) : AV × Sig := (.one (.bool r), [])
noncomputable def u55 (a0 : List (Ty.T (.int .i64))) (a1 : List (Ty.T (.int .i64))) : Option (AV × Sig) := cond (((a0).length : Int) != ((a1).length : Int)) (some (.one (.bool false), [])) (cond (k55_0 a0 a1 false 0 0) (some (.one (.bool ((w55_0 a0 a1 false 0).2.2.1)), [])) (cond (k55_0 a0 a1 false 0 1) (some (.one (.bool true), [])) (none)))
noncomputable def v55 (a0 : List (Ty.T (.int .i64))) (a1 : List (Ty.T (.int .i64))) : Bool := cond (((a0).length : Int) != ((a1).length : Int)) (false) (cond (k55_0 a0 a1 false 0 0) ((w55_0 a0 a1 false 0).2.2.1) (cond (k55_0 a0 a1 false 0 1) (true) (false)))
noncomputable def d55 (a0 : List (Ty.T (.int .i64))) (a1 : List (Ty.T (.int .i64))) : Bool := cond (((a0).length : Int) != ((a1).length : Int)) (true) (cond (k55_0 a0 a1 false 0 0) (true) (cond (k55_0 a0 a1 false 0 1) (true) (false)))
theorem o55 (a0 : List (Ty.T (.int .i64))) (a1 : List (Ty.T (.int .i64))) : u55 a0 a1 = cond (d55 a0 a1) (some (f55 (v55 a0 a1))) none := (par_cond (par_some _) (par_cond (par_some _) (par_cond (par_some _) (par_none _))))
noncomputable def p55 : Prim := ⟨[.one (.dat (.sl 3 (.int .i64)) true), .one (.dat (.sl 3 (.int .i64)) true)], fun v => .br (d55 v.1 v.2.1) (.done (f55 (v55 v.1 v.2.1))) .no⟩
theorem ok55 : PrimOk Try.prog 55 p55 := primOk_eq hE55l orders fun v => Eq.trans (b := u55 v.1 v.2.1) (by kernel_rfl) (o55 v.1 v.2.1)
/-! ### spec.HasWay -/
noncomputable def E9 : Env := { ti := ti, fn := fns, prim := [(55, p55)], eqt := eqts }
theorem hE9 : Env.Ok Try.prog E9 := Env.Ok.of tiOk fnOk (mem_cons ok55 <| mem_nil) mem_nil (mem_nil) eqtOk
@[reducible] noncomputable def ss9_0 : List SP := [.one (.dat (.sl 23 (.sl 3 (.int .i64))) true), .one (.dat (.sl 3 (.int .i64)) true), .und, .und, .one (.dat .bool true), .one (.dat (.int .i64) true), .und, .und, .und, .und, .und, .und, .und, .und, .und, .und, .und, .und]
@[reducible] noncomputable def gs9_0 : List (Nat × GP) := []
noncomputable def t9_0 (v : (StT ss9_0 gs9_0)) {R : Type} (κ : Nat × (StT ss9_0 gs9_0) → Option R) : Option R := cond (decide (v.2.2.2.1 < ((v.1).length : Int))) (if 0 ≤ v.2.2.2.1 then (optC ((v.1)[(v.2.2.2.1).toNat]?) (fun x1 => cond (d55 x1 v.2.1) (cond (v55 x1 v.2.1) (κ (1, (v.1, v.2.1, true, v.2.2.2.1, ()))) (κ (0, (v.1, v.2.1, v.2.2.1, IntKind.wrap .i64 (v.2.2.2.1 + (1 : Int)), ())))) (none))) else none) (κ (2, (v.1, v.2.1, v.2.2.1, v.2.2.2.1, ())))
noncomputable def s9_0 (v : (StT ss9_0 gs9_0)) : Option (Nat × (StT ss9_0 gs9_0)) := t9_0 v some
noncomputable def n9_0 (v : (StT ss9_0 gs9_0)) : Nat := v.1.length + v.2.1.length + v.2.2.2.1.toNat + 100
noncomputable def k9_0 (x0 : List (Ty.T (.sl 3 (.int .i64)))) (x1 : List (Ty.T (.int .i64))) (x2 : Bool) (x3 : Int) (c : Nat) : Bool := iterAt s9_0 (n9_0 (x0, x1, x2, x3, ())) (x0, x1, x2, x3, ()) c
noncomputable def w9_0 (x0 : List (Ty.T (.sl 3 (.int .i64)))) (x1 : List (Ty.T (.int .i64))) (x2 : Bool) (x3 : Int) : (StT ss9_0 gs9_0) := iterV s9_0 (n9_0 (x0, x1, x2, x3, ())) (x0, x1, x2, x3, ())
noncomputable def F9_0 (v : (StT ss9_0 gs9_0)) : Ways (Ex × St) := waysOf s9_0 (n9_0 v) v (bldSt ss9_0 gs9_0) [.ret, .exit 0] 0
theorem wf9_0 : wfSt ss9_0 gs9_0 := wf_of (by kernel_rfl)
theorem l9_0 : LoopOk Try.prog (loopAt [true, false, true] (bodyOf Try.f9)) ss9_0 gs9_0 F9_0 := loopOk_iter (lt := .none) (m := [true, true, false, false, true, true, false, false, false, false, false, false, false, false, false, false, false, false]) (keep := []) hE9 orders (LtOk.no _) fun n v K => Eq.trans (b := t9_0 v (kont _ _ _ _ _ _ K)) (by kernel_rfl) (show t9_0 v _ = (t9_0 v some).bind _ from (bnd_cond (bnd_ite (bnd_opt fun x1 => (bnd_cond (bnd_cond rfl rfl) rfl))) rfl))
noncomputable def E9l : Env := { ti := ti, fn := fns, prim := [(55, p55)], eqt := eqts, lt := [(9, (ltPut [true, false, true] (bodyOf Try.f9) .none (.sum ss9_0 gs9_0 F9_0)))] }
theorem hE9l : Env.Ok Try.prog E9l := Env.Ok.of tiOk fnOk (mem_cons ok55 <| mem_nil) (mem_cons (ltOk_of Try.func9 (LtOk.put wf9_0 (LtOk.no _) l9_0)) mem_nil) (mem_nil) eqtOk
noncomputable def f9 (r : Bool) : AV × Sig := (.one (.bool r), [])
noncomputable def u9 (a0 : List (Ty.T (.sl 3 (.int .i64)))) (a1 : List (Ty.T (.int .i64))) : Option (AV × Sig) := cond (k9_0 a0 a1 false 0 0) (some (.one (.bool ((w9_0 a0 a1 false 0).2.2.1)), [])) (cond (k9_0 a0 a1 false 0 1) (some (.one (.bool false), [])) (none))
noncomputable def v9 (a0 : List (Ty.T (.sl 3 (.int .i64)))) (a1 : List (Ty.T (.int .i64))) : Bool := cond (k9_0 a0 a1 false 0 0) ((w9_0 a0 a1 false 0).2.2.1) (cond (k9_0 a0 a1 false 0 1) (false) (false))
noncomputable def d9 (a0 : List (Ty.T (.sl 3 (.int .i64)))) (a1 : List (Ty.T (.int .i64))) : Bool := cond (k9_0 a0 a1 false 0 0) (true) (cond (k9_0 a0 a1 false 0 1) (true) (false))
theorem o9 (a0 : List (Ty.T (.sl 3 (.int .i64)))) (a1 : List (Ty.T (.int .i64))) : u9 a0 a1 = cond (d9 a0 a1) (some (f9 (v9 a0 a1))) none := (par_cond (par_some _) (par_cond (par_some _) (par_none _)))
noncomputable def p9 : Prim := ⟨[.one (.dat (.sl 23 (.sl 3 (.int .i64))) true), .one (.dat (.sl 3 (.int .i64)) true)], fun v => .br (d9 v.1 v.2.1) (.done (f9 (v9 v.1 v.2.1))) .no⟩
theorem ok9 : PrimOk Try.prog 9 p9 := primOk_eq hE9l orders fun v => Eq.trans (b := u9 v.1 v.2.1) (by kernel_rfl) (o9 v.1 v.2.1)
/-! ### laws.toIntS -/
noncomputable def E11 : Env := { ti := ti, fn := fns, prim := [], eqt := eqts }
theorem hE11 : Env.Ok Try.prog E11 := Env.Ok.of tiOk fnOk (mem_nil) mem_nil (mem_nil) eqtOk
@[reducible] noncomputable def ss11_0 : List SP := [.one (.dat (.sl 3 (.int .i64)) true), .und, .one (.dat (.sl 3 (.int .i64)) false), .one (.own 7), .one (.dat (.int .i64) true), .und, .und, .und, .und, .und, .und, .und, .und, .und, .und, .und, .und, .und, .und, .und, .und, .und]
@[reducible] noncomputable def gs11_0 : List (Nat × GP) := [(7, .arr 3 (.int .i64) false)]
noncomputable def t11_0 (v : (StT ss11_0 gs11_0)) {R : Type} (κ : Nat × (StT ss11_0 gs11_0) → Option R) : Option R := cond (decide (v.2.2.1 < ((v.1).length : Int))) (if 0 ≤ v.2.2.1 then (optC ((v.1)[(v.2.2.1).toNat]?) (fun x1 => if 0 ≤ v.2.2.1 then (if v.2.2.1 < ((v.2.2.2.1).length : Int) then (optC ((v.2.2.2.1)[(v.2.2.1).toNat]?) (fun x2 => κ (0, (v.1, v.2.1, IntKind.wrap .i64 (v.2.2.1 + (1 : Int)), v.2.2.2.1.set ((v.2.2.1).toNat) x1, ())))) else none) else none)) else none) (κ (1, (v.1, v.2.1, v.2.2.1, v.2.2.2.1, ())))
noncomputable def s11_0 (v : (StT ss11_0 gs11_0)) : Option (Nat × (StT ss11_0 gs11_0)) := t11_0 v some
noncomputable def n11_0 (v : (StT ss11_0 gs11_0)) : Nat := v.1.length + v.2.1.length + v.2.2.1.toNat + v.2.2.2.1.length + 100
noncomputable def k11_0 (x0 : List (Ty.T (.int .i64))) (x1 : List (Ty.T (.int .i64))) (x2 : Int) (x3 : List (Ty.T (.int .i64))) (c : Nat) : Bool := iterAt s11_0 (n11_0 (x0, x1, x2, x3, ())) (x0, x1, x2, x3, ()) c
noncomputable def w11_0 (x0 : List (Ty.T (.int .i64))) (x1 : List (Ty.T (.int .i64))) (x2 : Int) (x3 : List (Ty.T (.int .i64))) : (StT ss11_0 gs11_0) := iterV s11_0 (n11_0 (x0, x1, x2, x3, ())) (x0, x1, x2, x3, ())
noncomputable def F11_0 (v : (StT ss11_0 gs11_0)) : Ways (Ex × St) := waysOf s11_0 (n11_0 v) v (bldSt ss11_0 gs11_0) [.exit 0] 0
theorem wf11_0 : wfSt ss11_0 gs11_0 := wf_of (by kernel_rfl)
theorem l11_0 : LoopOk Try.prog (loopAt [true, true, false, true] (bodyOf Try.f11)) ss11_0 gs11_0 F11_0 := loopOk_iter (lt := .none) (m := [true, false, true, true, true, false, false, false, false, false, false, false, false, false, false, false, false, false, false, false, false, false]) (keep := [7]) hE11 orders (LtOk.no _) fun n v K => Eq.trans (b := t11_0 v (kont _ _ _ _ _ _ K)) (by kernel_rfl) (show t11_0 v _ = (t11_0 v some).bind _ from (bnd_cond (bnd_ite (bnd_opt fun x1 => (bnd_ite (bnd_ite (bnd_opt fun x2 => rfl))))) rfl))
noncomputable def E11l : Env := { ti := ti, fn := fns, prim := [], eqt := eqts, lt := [(11, (ltPut [true, true, false, true] (bodyOf Try.f11) .none (.sum ss11_0 gs11_0 F11_0)))] }
theorem hE11l : Env.Ok Try.prog E11l := Env.Ok.of tiOk fnOk (mem_nil) (mem_cons (ltOk_of Try.func11 (LtOk.put wf11_0 (LtOk.no _) l11_0)) mem_nil) (mem_nil) eqtOk
noncomputable def f11 (r : (List (Ty.T (.int .i64)))) : AV × Sig := (.one (.sl 4096), [(4096, .arr 3 (.int .i64) r false)])
noncomputable def u11 (a0 : List (Ty.T (.int .i64))) : Option (AV × Sig) := if ((a0).length : Int) = ((a0).length : Int) then (if ((a0).length : Int).toNat * 8 ≤ 140737488351232 then (cond (k11_0 a0 [] 0 (List.replicate ((a0).length : Int).toNat (0 : Ty.T (.int .i64))) 0) (some (.one (.sl 4096), [(4096, .arr 3 (.int .i64) ((w11_0 a0 [] 0 (List.replicate ((a0).length : Int).toNat (0 : Ty.T (.int .i64)))).2.2.2.1) false)])) (none)) else none) else none
noncomputable def v11 (a0 : List (Ty.T (.int .i64))) : (List (Ty.T (.int .i64))) := cond (k11_0 a0 [] 0 (List.replicate ((a0).length : Int).toNat (0 : Ty.T (.int .i64))) 0) ((w11_0 a0 [] 0 (List.replicate ((a0).length : Int).toNat (0 : Ty.T (.int .i64)))).2.2.2.1) ([])
noncomputable def d11 (a0 : List (Ty.T (.int .i64))) : Bool := decide (((a0).length : Int) = ((a0).length : Int)) && (decide (((a0).length : Int).toNat * 8 ≤ 140737488351232) && (cond (k11_0 a0 [] 0 (List.replicate ((a0).length : Int).toNat (0 : Ty.T (.int .i64))) 0) (true) (false)))
theorem o11 (a0 : List (Ty.T (.int .i64))) : u11 a0 = cond (d11 a0) (some (f11 (v11 a0))) none := (par_ite (par_ite (par_cond (par_some _) (par_none _))))
noncomputable def p11 : Prim := ⟨[.one (.dat (.sl 3 (.int .i64)) true)], fun v => .br (d11 v.1) (.done (f11 (v11 v.1))) .no⟩
theorem ok11 : PrimOk Try.prog 11 p11 := primOk_eq hE11l orders fun v => Eq.trans (b := u11 v.1) (by kernel_rfl) (o11 v.1)
/-! ### laws.toIntSS -/
noncomputable def E10 : Env := { ti := ti, fn := fns, prim := [(11, p11)], eqt := eqts }
theorem hE10 : Env.Ok Try.prog E10 := Env.Ok.of tiOk fnOk (mem_cons ok11 <| mem_nil) mem_nil (mem_nil) eqtOk
@[reducible] noncomputable def ss10_0 : List SP := [.one (.dat (.sl 23 (.sl 3 (.int .i64))) true), .und, .one (.dat (.sl 23 (.sl 3 (.int .i64))) false), .one (.own 7), .one (.dat (.int .i64) true), .und, .und, .und, .und, .und, .und, .und, .und, .und, .und, .und, .und, .und, .und, .und, .und, .und, .und]
@[reducible] noncomputable def gs10_0 : List (Nat × GP) := [(7, .arr 23 (.sl 3 (.int .i64)) false)]
noncomputable def t10_0 (v : (StT ss10_0 gs10_0)) {R : Type} (κ : Nat × (StT ss10_0 gs10_0) → Option R) : Option R := cond (decide (v.2.2.1 < ((v.1).length : Int))) (if 0 ≤ v.2.2.1 then (optC ((v.1)[(v.2.2.1).toNat]?) (fun x1 => cond (d11 x1) (if 0 ≤ v.2.2.1 then (if v.2.2.1 < ((v.2.2.2.1).length : Int) then (optC ((v.2.2.2.1)[(v.2.2.1).toNat]?) (fun x2 => κ (0, (v.1, v.2.1, IntKind.wrap .i64 (v.2.2.1 + (1 : Int)), v.2.2.2.1.set ((v.2.2.1).toNat) (v11 x1), ())))) else none) else none) (none))) else none) (κ (1, (v.1, v.2.1, v.2.2.1, v.2.2.2.1, ())))
noncomputable def s10_0 (v : (StT ss10_0 gs10_0)) : Option (Nat × (StT ss10_0 gs10_0)) := t10_0 v some
noncomputable def n10_0 (v : (StT ss10_0 gs10_0)) : Nat := v.1.length + v.2.1.length + v.2.2.1.toNat + v.2.2.2.1.length + 100
noncomputable def k10_0 (x0 : List (Ty.T (.sl 3 (.int .i64)))) (x1 : List (Ty.T (.sl 3 (.int .i64)))) (x2 : Int) (x3 : List (Ty.T (.sl 3 (.int .i64)))) (c : Nat) : Bool := iterAt s10_0 (n10_0 (x0, x1, x2, x3, ())) (x0, x1, x2, x3, ()) c
noncomputable def w10_0 (x0 : List (Ty.T (.sl 3 (.int .i64)))) (x1 : List (Ty.T (.sl 3 (.int .i64)))) (x2 : Int) (x3 : List (Ty.T (.sl 3 (.int .i64)))) : (StT ss10_0 gs10_0) := iterV s10_0 (n10_0 (x0, x1, x2, x3, ())) (x0, x1, x2, x3, ())
noncomputable def F10_0 (v : (StT ss10_0 gs10_0)) : Ways (Ex × St) := waysOf s10_0 (n10_0 v) v (bldSt ss10_0 gs10_0) [.exit 0] 0
theorem wf10_0 : wfSt ss10_0 gs10_0 := wf_of (by kernel_rfl)
theorem l10_0 : LoopOk Try.prog (loopAt [true, true, false, true] (bodyOf Try.f10)) ss10_0 gs10_0 F10_0 := loopOk_iter (lt := .none) (m := [true, false, true, true, true, false, false, false, false, false, false, false, false, false, false, false, false, false, false, false, false, false, false]) (keep := [7]) hE10 orders (LtOk.no _) fun n v K => Eq.trans (b := t10_0 v (kont _ _ _ _ _ _ K)) (by kernel_rfl) (show t10_0 v _ = (t10_0 v some).bind _ from (bnd_cond (bnd_ite (bnd_opt fun x1 => (bnd_cond (bnd_ite (bnd_ite (bnd_opt fun x2 => rfl))) rfl))) rfl))
noncomputable def E10l : Env := { ti := ti, fn := fns, prim := [(11, p11)], eqt := eqts, lt := [(10, (ltPut [true, true, false, true] (bodyOf Try.f10) .none (.sum ss10_0 gs10_0 F10_0)))] }
theorem hE10l : Env.Ok Try.prog E10l := Env.Ok.of tiOk fnOk (mem_cons ok11 <| mem_nil) (mem_cons (ltOk_of Try.func10 (LtOk.put wf10_0 (LtOk.no _) l10_0)) mem_nil) (mem_nil) eqtOk
noncomputable def f10 (r : (List (Ty.T (.sl 3 (.int .i64))))) : AV × Sig := (.one (.sl 4096), [(4096, .arr 23 (.sl 3 (.int .i64)) r false)])
noncomputable def u10 (a0 : List (Ty.T (.sl 3 (.int .i64)))) : Option (AV × Sig) := if ((a0).length : Int) = ((a0).length : Int) then (if ((a0).length : Int).toNat * 24 ≤ 140737488351232 then (cond (k10_0 a0 [] 0 (List.replicate ((a0).length : Int).toNat ([] : Ty.T (.sl 3 (.int .i64)))) 0) (some (.one (.sl 4096), [(4096, .arr 23 (.sl 3 (.int .i64)) ((w10_0 a0 [] 0 (List.replicate ((a0).length : Int).toNat ([] : Ty.T (.sl 3 (.int .i64))))).2.2.2.1) false)])) (none)) else none) else none
noncomputable def v10 (a0 : List (Ty.T (.sl 3 (.int .i64)))) : (List (Ty.T (.sl 3 (.int .i64)))) := cond (k10_0 a0 [] 0 (List.replicate ((a0).length : Int).toNat ([] : Ty.T (.sl 3 (.int .i64)))) 0) ((w10_0 a0 [] 0 (List.replicate ((a0).length : Int).toNat ([] : Ty.T (.sl 3 (.int .i64))))).2.2.2.1) ([])
noncomputable def d10 (a0 : List (Ty.T (.sl 3 (.int .i64)))) : Bool := decide (((a0).length : Int) = ((a0).length : Int)) && (decide (((a0).length : Int).toNat * 24 ≤ 140737488351232) && (cond (k10_0 a0 [] 0 (List.replicate ((a0).length : Int).toNat ([] : Ty.T (.sl 3 (.int .i64)))) 0) (true) (false)))
theorem o10 (a0 : List (Ty.T (.sl 3 (.int .i64)))) : u10 a0 = cond (d10 a0) (some (f10 (v10 a0))) none := (par_ite (par_ite (par_cond (par_some _) (par_none _))))
noncomputable def p10 : Prim := ⟨[.one (.dat (.sl 23 (.sl 3 (.int .i64))) true)], fun v => .br (d10 v.1) (.done (f10 (v10 v.1))) .no⟩
theorem ok10 : PrimOk Try.prog 10 p10 := primOk_eq hE10l orders fun v => Eq.trans (b := u10 v.1) (by kernel_rfl) (o10 v.1)
/-! ### slices.Equal[[]int,int] -/
noncomputable def E58 : Env := { ti := ti, fn := fns, prim := [], eqt := eqts }
theorem hE58 : Env.Ok Try.prog E58 := Env.Ok.of tiOk fnOk (mem_nil) mem_nil (mem_nil) eqtOk
@[reducible] noncomputable def ss58_0 : List SP := [.one (.dat (.sl 3 (.int .i64)) true), .one (.dat (.sl 3 (.int .i64)) true), .und, .und, .one (.dat .bool true), .und, .und, .und, .und, .und, .und, .und, .one (.dat (.int .i64) true), .one (.dat (.int .i64) true), .und, .und, .und, .und, .und, .und, .und, .und, .und, .und, .und, .und]
@[reducible] noncomputable def gs58_0 : List (Nat × GP) := []
noncomputable def t58_0 (v : (StT ss58_0 gs58_0)) {R : Type} (κ : Nat × (StT ss58_0 gs58_0) → Option R) : Option R := cond (decide (v.2.2.2.2.1 < v.2.2.2.1)) (if 0 ≤ v.2.2.2.2.1 then (optC ((v.1)[(v.2.2.2.2.1).toNat]?) (fun x1 => if 0 ≤ v.2.2.2.2.1 then (optC ((v.2.1)[(v.2.2.2.2.1).toNat]?) (fun x2 => cond (x1 != x2) (κ (1, (v.1, v.2.1, false, v.2.2.2.1, v.2.2.2.2.1, ()))) (κ (0, (v.1, v.2.1, v.2.2.1, v.2.2.2.1, IntKind.wrap .i64 (v.2.2.2.2.1 + (1 : Int)), ()))))) else none)) else none) (κ (2, (v.1, v.2.1, v.2.2.1, v.2.2.2.1, v.2.2.2.2.1, ())))
noncomputable def s58_0 (v : (StT ss58_0 gs58_0)) : Option (Nat × (StT ss58_0 gs58_0)) := t58_0 v some
noncomputable def n58_0 (v : (StT ss58_0 gs58_0)) : Nat := v.1.length + v.2.1.length + v.2.2.2.1.toNat + v.2.2.2.2.1.toNat + 100
noncomputable def k58_0 (x0 : List (Ty.T (.int .i64))) (x1 : List (Ty.T (.int .i64))) (x2 : Bool) (x3 : Int) (x4 : Int) (c : Nat) : Bool := iterAt s58_0 (n58_0 (x0, x1, x2, x3, x4, ())) (x0, x1, x2, x3, x4, ()) c
noncomputable def w58_0 (x0 : List (Ty.T (.int .i64))) (x1 : List (Ty.T (.int .i64))) (x2 : Bool) (x3 : Int) (x4 : Int) : (StT ss58_0 gs58_0) := iterV s58_0 (n58_0 (x0, x1, x2, x3, x4, ())) (x0, x1, x2, x3, x4, ())
noncomputable def F58_0 (v : (StT ss58_0 gs58_0)) : Ways (Ex × St) := waysOf s58_0 (n58_0 v) v (bldSt ss58_0 gs58_0) [.ret, .exit 0] 0
theorem wf58_0 : wfSt ss58_0 gs58_0 := wf_of (by kernel_rfl)
theorem l58_0 : LoopOk Try.prog (loopAt [true, true, false, true] (bodyOf Try.f58)) ss58_0 gs58_0 F58_0 := loopOk_iter (lt := .none) (m := [true, true, false, false, true, false, false, false, false, false, false, false, true, true, false, false, false, false, false, false, false, false, false, false, false, false]) (keep := []) hE58 orders (LtOk.no _) fun n v K => Eq.trans (b := t58_0 v (kont _ _ _ _ _ _ K)) (by kernel_rfl) (show t58_0 v _ = (t58_0 v some).bind _ from (bnd_cond (bnd_ite (bnd_opt fun x1 => (bnd_ite (bnd_opt fun x2 => (bnd_cond rfl rfl))))) rfl))
noncomputable def E58l : Env := { ti := ti, fn := fns, prim := [], eqt := eqts, lt := [(58, (ltPut [true, true, false, true] (bodyOf Try.f58) .none (.sum ss58_0 gs58_0 F58_0)))] }
theorem hE58l : Env.Ok Try.prog E58l := Env.Ok.of tiOk fnOk (mem_nil) (mem_cons (ltOk_of Try.func58 (LtOk.put wf58_0 (LtOk.no _) l58_0)) mem_nil) (mem_nil) eqtOk
noncomputable def f58 (r : Bool) : AV × Sig := (.one (.bool r), [])
noncomputable def u58 (a0 : List (Ty.T (.int .i64))) (a1 : List (Ty.T (.int .i64))) : Option (AV × Sig) := cond (((a0).length : Int) != ((a1).length : Int)) (some (.one (.bool false), [])) (cond (k58_0 a0 a1 false ((a0).length : Int) 0 0) (some (.one (.bool ((w58_0 a0 a1 false ((a0).length : Int) 0).2.2.1)), [])) (cond (k58_0 a0 a1 false ((a0).length : Int) 0 1) (some (.one (.bool true), [])) (none)))
noncomputable def v58 (a0 : List (Ty.T (.int .i64))) (a1 : List (Ty.T (.int .i64))) : Bool := cond (((a0).length : Int) != ((a1).length : Int)) (false) (cond (k58_0 a0 a1 false ((a0).length : Int) 0 0) ((w58_0 a0 a1 false ((a0).length : Int) 0).2.2.1) (cond (k58_0 a0 a1 false ((a0).length : Int) 0 1) (true) (false)))
noncomputable def d58 (a0 : List (Ty.T (.int .i64))) (a1 : List (Ty.T (.int .i64))) : Bool := cond (((a0).length : Int) != ((a1).length : Int)) (true) (cond (k58_0 a0 a1 false ((a0).length : Int) 0 0) (true) (cond (k58_0 a0 a1 false ((a0).length : Int) 0 1) (true) (false)))
theorem o58 (a0 : List (Ty.T (.int .i64))) (a1 : List (Ty.T (.int .i64))) : u58 a0 a1 = cond (d58 a0 a1) (some (f58 (v58 a0 a1))) none := (par_cond (par_some _) (par_cond (par_some _) (par_cond (par_some _) (par_none _))))
noncomputable def p58 : Prim := ⟨[.one (.dat (.sl 3 (.int .i64)) true), .one (.dat (.sl 3 (.int .i64)) true)], fun v => .br (d58 v.1 v.2.1) (.done (f58 (v58 v.1 v.2.1))) .no⟩
theorem ok58 : PrimOk Try.prog 58 p58 := primOk_eq hE58l orders fun v => Eq.trans (b := u58 v.1 v.2.1) (by kernel_rfl) (o58 v.1 v.2.1)
/-! ### impl.HasWay$1 -/
noncomputable def E57c1 : Env := { ti := ti, fn := fns, prim := [(58, p58)], eqt := eqts }
theorem hE57c1 : Env.Ok Try.prog E57c1 := Env.Ok.of tiOk fnOk (mem_cons ok58 <| mem_nil) mem_nil (mem_nil) eqtOk
noncomputable def f57c1 (r : Bool) : AV × Sig := (.one (.bool r), [])
noncomputable def u57c1 (a0 : List (Ty.T (.int .i64))) (a1 : List (Ty.T (.int .i64))) : Option (AV × Sig) := cond (d58 a0 a1) (some (.one (.bool (v58 a0 a1)), [])) (none)
noncomputable def v57c1 (a0 : List (Ty.T (.int .i64))) (a1 : List (Ty.T (.int .i64))) : Bool := cond (d58 a0 a1) ((v58 a0 a1)) (false)
noncomputable def d57c1 (a0 : List (Ty.T (.int .i64))) (a1 : List (Ty.T (.int .i64))) : Bool := cond (d58 a0 a1) (true) (false)
theorem o57c1 (a0 : List (Ty.T (.int .i64))) (a1 : List (Ty.T (.int .i64))) : u57c1 a0 a1 = cond (d57c1 a0 a1) (some (f57c1 (v57c1 a0 a1))) none := (par_cond (par_some _) (par_none _))
noncomputable def p57c1 : Prim := ⟨[.one (.dat (.sl 3 (.int .i64)) true), .one (.ept (.sl 3 (.int .i64)))], fun v => .br (d57c1 v.1 v.2.1) (.done (f57c1 (v57c1 v.1 v.2.1))) .no⟩
theorem ok57c1 : PrimOk Try.prog 57 p57c1 := primOk_eq hE57c1 orders fun v => Eq.trans (b := u57c1 v.1 v.2.1) (by kernel_rfl) (o57c1 v.1 v.2.1)
/-! ### slices.IndexFunc[[][]int,[]int] -/
noncomputable def E104c1 : Env := { ti := ti, fn := fns, prim := [(57, p57c1)], eqt := eqts }
theorem hE104c1 : Env.Ok Try.prog E104c1 := Env.Ok.of tiOk fnOk (mem_cons ok57c1 <| mem_nil) mem_nil (mem_nil) eqtOk
@[reducible] noncomputable def ss104c1_0 : List SP := [.one (.dat (.sl 23 (.sl 3 (.int .i64))) true), .one (.fnc 57 [(.sl 3 (.int .i64))]), .und, .und, .one (.dat (.int .i64) true), .und, .und, .one (.dat (.int .i64) true), .one (.dat (.int .i64) true), .und, .und, .und, .und, .und, .und, .und, .und, .und, .und]
@[reducible] noncomputable def gs104c1_0 : List (Nat × GP) := []
noncomputable def t104c1_0 (v : (StT ss104c1_0 gs104c1_0)) {R : Type} (κ : Nat × (StT ss104c1_0 gs104c1_0) → Option R) : Option R := cond (decide (v.2.2.2.2.1 < v.2.2.2.1)) (if 0 ≤ v.2.2.2.2.1 then (optC ((v.1)[(v.2.2.2.2.1).toNat]?) (fun x1 => cond (d57c1 x1 v.2.1) (cond (v57c1 x1 v.2.1) (κ (1, (v.1, v.2.1, v.2.2.2.2.1, v.2.2.2.1, v.2.2.2.2.1, ()))) (κ (0, (v.1, v.2.1, v.2.2.1, v.2.2.2.1, IntKind.wrap .i64 (v.2.2.2.2.1 + (1 : Int)), ())))) (none))) else none) (κ (2, (v.1, v.2.1, v.2.2.1, v.2.2.2.1, v.2.2.2.2.1, ())))
noncomputable def s104c1_0 (v : (StT ss104c1_0 gs104c1_0)) : Option (Nat × (StT ss104c1_0 gs104c1_0)) := t104c1_0 v some
noncomputable def n104c1_0 (v : (StT ss104c1_0 gs104c1_0)) : Nat := v.1.length + v.2.1.length + v.2.2.1.toNat + v.2.2.2.1.toNat + v.2.2.2.2.1.toNat + 100
noncomputable def k104c1_0 (x0 : List (Ty.T (.sl 3 (.int .i64)))) (x1 : List (Ty.T (.int .i64))) (x2 : Int) (x3 : Int) (x4 : Int) (c : Nat) : Bool := iterAt s104c1_0 (n104c1_0 (x0, x1, x2, x3, x4, ())) (x0, x1, x2, x3, x4, ()) c
noncomputable def w104c1_0 (x0 : List (Ty.T (.sl 3 (.int .i64)))) (x1 : List (Ty.T (.int .i64))) (x2 : Int) (x3 : Int) (x4 : Int) : (StT ss104c1_0 gs104c1_0) := iterV s104c1_0 (n104c1_0 (x0, x1, x2, x3, x4, ())) (x0, x1, x2, x3, x4, ())
noncomputable def F104c1_0 (v : (StT ss104c1_0 gs104c1_0)) : Ways (Ex × St) := waysOf s104c1_0 (n104c1_0 v) v (bldSt ss104c1_0 gs104c1_0) [.ret, .exit 0] 0
theorem wf104c1_0 : wfSt ss104c1_0 gs104c1_0 := wf_of (by kernel_rfl)
theorem l104c1_0 : LoopOk Try.prog (loopAt [true, false, true] (bodyOf Try.f104)) ss104c1_0 gs104c1_0 F104c1_0 := loopOk_iter (lt := .none) (m := [true, true, false, false, true, false, false, true, true, false, false, false, false, false, false, false, false, false, false]) (keep := []) hE104c1 orders (LtOk.no _) fun n v K => Eq.trans (b := t104c1_0 v (kont _ _ _ _ _ _ K)) (by kernel_rfl) (show t104c1_0 v _ = (t104c1_0 v some).bind _ from (bnd_cond (bnd_ite (bnd_opt fun x1 => (bnd_cond (bnd_cond rfl rfl) rfl))) rfl))
noncomputable def E104c1l : Env := { ti := ti, fn := fns, prim := [(57, p57c1)], eqt := eqts, lt := [(104, (ltPut [true, false, true] (bodyOf Try.f104) .none (.sum ss104c1_0 gs104c1_0 F104c1_0)))] }
theorem hE104c1l : Env.Ok Try.prog E104c1l := Env.Ok.of tiOk fnOk (mem_cons ok57c1 <| mem_nil) (mem_cons (ltOk_of Try.func104 (LtOk.put wf104c1_0 (LtOk.no _) l104c1_0)) mem_nil) (mem_nil) eqtOk
noncomputable def f104c1 (r : Int) : AV × Sig := (.one (.int .i64 r), [])
noncomputable def u104c1 (a0 : List (Ty.T (.sl 3 (.int .i64)))) (a1_0 : List (Ty.T (.int .i64))) : Option (AV × Sig) := cond (k104c1_0 a0 a1_0 0 ((a0).length : Int) 0 0) (some (.one (.int .i64 ((w104c1_0 a0 a1_0 0 ((a0).length : Int) 0).2.2.1)), [])) (cond (k104c1_0 a0 a1_0 0 ((a0).length : Int) 0 1) (some (.one (.int .i64 (-1)), [])) (none))
noncomputable def v104c1 (a0 : List (Ty.T (.sl 3 (.int .i64)))) (a1_0 : List (Ty.T (.int .i64))) : Int := cond (k104c1_0 a0 a1_0 0 ((a0).length : Int) 0 0) ((w104c1_0 a0 a1_0 0 ((a0).length : Int) 0).2.2.1) (cond (k104c1_0 a0 a1_0 0 ((a0).length : Int) 0 1) ((-1)) (0))
noncomputable def d104c1 (a0 : List (Ty.T (.sl 3 (.int .i64)))) (a1_0 : List (Ty.T (.int .i64))) : Bool := cond (k104c1_0 a0 a1_0 0 ((a0).length : Int) 0 0) (true) (cond (k104c1_0 a0 a1_0 0 ((a0).length : Int) 0 1) (true) (false))
theorem o104c1 (a0 : List (Ty.T (.sl 3 (.int .i64)))) (a1_0 : List (Ty.T (.int .i64))) : u104c1 a0 a1_0 = cond (d104c1 a0 a1_0) (some (f104c1 (v104c1 a0 a1_0))) none := (par_cond (par_some _) (par_cond (par_some _) (par_none _)))
noncomputable def p104c1 : Prim := ⟨[.one (.dat (.sl 23 (.sl 3 (.int .i64))) true), .one (.fnc 57 [(.sl 3 (.int .i64))])], fun v => .br (d104c1 v.1 v.2.1) (.done (f104c1 (v104c1 v.1 v.2.1))) .no⟩
theorem ok104c1 : PrimOk Try.prog 104 p104c1 := primOk_eq hE104c1l orders fun v => Eq.trans (b := u104c1 v.1 v.2.1) (by kernel_rfl) (o104c1 v.1 v.2.1)
/-! ### slices.ContainsFunc[[][]int,[]int] -/
noncomputable def E56c1 : Env := { ti := ti, fn := fns, prim := [(104, p104c1)], eqt := eqts }
theorem hE56c1 : Env.Ok Try.prog E56c1 := Env.Ok.of tiOk fnOk (mem_cons ok104c1 <| mem_nil) mem_nil (mem_nil) eqtOk
noncomputable def f56c1 (r : Bool) : AV × Sig := (.one (.bool r), [])
noncomputable def u56c1 (a0 : List (Ty.T (.sl 3 (.int .i64)))) (a1_0 : List (Ty.T (.int .i64))) : Option (AV × Sig) := cond (d104c1 a0 a1_0) (some (.one (.bool (decide ((v104c1 a0 a1_0) ≥ (0 : Int)))), [])) (none)
noncomputable def v56c1 (a0 : List (Ty.T (.sl 3 (.int .i64)))) (a1_0 : List (Ty.T (.int .i64))) : Bool := cond (d104c1 a0 a1_0) (decide ((v104c1 a0 a1_0) ≥ (0 : Int))) (false)
noncomputable def d56c1 (a0 : List (Ty.T (.sl 3 (.int .i64)))) (a1_0 : List (Ty.T (.int .i64))) : Bool := cond (d104c1 a0 a1_0) (true) (false)
theorem o56c1 (a0 : List (Ty.T (.sl 3 (.int .i64)))) (a1_0 : List (Ty.T (.int .i64))) : u56c1 a0 a1_0 = cond (d56c1 a0 a1_0) (some (f56c1 (v56c1 a0 a1_0))) none := (par_cond (par_some _) (par_none _))
noncomputable def p56c1 : Prim := ⟨[.one (.dat (.sl 23 (.sl 3 (.int .i64))) true), .one (.fnc 57 [(.sl 3 (.int .i64))])], fun v => .br (d56c1 v.1 v.2.1) (.done (f56c1 (v56c1 v.1 v.2.1))) .no⟩
theorem ok56c1 : PrimOk Try.prog 56 p56c1 := primOk_eq hE56c1 orders fun v => Eq.trans (b := u56c1 v.1 v.2.1) (by kernel_rfl) (o56c1 v.1 v.2.1)
/-! ### impl.HasWay -/
noncomputable def E12 : Env := { ti := ti, fn := fns, prim := [(56, p56c1)], eqt := eqts }
theorem hE12 : Env.Ok Try.prog E12 := Env.Ok.of tiOk fnOk (mem_cons ok56c1 <| mem_nil) mem_nil (mem_nil) eqtOk
noncomputable def f12 (r : Bool) : AV × Sig := (.one (.bool r), [])
noncomputable def u12 (a0 : List (Ty.T (.sl 3 (.int .i64)))) (a1 : List (Ty.T (.int .i64))) : Option (AV × Sig) := cond (d56c1 a0 a1) (some (.one (.bool (v56c1 a0 a1)), [])) (none)
noncomputable def v12 (a0 : List (Ty.T (.sl 3 (.int .i64)))) (a1 : List (Ty.T (.int .i64))) : Bool := cond (d56c1 a0 a1) ((v56c1 a0 a1)) (false)
noncomputable def d12 (a0 : List (Ty.T (.sl 3 (.int .i64)))) (a1 : List (Ty.T (.int .i64))) : Bool := cond (d56c1 a0 a1) (true) (false)
theorem o12 (a0 : List (Ty.T (.sl 3 (.int .i64)))) (a1 : List (Ty.T (.int .i64))) : u12 a0 a1 = cond (d12 a0 a1) (some (f12 (v12 a0 a1))) none := (par_cond (par_some _) (par_none _))
noncomputable def p12 : Prim := ⟨[.one (.dat (.sl 23 (.sl 3 (.int .i64))) true), .one (.dat (.sl 3 (.int .i64)) true)], fun v => .br (d12 v.1 v.2.1) (.done (f12 (v12 v.1 v.2.1))) .no⟩
theorem ok12 : PrimOk Try.prog 12 p12 := primOk_eq hE12 orders fun v => Eq.trans (b := u12 v.1 v.2.1) (by kernel_rfl) (o12 v.1 v.2.1)
/-! ### laws.eqIntS -/
noncomputable def E14 : Env := { ti := ti, fn := fns, prim := [], eqt := eqts }
theorem hE14 : Env.Ok Try.prog E14 := Env.Ok.of tiOk fnOk (mem_nil) mem_nil (mem_nil) eqtOk
@[reducible] noncomputable def ss14_0 : List SP := [.one (.dat (.sl 3 (.int .i64)) true), .one (.dat (.sl 3 (.int .i64)) true), .und, .und, .one (.dat .bool true), .one (.dat (.int .i64) true), .und, .und, .und, .und, .und, .und, .und, .und, .und, .und, .und, .und, .und, .und, .und, .und, .und, .und, .und, .und]
@[reducible] noncomputable def gs14_0 : List (Nat × GP) := []
noncomputable def t14_0 (v : (StT ss14_0 gs14_0)) {R : Type} (κ : Nat × (StT ss14_0 gs14_0) → Option R) : Option R := cond (decide (v.2.2.2.1 < ((v.1).length : Int))) (if 0 ≤ v.2.2.2.1 then (optC ((v.1)[(v.2.2.2.1).toNat]?) (fun x1 => if 0 ≤ v.2.2.2.1 then (optC ((v.2.1)[(v.2.2.2.1).toNat]?) (fun x2 => cond (x1 != x2) (κ (1, (v.1, v.2.1, false, v.2.2.2.1, ()))) (κ (0, (v.1, v.2.1, v.2.2.1, IntKind.wrap .i64 (v.2.2.2.1 + (1 : Int)), ()))))) else none)) else none) (κ (2, (v.1, v.2.1, v.2.2.1, v.2.2.2.1, ())))
noncomputable def s14_0 (v : (StT ss14_0 gs14_0)) : Option (Nat × (StT ss14_0 gs14_0)) := t14_0 v some
noncomputable def n14_0 (v : (StT ss14_0 gs14_0)) : Nat := v.1.length + v.2.1.length + v.2.2.2.1.toNat + 100
noncomputable def k14_0 (x0 : List (Ty.T (.int .i64))) (x1 : List (Ty.T (.int .i64))) (x2 : Bool) (x3 : Int) (c : Nat) : Bool := iterAt s14_0 (n14_0 (x0, x1, x2, x3, ())) (x0, x1, x2, x3, ()) c
noncomputable def w14_0 (x0 : List (Ty.T (.int .i64))) (x1 : List (Ty.T (.int .i64))) (x2 : Bool) (x3 : Int) : (StT ss14_0 gs14_0) := iterV s14_0 (n14_0 (x0, x1, x2, x3, ())) (x0, x1, x2, x3, ())
noncomputable def F14_0 (v : (StT ss14_0 gs14_0)) : Ways (Ex × St) := waysOf s14_0 (n14_0 v) v (bldSt ss14_0 gs14_0) [.ret, .exit 0] 0
theorem wf14_0 : wfSt ss14_0 gs14_0 := wf_of (by kernel_rfl)
theorem l14_0 : LoopOk Try.prog (loopAt [true, true, false, true] (bodyOf Try.f14)) ss14_0 gs14_0 F14_0 := loopOk_iter (lt := .none) (m := [true, true, false, false, true, true, false, false, false, false, false, false, false, false, false, false, false, false, false, false, false, false, false, false, false, false]) (keep := []) hE14 orders (LtOk.no _) fun n v K => Eq.trans (b := t14_0 v (kont _ _ _ _ _ _ K)) (by kernel_rfl) (show t14_0 v _ = (t14_0 v some).bind _ from (bnd_cond (bnd_ite (bnd_opt fun x1 => (bnd_ite (bnd_opt fun x2 => (bnd_cond rfl rfl))))) rfl))
noncomputable def E14l : Env := { ti := ti, fn := fns, prim := [], eqt := eqts, lt := [(14, (ltPut [true, true, false, true] (bodyOf Try.f14) .none (.sum ss14_0 gs14_0 F14_0)))] }
theorem hE14l : Env.Ok Try.prog E14l := Env.Ok.of tiOk fnOk (mem_nil) (mem_cons (ltOk_of Try.func14 (LtOk.put wf14_0 (LtOk.no _) l14_0)) mem_nil) (mem_nil) eqtOk
noncomputable def f14 (r : Bool) : AV × Sig := (.one (.bool r), [])
noncomputable def u14 (a0 : List (Ty.T (.int .i64))) (a1 : List (Ty.T (.int .i64))) : Option (AV × Sig) := cond (((a0).length : Int) != ((a1).length : Int)) (some (.one (.bool false), [])) (cond (k14_0 a0 a1 false 0 0) (some (.one (.bool ((w14_0 a0 a1 false 0).2.2.1)), [])) (cond (k14_0 a0 a1 false 0 1) (some (.one (.bool true), [])) (none)))
noncomputable def v14 (a0 : List (Ty.T (.int .i64))) (a1 : List (Ty.T (.int .i64))) : Bool := cond (((a0).length : Int) != ((a1).length : Int)) (false) (cond (k14_0 a0 a1 false 0 0) ((w14_0 a0 a1 false 0).2.2.1) (cond (k14_0 a0 a1 false 0 1) (true) (false)))
noncomputable def d14 (a0 : List (Ty.T (.int .i64))) (a1 : List (Ty.T (.int .i64))) : Bool := cond (((a0).length : Int) != ((a1).length : Int)) (true) (cond (k14_0 a0 a1 false 0 0) (true) (cond (k14_0 a0 a1 false 0 1) (true) (false)))
theorem o14 (a0 : List (Ty.T (.int .i64))) (a1 : List (Ty.T (.int .i64))) : u14 a0 a1 = cond (d14 a0 a1) (some (f14 (v14 a0 a1))) none := (par_cond (par_some _) (par_cond (par_some _) (par_cond (par_some _) (par_none _))))
noncomputable def p14 : Prim := ⟨[.one (.dat (.sl 3 (.int .i64)) true), .one (.dat (.sl 3 (.int .i64)) true)], fun v => .br (d14 v.1 v.2.1) (.done (f14 (v14 v.1 v.2.1))) .no⟩
theorem ok14 : PrimOk Try.prog 14 p14 := primOk_eq hE14l orders fun v => Eq.trans (b := u14 v.1 v.2.1) (by kernel_rfl) (o14 v.1 v.2.1)
/-! ### laws.eqIntSS -/
noncomputable def E13 : Env := { ti := ti, fn := fns, prim := [(14, p14)], eqt := eqts }
theorem hE13 : Env.Ok Try.prog E13 := Env.Ok.of tiOk fnOk (mem_cons ok14 <| mem_nil) mem_nil (mem_nil) eqtOk
@[reducible] noncomputable def ss13_0 : List SP := [.one (.dat (.sl 23 (.sl 3 (.int .i64))) true), .one (.dat (.sl 23 (.sl 3 (.int .i64))) true), .und, .und, .one (.dat .bool true), .one (.dat (.int .i64) true), .und, .und, .und, .und, .und, .und, .und, .und, .und, .und, .und, .und, .und, .und, .und, .und, .und, .und, .und, .und, .und]
@[reducible] noncomputable def gs13_0 : List (Nat × GP) := []
noncomputable def t13_0 (v : (StT ss13_0 gs13_0)) {R : Type} (κ : Nat × (StT ss13_0 gs13_0) → Option R) : Option R := cond (decide (v.2.2.2.1 < ((v.1).length : Int))) (if 0 ≤ v.2.2.2.1 then (optC ((v.1)[(v.2.2.2.1).toNat]?) (fun x1 => if 0 ≤ v.2.2.2.1 then (optC ((v.2.1)[(v.2.2.2.1).toNat]?) (fun x2 => cond (d14 x1 x2) (cond (!(v14 x1 x2)) (κ (1, (v.1, v.2.1, false, v.2.2.2.1, ()))) (κ (0, (v.1, v.2.1, v.2.2.1, IntKind.wrap .i64 (v.2.2.2.1 + (1 : Int)), ())))) (none))) else none)) else none) (κ (2, (v.1, v.2.1, v.2.2.1, v.2.2.2.1, ())))
noncomputable def s13_0 (v : (StT ss13_0 gs13_0)) : Option (Nat × (StT ss13_0 gs13_0)) := t13_0 v some
noncomputable def n13_0 (v : (StT ss13_0 gs13_0)) : Nat := v.1.length + v.2.1.length + v.2.2.2.1.toNat + 100
noncomputable def k13_0 (x0 : List (Ty.T (.sl 3 (.int .i64)))) (x1 : List (Ty.T (.sl 3 (.int .i64)))) (x2 : Bool) (x3 : Int) (c : Nat) : Bool := iterAt s13_0 (n13_0 (x0, x1, x2, x3, ())) (x0, x1, x2, x3, ()) c
noncomputable def w13_0 (x0 : List (Ty.T (.sl 3 (.int .i64)))) (x1 : List (Ty.T (.sl 3 (.int .i64)))) (x2 : Bool) (x3 : Int) : (StT ss13_0 gs13_0) := iterV s13_0 (n13_0 (x0, x1, x2, x3, ())) (x0, x1, x2, x3, ())
noncomputable def F13_0 (v : (StT ss13_0 gs13_0)) : Ways (Ex × St) := waysOf s13_0 (n13_0 v) v (bldSt ss13_0 gs13_0) [.ret, .exit 0] 0
theorem wf13_0 : wfSt ss13_0 gs13_0 := wf_of (by kernel_rfl)
theorem l13_0 : LoopOk Try.prog (loopAt [true, true, false, true] (bodyOf Try.f13)) ss13_0 gs13_0 F13_0 := loopOk_iter (lt := .none) (m := [true, true, false, false, true, true, false, false, false, false, false, false, false, false, false, false, false, false, false, false, false, false, false, false, false, false, false]) (keep := []) hE13 orders (LtOk.no _) fun n v K => Eq.trans (b := t13_0 v (kont _ _ _ _ _ _ K)) (by kernel_rfl) (show t13_0 v _ = (t13_0 v some).bind _ from (bnd_cond (bnd_ite (bnd_opt fun x1 => (bnd_ite (bnd_opt fun x2 => (bnd_cond (bnd_cond rfl rfl) rfl))))) rfl))
noncomputable def E13l : Env := { ti := ti, fn := fns, prim := [(14, p14)], eqt := eqts, lt := [(13, (ltPut [true, true, false, true] (bodyOf Try.f13) .none (.sum ss13_0 gs13_0 F13_0)))] }
theorem hE13l : Env.Ok Try.prog E13l := Env.Ok.of tiOk fnOk (mem_cons ok14 <| mem_nil) (mem_cons (ltOk_of Try.func13 (LtOk.put wf13_0 (LtOk.no _) l13_0)) mem_nil) (mem_nil) eqtOk
noncomputable def f13 (r : Bool) : AV × Sig := (.one (.bool r), [])
noncomputable def u13 (a0 : List (Ty.T (.sl 3 (.int .i64)))) (a1 : List (Ty.T (.sl 3 (.int .i64)))) : Option (AV × Sig) := cond (((a0).length : Int) != ((a1).length : Int)) (some (.one (.bool false), [])) (cond (k13_0 a0 a1 false 0 0) (some (.one (.bool ((w13_0 a0 a1 false 0).2.2.1)), [])) (cond (k13_0 a0 a1 false 0 1) (some (.one (.bool true), [])) (none)))
noncomputable def v13 (a0 : List (Ty.T (.sl 3 (.int .i64)))) (a1 : List (Ty.T (.sl 3 (.int .i64)))) : Bool := cond (((a0).length : Int) != ((a1).length : Int)) (false) (cond (k13_0 a0 a1 false 0 0) ((w13_0 a0 a1 false 0).2.2.1) (cond (k13_0 a0 a1 false 0 1) (true) (false)))
noncomputable def d13 (a0 : List (Ty.T (.sl 3 (.int .i64)))) (a1 : List (Ty.T (.sl 3 (.int .i64)))) : Bool := cond (((a0).length : Int) != ((a1).length : Int)) (true) (cond (k13_0 a0 a1 false 0 0) (true) (cond (k13_0 a0 a1 false 0 1) (true) (false)))
theorem o13 (a0 : List (Ty.T (.sl 3 (.int .i64)))) (a1 : List (Ty.T (.sl 3 (.int .i64)))) : u13 a0 a1 = cond (d13 a0 a1) (some (f13 (v13 a0 a1))) none := (par_cond (par_some _) (par_cond (par_some _) (par_cond (par_some _) (par_none _))))
noncomputable def p13 : Prim := ⟨[.one (.dat (.sl 23 (.sl 3 (.int .i64))) true), .one (.dat (.sl 23 (.sl 3 (.int .i64))) true)], fun v => .br (d13 v.1 v.2.1) (.done (f13 (v13 v.1 v.2.1))) .no⟩
theorem ok13 : PrimOk Try.prog 13 p13 := primOk_eq hE13l orders fun v => Eq.trans (b := u13 v.1 v.2.1) (by kernel_rfl) (o13 v.1 v.2.1)
/-! ### laws.FnExactHasWay -/
noncomputable def E3 : Env := { ti := ti, fn := fns, prim := [(10, p10), (11, p11), (12, p12), (13, p13), (14, p14), (8, p8), (9, p9)], eqt := eqts }
theorem hE3 : Env.Ok Try.prog E3 := Env.Ok.of tiOk fnOk (mem_cons ok10 <| mem_cons ok11 <| mem_cons ok12 <| mem_cons ok13 <| mem_cons ok14 <| mem_cons ok8 <| mem_cons ok9 <| mem_nil) mem_nil (mem_nil) eqtOk
noncomputable def f3 (r : Bool) : AV × Sig := (.one (.bool r), [])
noncomputable def u3 (a0 : List (Ty.T (.sl 3 (.int .i64)))) (a1 : List (Ty.T (.int .i64))) : Option (AV × Sig) := cond (decide (((a1).length : Int) > (1048576 : Int))) (some (.one (.bool true), [])) (cond (d8 a0 1048576) (cond (decide ((v8 a0 1048576) < (0 : Int))) (some (.one (.bool true), [])) (cond (d10 a0) (cond (d11 a1) (cond (d9 (v10 a0) (v11 a1)) (cond (d10 a0) (cond (d11 a1) (cond (d12 (v10 a0) (v11 a1)) (cond (!((v12 (v10 a0) (v11 a1)) == (v9 (v10 a0) (v11 a1)))) (some (.one (.bool false), [])) (cond (d10 a0) (cond (d13 (v10 a0) (v10 a0)) (cond (!(v13 (v10 a0) (v10 a0))) (some (.one (.bool false), [])) (cond (d11 a1) (cond (d14 (v11 a1) (v11 a1)) (cond (!(v14 (v11 a1) (v11 a1))) (some (.one (.bool false), [])) (some (.one (.bool true), []))) (none)) (none))) (none)) (none))) (none)) (none)) (none)) (none)) (none)) (none))) (none))
noncomputable def v3 (a0 : List (Ty.T (.sl 3 (.int .i64)))) (a1 : List (Ty.T (.int .i64))) : Bool := cond (decide (((a1).length : Int) > (1048576 : Int))) (true) (cond (d8 a0 1048576) (cond (decide ((v8 a0 1048576) < (0 : Int))) (true) (cond (d10 a0) (cond (d11 a1) (cond (d9 (v10 a0) (v11 a1)) (cond (d10 a0) (cond (d11 a1) (cond (d12 (v10 a0) (v11 a1)) (cond (!((v12 (v10 a0) (v11 a1)) == (v9 (v10 a0) (v11 a1)))) (false) (cond (d10 a0) (cond (d13 (v10 a0) (v10 a0)) (cond (!(v13 (v10 a0) (v10 a0))) (false) (cond (d11 a1) (cond (d14 (v11 a1) (v11 a1)) (cond (!(v14 (v11 a1) (v11 a1))) (false) (true)) (false)) (false))) (false)) (false))) (false)) (false)) (false)) (false)) (false)) (false))) (false))
noncomputable def d3 (a0 : List (Ty.T (.sl 3 (.int .i64)))) (a1 : List (Ty.T (.int .i64))) : Bool := cond (decide (((a1).length : Int) > (1048576 : Int))) (true) (cond (d8 a0 1048576) (cond (decide ((v8 a0 1048576) < (0 : Int))) (true) (cond (d10 a0) (cond (d11 a1) (cond (d9 (v10 a0) (v11 a1)) (cond (d10 a0) (cond (d11 a1) (cond (d12 (v10 a0) (v11 a1)) (cond (!((v12 (v10 a0) (v11 a1)) == (v9 (v10 a0) (v11 a1)))) (true) (cond (d10 a0) (cond (d13 (v10 a0) (v10 a0)) (cond (!(v13 (v10 a0) (v10 a0))) (true) (cond (d11 a1) (cond (d14 (v11 a1) (v11 a1)) (cond (!(v14 (v11 a1) (v11 a1))) (true) (true)) (false)) (false))) (false)) (false))) (false)) (false)) (false)) (false)) (false)) (false))) (false))
theorem o3 (a0 : List (Ty.T (.sl 3 (.int .i64)))) (a1 : List (Ty.T (.int .i64))) : u3 a0 a1 = cond (d3 a0 a1) (some (f3 (v3 a0 a1))) none := (par_cond (par_some _) (par_cond (par_cond (par_some _) (par_cond (par_cond (par_cond (par_cond (par_cond (par_cond (par_cond (par_some _) (par_cond (par_cond (par_cond (par_some _) (par_cond (par_cond (par_cond (par_some _) (par_some _)) (par_none _)) (par_none _))) (par_none _)) (par_none _))) (par_none _)) (par_none _)) (par_none _)) (par_none _)) (par_none _)) (par_none _))) (par_none _)))
noncomputable def p3 : Prim := ⟨[.one (.dat (.sl 23 (.sl 3 (.int .i64))) true), .one (.dat (.sl 3 (.int .i64)) true)], fun v => .br (d3 v.1 v.2.1) (.done (f3 (v3 v.1 v.2.1))) .no⟩
theorem ok3 : PrimOk Try.prog 3 p3 := primOk_eq hE3 orders fun v => Eq.trans (b := u3 v.1 v.2.1) (by kernel_rfl) (o3 v.1 v.2.1)
end Go.Proofs.Ytcladakiniekcaa.Vm
