/- Contracts. No condition. -/
import Derived.Test.YtcladakiniekcaaVmT
import Derived.Test.YtcladakiniekcaaVmLibTwo
namespace Go.Proofs.Ytcladakiniekcaa.Vm
open Go Go.Proofs.Ytcladakiniekcaa.Lib
set_option maxRecDepth 100000
set_option linter.unusedVariables false
/-! ### laws.szEventS -/
noncomputable def E70 : Env := { ti := ti, fn := fns, prim := [], eqt := eqts }
theorem hE70 : Env.Ok Try.prog E70 := Env.Ok.of tiOk fnOk (mem_nil) mem_nil (mem_nil) eqtOk
noncomputable def f70 (r : Int) : AV × Sig := (.one (.int .i64 r), [])
noncomputable def u70 (a0 : List (Ty.T y124)) (a1 : Int) : Option (AV × Sig) := cond (decide ((IntKind.wrap .i64 (a1 - ((a0).length : Int))) < (0 : Int))) (some (.one (.int .i64 (-1)), [])) (some (.one (.int .i64 (IntKind.wrap .i64 (a1 - ((a0).length : Int)))), []))
noncomputable def v70 (a0 : List (Ty.T y124)) (a1 : Int) : Int := cond (decide ((IntKind.wrap .i64 (a1 - ((a0).length : Int))) < (0 : Int))) ((-1)) (IntKind.wrap .i64 (a1 - ((a0).length : Int)))
theorem o70 (a0 : List (Ty.T y124)) (a1 : Int) : u70 a0 a1 = some (f70 (v70 a0 a1)) := (tot_cond rfl rfl)
noncomputable def p70 : Prim := ⟨[.one (.dat (.sl 135 y124) true), .one (.dat (.int .i64) true)], fun v => .done (f70 (v70 v.1 v.2.1))⟩
theorem ok70 : PrimOk Try.prog 70 p70 := primOk_eq hE70 orders fun v => Eq.trans (b := u70 v.1 v.2.1) (by kernel_rfl) (o70 v.1 v.2.1)
/-! ### laws.szAct -/
noncomputable def E111 : Env := { ti := ti, fn := fns, prim := [(70, p70)], eqt := eqts }
theorem hE111 : Env.Ok Try.prog E111 := Env.Ok.of tiOk fnOk (mem_cons ok70 <| mem_nil) mem_nil (mem_nil) eqtOk
noncomputable def f111 (r : Int) : AV × Sig := (.one (.int .i64 r), [])
noncomputable def u111 (a0 : Ty.T y60) (a1 : Int) : Option (AV × Sig) := cond (decide ((v70 a0.2.2.2.2.2.2 a1) < (0 : Int))) (some (.one (.int .i64 (-1)), [])) (some (.one (.int .i64 (v70 a0.2.2.2.2.2.2 a1)), []))
noncomputable def v111 (a0 : Ty.T y60) (a1 : Int) : Int := cond (decide ((v70 a0.2.2.2.2.2.2 a1) < (0 : Int))) ((-1)) ((v70 a0.2.2.2.2.2.2 a1))
theorem o111 (a0 : Ty.T y60) (a1 : Int) : u111 a0 a1 = some (f111 (v111 a0 a1)) := (tot_cond rfl rfl)
noncomputable def p111 : Prim := ⟨[.agg [.dat y60 true], .one (.dat (.int .i64) true)], fun v => .done (f111 (v111 v.1 v.2.1))⟩
theorem ok111 : PrimOk Try.prog 111 p111 := primOk_eq hE111 orders fun v => Eq.trans (b := u111 v.1 v.2.1) (by kernel_rfl) (o111 v.1 v.2.1)
/-! ### laws.szEffect -/
noncomputable def E69 : Env := { ti := ti, fn := fns, prim := [(111, p111)], eqt := eqts }
theorem hE69 : Env.Ok Try.prog E69 := Env.Ok.of tiOk fnOk (mem_cons ok111 <| mem_nil) mem_nil (mem_nil) eqtOk
noncomputable def f69 (r : Int) : AV × Sig := (.one (.int .i64 r), [])
noncomputable def u69 (a0 : Ty.T y62) (a1 : Int) : Option (AV × Sig) := cond (decide ((v111 a0.2.2.2.2.2.2.1 a1) < (0 : Int))) (some (.one (.int .i64 (-1)), [])) (some (.one (.int .i64 (v111 a0.2.2.2.2.2.2.1 a1)), []))
noncomputable def v69 (a0 : Ty.T y62) (a1 : Int) : Int := cond (decide ((v111 a0.2.2.2.2.2.2.1 a1) < (0 : Int))) ((-1)) ((v111 a0.2.2.2.2.2.2.1 a1))
theorem o69 (a0 : Ty.T y62) (a1 : Int) : u69 a0 a1 = some (f69 (v69 a0 a1)) := (tot_cond rfl rfl)
noncomputable def p69 : Prim := ⟨[.agg [.dat y62 true], .one (.dat (.int .i64) true)], fun v => .done (f69 (v69 v.1 v.2.1))⟩
theorem ok69 : PrimOk Try.prog 69 p69 := primOk_eq hE69 orders fun v => Eq.trans (b := u69 v.1 v.2.1) (by kernel_rfl) (o69 v.1 v.2.1)
/-! ### laws.szEffectS -/
noncomputable def E29 : Env := { ti := ti, fn := fns, prim := [(69, p69)], eqt := eqts }
theorem hE29 : Env.Ok Try.prog E29 := Env.Ok.of tiOk fnOk (mem_cons ok69 <| mem_nil) mem_nil (mem_nil) eqtOk
@[reducible] noncomputable def ss29_0 : List SP := [.one (.dat (.sl 63 y62) true), .one (.dat (.int .i64) true), .und, .und, .one (.dat (.int .i64) true), .one (.dat (.int .i64) true), .und, .und, .und, .und, .und, .und, .und, .und, .und, .und, .und, .und, .und, .und, .und, .und, .und, .und, .und, .und, .und]
@[reducible] noncomputable def gs29_0 : List (Nat × GP) := []
noncomputable def t29_0 (v : (StT ss29_0 gs29_0)) {R : Type} (κ : Nat × (StT ss29_0 gs29_0) → Option R) : Option R := cond (decide (v.2.2.2.1 < ((v.1).length : Int))) (if 0 ≤ v.2.2.2.1 then (optC ((v.1)[(v.2.2.2.1).toNat]?) (fun x1 => cond (decide ((v69 x1 v.2.1) < (0 : Int))) (κ (1, (v.1, (v69 x1 v.2.1), (-1), v.2.2.2.1, ()))) (κ (0, (v.1, (v69 x1 v.2.1), v.2.2.1, IntKind.wrap .i64 (v.2.2.2.1 + (1 : Int)), ()))))) else none) (κ (2, (v.1, v.2.1, v.2.2.1, v.2.2.2.1, ())))
noncomputable def s29_0 (v : (StT ss29_0 gs29_0)) : Option (Nat × (StT ss29_0 gs29_0)) := t29_0 v some
noncomputable def n29_0 (v : (StT ss29_0 gs29_0)) : Nat := v.1.length + v.2.1.toNat + v.2.2.1.toNat + v.2.2.2.1.toNat + 100
noncomputable def k29_0 (x0 : List (Ty.T y62)) (x1 : Int) (x2 : Int) (x3 : Int) (c : Nat) : Bool := iterAt s29_0 (n29_0 (x0, x1, x2, x3, ())) (x0, x1, x2, x3, ()) c
noncomputable def w29_0 (x0 : List (Ty.T y62)) (x1 : Int) (x2 : Int) (x3 : Int) : (StT ss29_0 gs29_0) := iterV s29_0 (n29_0 (x0, x1, x2, x3, ())) (x0, x1, x2, x3, ())
noncomputable def F29_0 (v : (StT ss29_0 gs29_0)) : Ways (Ex × St) := waysOf s29_0 (n29_0 v) v (bldSt ss29_0 gs29_0) [.ret, .exit 0] 0
theorem wf29_0 : wfSt ss29_0 gs29_0 := wf_of (by kernel_rfl)
theorem l29_0 : LoopOk Try.prog (loopAt [true, true, true, false, true] (bodyOf Try.f29)) ss29_0 gs29_0 F29_0 := loopOk_iter (lt := .none) (m := [true, true, false, false, true, true, false, false, false, false, false, false, false, false, false, false, false, false, false, false, false, false, false, false, false, false, false]) (keep := []) hE29 orders (LtOk.no _) fun n v K => Eq.trans (b := t29_0 v (kont _ _ _ _ _ _ K)) (by kernel_rfl) (show t29_0 v _ = (t29_0 v some).bind _ from (bnd_cond (bnd_ite (bnd_opt fun x1 => (bnd_cond rfl rfl))) rfl))
noncomputable def E29l : Env := { ti := ti, fn := fns, prim := [(69, p69)], eqt := eqts, lt := [(29, (ltPut [true, true, true, false, true] (bodyOf Try.f29) .none (.sum ss29_0 gs29_0 F29_0)))] }
theorem hE29l : Env.Ok Try.prog E29l := Env.Ok.of tiOk fnOk (mem_cons ok69 <| mem_nil) (mem_cons (ltOk_of Try.func29 (LtOk.put wf29_0 (LtOk.no _) l29_0)) mem_nil) (mem_nil) eqtOk
noncomputable def f29 (r : Int) : AV × Sig := (.one (.int .i64 r), [])
noncomputable def u29 (a0 : List (Ty.T y62)) (a1 : Int) : Option (AV × Sig) := cond (decide ((IntKind.wrap .i64 (a1 - ((a0).length : Int))) < (0 : Int))) (some (.one (.int .i64 (-1)), [])) (cond (k29_0 a0 (IntKind.wrap .i64 (a1 - ((a0).length : Int))) 0 0 0) (some (.one (.int .i64 (w29_0 a0 (IntKind.wrap .i64 (a1 - ((a0).length : Int))) 0 0).2.2.1), [])) (cond (k29_0 a0 (IntKind.wrap .i64 (a1 - ((a0).length : Int))) 0 0 1) (some (.one (.int .i64 (w29_0 a0 (IntKind.wrap .i64 (a1 - ((a0).length : Int))) 0 0).2.1), [])) (none)))
noncomputable def v29 (a0 : List (Ty.T y62)) (a1 : Int) : Int := cond (decide ((IntKind.wrap .i64 (a1 - ((a0).length : Int))) < (0 : Int))) ((-1)) (cond (k29_0 a0 (IntKind.wrap .i64 (a1 - ((a0).length : Int))) 0 0 0) ((w29_0 a0 (IntKind.wrap .i64 (a1 - ((a0).length : Int))) 0 0).2.2.1) (cond (k29_0 a0 (IntKind.wrap .i64 (a1 - ((a0).length : Int))) 0 0 1) ((w29_0 a0 (IntKind.wrap .i64 (a1 - ((a0).length : Int))) 0 0).2.1) (0)))
noncomputable def d29 (a0 : List (Ty.T y62)) (a1 : Int) : Bool := cond (decide ((IntKind.wrap .i64 (a1 - ((a0).length : Int))) < (0 : Int))) (true) (cond (k29_0 a0 (IntKind.wrap .i64 (a1 - ((a0).length : Int))) 0 0 0) (true) (cond (k29_0 a0 (IntKind.wrap .i64 (a1 - ((a0).length : Int))) 0 0 1) (true) (false)))
theorem o29 (a0 : List (Ty.T y62)) (a1 : Int) : u29 a0 a1 = cond (d29 a0 a1) (some (f29 (v29 a0 a1))) none := (par_cond (par_some _) (par_cond (par_some _) (par_cond (par_some _) (par_none _))))
noncomputable def p29 : Prim := ⟨[.one (.dat (.sl 63 y62) true), .one (.dat (.int .i64) true)], fun v => .br (d29 v.1 v.2.1) (.done (f29 (v29 v.1 v.2.1))) .no⟩
theorem ok29 : PrimOk Try.prog 29 p29 := primOk_eq hE29l orders fun v => Eq.trans (b := u29 v.1 v.2.1) (by kernel_rfl) (o29 v.1 v.2.1)
/-! ### laws.szIntS -/
noncomputable def E54 : Env := { ti := ti, fn := fns, prim := [], eqt := eqts }
theorem hE54 : Env.Ok Try.prog E54 := Env.Ok.of tiOk fnOk (mem_nil) mem_nil (mem_nil) eqtOk
noncomputable def f54 (r : Int) : AV × Sig := (.one (.int .i64 r), [])
noncomputable def u54 (a0 : List (Ty.T (.int .i64))) (a1 : Int) : Option (AV × Sig) := cond (decide ((IntKind.wrap .i64 (a1 - ((a0).length : Int))) < (0 : Int))) (some (.one (.int .i64 (-1)), [])) (some (.one (.int .i64 (IntKind.wrap .i64 (a1 - ((a0).length : Int)))), []))
noncomputable def v54 (a0 : List (Ty.T (.int .i64))) (a1 : Int) : Int := cond (decide ((IntKind.wrap .i64 (a1 - ((a0).length : Int))) < (0 : Int))) ((-1)) (IntKind.wrap .i64 (a1 - ((a0).length : Int)))
theorem o54 (a0 : List (Ty.T (.int .i64))) (a1 : Int) : u54 a0 a1 = some (f54 (v54 a0 a1)) := (tot_cond rfl rfl)
noncomputable def p54 : Prim := ⟨[.one (.dat (.sl 3 (.int .i64)) true), .one (.dat (.int .i64) true)], fun v => .done (f54 (v54 v.1 v.2.1))⟩
theorem ok54 : PrimOk Try.prog 54 p54 := primOk_eq hE54 orders fun v => Eq.trans (b := u54 v.1 v.2.1) (by kernel_rfl) (o54 v.1 v.2.1)
/-! ### laws.szTurn -/
noncomputable def E112 : Env := { ti := ti, fn := fns, prim := [(70, p70)], eqt := eqts }
theorem hE112 : Env.Ok Try.prog E112 := Env.Ok.of tiOk fnOk (mem_cons ok70 <| mem_nil) mem_nil (mem_nil) eqtOk
noncomputable def f112 (r : Int) : AV × Sig := (.one (.int .i64 r), [])
noncomputable def u112 (a0 : Ty.T y156) (a1 : Int) : Option (AV × Sig) := cond (decide ((v70 a0.2.2.2.2.2.1 a1) < (0 : Int))) (some (.one (.int .i64 (-1)), [])) (some (.one (.int .i64 (v70 a0.2.2.2.2.2.1 a1)), []))
noncomputable def v112 (a0 : Ty.T y156) (a1 : Int) : Int := cond (decide ((v70 a0.2.2.2.2.2.1 a1) < (0 : Int))) ((-1)) ((v70 a0.2.2.2.2.2.1 a1))
theorem o112 (a0 : Ty.T y156) (a1 : Int) : u112 a0 a1 = some (f112 (v112 a0 a1)) := (tot_cond rfl rfl)
noncomputable def p112 : Prim := ⟨[.agg [.dat y156 true], .one (.dat (.int .i64) true)], fun v => .done (f112 (v112 v.1 v.2.1))⟩
theorem ok112 : PrimOk Try.prog 112 p112 := primOk_eq hE112 orders fun v => Eq.trans (b := u112 v.1 v.2.1) (by kernel_rfl) (o112 v.1 v.2.1)
/-! ### laws.szTurnS -/
noncomputable def E71 : Env := { ti := ti, fn := fns, prim := [(112, p112)], eqt := eqts }
theorem hE71 : Env.Ok Try.prog E71 := Env.Ok.of tiOk fnOk (mem_cons ok112 <| mem_nil) mem_nil (mem_nil) eqtOk
@[reducible] noncomputable def ss71_0 : List SP := [.one (.dat (.sl 157 y156) true), .one (.dat (.int .i64) true), .und, .und, .one (.dat (.int .i64) true), .one (.dat (.int .i64) true), .und, .und, .und, .und, .und, .und, .und, .und, .und, .und, .und, .und, .und, .und, .und, .und, .und, .und, .und, .und, .und]
@[reducible] noncomputable def gs71_0 : List (Nat × GP) := []
noncomputable def t71_0 (v : (StT ss71_0 gs71_0)) {R : Type} (κ : Nat × (StT ss71_0 gs71_0) → Option R) : Option R := cond (decide (v.2.2.2.1 < ((v.1).length : Int))) (if 0 ≤ v.2.2.2.1 then (optC ((v.1)[(v.2.2.2.1).toNat]?) (fun x1 => cond (decide ((v112 x1 v.2.1) < (0 : Int))) (κ (1, (v.1, (v112 x1 v.2.1), (-1), v.2.2.2.1, ()))) (κ (0, (v.1, (v112 x1 v.2.1), v.2.2.1, IntKind.wrap .i64 (v.2.2.2.1 + (1 : Int)), ()))))) else none) (κ (2, (v.1, v.2.1, v.2.2.1, v.2.2.2.1, ())))
noncomputable def s71_0 (v : (StT ss71_0 gs71_0)) : Option (Nat × (StT ss71_0 gs71_0)) := t71_0 v some
noncomputable def n71_0 (v : (StT ss71_0 gs71_0)) : Nat := v.1.length + v.2.1.toNat + v.2.2.1.toNat + v.2.2.2.1.toNat + 100
noncomputable def k71_0 (x0 : List (Ty.T y156)) (x1 : Int) (x2 : Int) (x3 : Int) (c : Nat) : Bool := iterAt s71_0 (n71_0 (x0, x1, x2, x3, ())) (x0, x1, x2, x3, ()) c
noncomputable def w71_0 (x0 : List (Ty.T y156)) (x1 : Int) (x2 : Int) (x3 : Int) : (StT ss71_0 gs71_0) := iterV s71_0 (n71_0 (x0, x1, x2, x3, ())) (x0, x1, x2, x3, ())
noncomputable def F71_0 (v : (StT ss71_0 gs71_0)) : Ways (Ex × St) := waysOf s71_0 (n71_0 v) v (bldSt ss71_0 gs71_0) [.ret, .exit 0] 0
theorem wf71_0 : wfSt ss71_0 gs71_0 := wf_of (by kernel_rfl)
theorem l71_0 : LoopOk Try.prog (loopAt [true, true, true, false, true] (bodyOf Try.f71)) ss71_0 gs71_0 F71_0 := loopOk_iter (lt := .none) (m := [true, true, false, false, true, true, false, false, false, false, false, false, false, false, false, false, false, false, false, false, false, false, false, false, false, false, false]) (keep := []) hE71 orders (LtOk.no _) fun n v K => Eq.trans (b := t71_0 v (kont _ _ _ _ _ _ K)) (by kernel_rfl) (show t71_0 v _ = (t71_0 v some).bind _ from (bnd_cond (bnd_ite (bnd_opt fun x1 => (bnd_cond rfl rfl))) rfl))
noncomputable def E71l : Env := { ti := ti, fn := fns, prim := [(112, p112)], eqt := eqts, lt := [(71, (ltPut [true, true, true, false, true] (bodyOf Try.f71) .none (.sum ss71_0 gs71_0 F71_0)))] }
theorem hE71l : Env.Ok Try.prog E71l := Env.Ok.of tiOk fnOk (mem_cons ok112 <| mem_nil) (mem_cons (ltOk_of Try.func71 (LtOk.put wf71_0 (LtOk.no _) l71_0)) mem_nil) (mem_nil) eqtOk
noncomputable def f71 (r : Int) : AV × Sig := (.one (.int .i64 r), [])
noncomputable def u71 (a0 : List (Ty.T y156)) (a1 : Int) : Option (AV × Sig) := cond (decide ((IntKind.wrap .i64 (a1 - ((a0).length : Int))) < (0 : Int))) (some (.one (.int .i64 (-1)), [])) (cond (k71_0 a0 (IntKind.wrap .i64 (a1 - ((a0).length : Int))) 0 0 0) (some (.one (.int .i64 (w71_0 a0 (IntKind.wrap .i64 (a1 - ((a0).length : Int))) 0 0).2.2.1), [])) (cond (k71_0 a0 (IntKind.wrap .i64 (a1 - ((a0).length : Int))) 0 0 1) (some (.one (.int .i64 (w71_0 a0 (IntKind.wrap .i64 (a1 - ((a0).length : Int))) 0 0).2.1), [])) (none)))
noncomputable def v71 (a0 : List (Ty.T y156)) (a1 : Int) : Int := cond (decide ((IntKind.wrap .i64 (a1 - ((a0).length : Int))) < (0 : Int))) ((-1)) (cond (k71_0 a0 (IntKind.wrap .i64 (a1 - ((a0).length : Int))) 0 0 0) ((w71_0 a0 (IntKind.wrap .i64 (a1 - ((a0).length : Int))) 0 0).2.2.1) (cond (k71_0 a0 (IntKind.wrap .i64 (a1 - ((a0).length : Int))) 0 0 1) ((w71_0 a0 (IntKind.wrap .i64 (a1 - ((a0).length : Int))) 0 0).2.1) (0)))
noncomputable def d71 (a0 : List (Ty.T y156)) (a1 : Int) : Bool := cond (decide ((IntKind.wrap .i64 (a1 - ((a0).length : Int))) < (0 : Int))) (true) (cond (k71_0 a0 (IntKind.wrap .i64 (a1 - ((a0).length : Int))) 0 0 0) (true) (cond (k71_0 a0 (IntKind.wrap .i64 (a1 - ((a0).length : Int))) 0 0 1) (true) (false)))
theorem o71 (a0 : List (Ty.T y156)) (a1 : Int) : u71 a0 a1 = cond (d71 a0 a1) (some (f71 (v71 a0 a1))) none := (par_cond (par_some _) (par_cond (par_some _) (par_cond (par_some _) (par_none _))))
noncomputable def p71 : Prim := ⟨[.one (.dat (.sl 157 y156) true), .one (.dat (.int .i64) true)], fun v => .br (d71 v.1 v.2.1) (.done (f71 (v71 v.1 v.2.1))) .no⟩
theorem ok71 : PrimOk Try.prog 71 p71 := primOk_eq hE71l orders fun v => Eq.trans (b := u71 v.1 v.2.1) (by kernel_rfl) (o71 v.1 v.2.1)
/-! ### laws.szFate -/
noncomputable def E30 : Env := { ti := ti, fn := fns, prim := [(29, p29), (54, p54), (70, p70), (71, p71)], eqt := eqts }
theorem hE30 : Env.Ok Try.prog E30 := Env.Ok.of tiOk fnOk (mem_cons ok29 <| mem_cons ok54 <| mem_cons ok70 <| mem_cons ok71 <| mem_nil) mem_nil (mem_nil) eqtOk
noncomputable def f30 (r : Int) : AV × Sig := (.one (.int .i64 r), [])
noncomputable def u30 (a0 : Ty.T y42) (a1 : Int) : Option (AV × Sig) := cond (decide ((v70 a0.1 a1) < (0 : Int))) (some (.one (.int .i64 (-1)), [])) (cond (d29 a0.2.1 (v70 a0.1 a1)) (cond (decide ((v29 a0.2.1 (v70 a0.1 a1)) < (0 : Int))) (some (.one (.int .i64 (-1)), [])) (cond (decide ((v54 a0.2.2.1 (v29 a0.2.1 (v70 a0.1 a1))) < (0 : Int))) (some (.one (.int .i64 (-1)), [])) (cond (d71 a0.2.2.2 (v54 a0.2.2.1 (v29 a0.2.1 (v70 a0.1 a1)))) (cond (decide ((v71 a0.2.2.2 (v54 a0.2.2.1 (v29 a0.2.1 (v70 a0.1 a1)))) < (0 : Int))) (some (.one (.int .i64 (-1)), [])) (some (.one (.int .i64 (v71 a0.2.2.2 (v54 a0.2.2.1 (v29 a0.2.1 (v70 a0.1 a1))))), []))) (none)))) (none))
noncomputable def v30 (a0 : Ty.T y42) (a1 : Int) : Int := cond (decide ((v70 a0.1 a1) < (0 : Int))) ((-1)) (cond (d29 a0.2.1 (v70 a0.1 a1)) (cond (decide ((v29 a0.2.1 (v70 a0.1 a1)) < (0 : Int))) ((-1)) (cond (decide ((v54 a0.2.2.1 (v29 a0.2.1 (v70 a0.1 a1))) < (0 : Int))) ((-1)) (cond (d71 a0.2.2.2 (v54 a0.2.2.1 (v29 a0.2.1 (v70 a0.1 a1)))) (cond (decide ((v71 a0.2.2.2 (v54 a0.2.2.1 (v29 a0.2.1 (v70 a0.1 a1)))) < (0 : Int))) ((-1)) ((v71 a0.2.2.2 (v54 a0.2.2.1 (v29 a0.2.1 (v70 a0.1 a1)))))) (0)))) (0))
noncomputable def d30 (a0 : Ty.T y42) (a1 : Int) : Bool := cond (decide ((v70 a0.1 a1) < (0 : Int))) (true) (cond (d29 a0.2.1 (v70 a0.1 a1)) (cond (decide ((v29 a0.2.1 (v70 a0.1 a1)) < (0 : Int))) (true) (cond (decide ((v54 a0.2.2.1 (v29 a0.2.1 (v70 a0.1 a1))) < (0 : Int))) (true) (cond (d71 a0.2.2.2 (v54 a0.2.2.1 (v29 a0.2.1 (v70 a0.1 a1)))) (cond (decide ((v71 a0.2.2.2 (v54 a0.2.2.1 (v29 a0.2.1 (v70 a0.1 a1)))) < (0 : Int))) (true) (true)) (false)))) (false))
theorem o30 (a0 : Ty.T y42) (a1 : Int) : u30 a0 a1 = cond (d30 a0 a1) (some (f30 (v30 a0 a1))) none := (par_cond (par_some _) (par_cond (par_cond (par_some _) (par_cond (par_some _) (par_cond (par_cond (par_some _) (par_some _)) (par_none _)))) (par_none _)))
noncomputable def p30 : Prim := ⟨[.agg [.dat y42 true], .one (.dat (.int .i64) true)], fun v => .br (d30 v.1 v.2.1) (.done (f30 (v30 v.1 v.2.1))) .no⟩
theorem ok30 : PrimOk Try.prog 30 p30 := primOk_eq hE30 orders fun v => Eq.trans (b := u30 v.1 v.2.1) (by kernel_rfl) (o30 v.1 v.2.1)
/-! ### spec.Upto -/
noncomputable def E64 : Env := { ti := ti, fn := fns, prim := [], eqt := eqts }
theorem hE64 : Env.Ok Try.prog E64 := Env.Ok.of tiOk fnOk (mem_nil) mem_nil (mem_nil) eqtOk
noncomputable def f64 (r : Int) : AV × Sig := (.one (.int .i64 r), [])
noncomputable def u64 (a0 : Int) (a1 : Int) : Option (AV × Sig) := cond (decide (a1 < a0)) (cond (decide (a1 < (0 : Int))) (some (.one (.int .i64 0), [])) (some (.one (.int .i64 a1), []))) (cond (decide (a0 < (0 : Int))) (some (.one (.int .i64 0), [])) (some (.one (.int .i64 a0), [])))
noncomputable def v64 (a0 : Int) (a1 : Int) : Int := cond (decide (a1 < a0)) (cond (decide (a1 < (0 : Int))) (0) (a1)) (cond (decide (a0 < (0 : Int))) (0) (a0))
theorem o64 (a0 : Int) (a1 : Int) : u64 a0 a1 = some (f64 (v64 a0 a1)) := (tot_cond (tot_cond rfl rfl) (tot_cond rfl rfl))
noncomputable def p64 : Prim := ⟨[.one (.dat (.int .i64) true), .one (.dat (.int .i64) true)], fun v => .done (f64 (v64 v.1 v.2.1))⟩
theorem ok64 : PrimOk Try.prog 64 p64 := primOk_eq hE64 orders fun v => Eq.trans (b := u64 v.1 v.2.1) (by kernel_rfl) (o64 v.1 v.2.1)
/-! ### spec.Bound -/
noncomputable def E65 : Env := { ti := ti, fn := fns, prim := [], eqt := eqts }
theorem hE65 : Env.Ok Try.prog E65 := Env.Ok.of tiOk fnOk (mem_nil) mem_nil (mem_nil) eqtOk
noncomputable def f65 (r : Int) : AV × Sig := (.one (.int .i64 r), [])
noncomputable def u65 (a0 : Int) : Option (AV × Sig) := cond (decide (a0 > (2147483647 : Int))) (some (.one (.int .i64 2147483647), [])) (cond (decide (a0 < (-2147483647 : Int))) (some (.one (.int .i64 (-2147483647)), [])) (some (.one (.int .i64 a0), [])))
noncomputable def v65 (a0 : Int) : Int := cond (decide (a0 > (2147483647 : Int))) (2147483647) (cond (decide (a0 < (-2147483647 : Int))) ((-2147483647)) (a0))
theorem o65 (a0 : Int) : u65 a0 = some (f65 (v65 a0)) := (tot_cond rfl (tot_cond rfl rfl))
noncomputable def p65 : Prim := ⟨[.one (.dat (.int .i64) true)], fun v => .done (f65 (v65 v.1))⟩
theorem ok65 : PrimOk Try.prog 65 p65 := primOk_eq hE65 orders fun v => Eq.trans (b := u65 v.1) (by kernel_rfl) (o65 v.1)
/-! ### spec.Power -/
noncomputable def E22 : Env := { ti := ti, fn := fns, prim := [(64, p64), (65, p65)], eqt := eqts }
theorem hE22 : Env.Ok Try.prog E22 := Env.Ok.of tiOk fnOk (mem_cons ok64 <| mem_cons ok65 <| mem_nil) mem_nil (mem_nil) eqtOk
@[reducible] noncomputable def ss22_0 : List SP := [.und, .one (.dat (.int .i64) true), .und, .und, .one (.dat (.int .i64) true), .one (.dat (.int .i64) true), .one (.dat (.int .i64) true), .one (.dat (.int .i64) true), .und, .und, .und, .und, .und, .und, .und, .und, .und, .und, .und, .und, .und, .und, .und, .und]
@[reducible] noncomputable def gs22_0 : List (Nat × GP) := []
noncomputable def t22_0 (v : (StT ss22_0 gs22_0)) {R : Type} (κ : Nat × (StT ss22_0 gs22_0) → Option R) : Option R := cond (decide (v.2.2.2.2.1 < v.1)) (cond (decide (v.2.2.2.2.1 < (64 : Int))) (κ (0, (v.1, v.2.1, v.2.2.1, (v65 (IntKind.wrap .i64 (v.2.2.2.1 * v.2.2.1))), IntKind.wrap .i64 (v.2.2.2.2.1 + (1 : Int)), ()))) (κ (1, (v.1, v.2.1, v.2.2.1, v.2.2.2.1, v.2.2.2.2.1, ())))) (κ (1, (v.1, v.2.1, v.2.2.1, v.2.2.2.1, v.2.2.2.2.1, ())))
noncomputable def s22_0 (v : (StT ss22_0 gs22_0)) : Option (Nat × (StT ss22_0 gs22_0)) := t22_0 v some
noncomputable def n22_0 (v : (StT ss22_0 gs22_0)) : Nat := v.1.toNat + v.2.1.toNat + v.2.2.1.toNat + v.2.2.2.1.toNat + v.2.2.2.2.1.toNat + 100
noncomputable def k22_0 (x0 : Int) (x1 : Int) (x2 : Int) (x3 : Int) (x4 : Int) (c : Nat) : Bool := iterAt s22_0 (n22_0 (x0, x1, x2, x3, x4, ())) (x0, x1, x2, x3, x4, ()) c
noncomputable def w22_0 (x0 : Int) (x1 : Int) (x2 : Int) (x3 : Int) (x4 : Int) : (StT ss22_0 gs22_0) := iterV s22_0 (n22_0 (x0, x1, x2, x3, x4, ())) (x0, x1, x2, x3, x4, ())
noncomputable def F22_0 (v : (StT ss22_0 gs22_0)) : Ways (Ex × St) := waysOf s22_0 (n22_0 v) v (bldSt ss22_0 gs22_0) [.exit 0] 0
theorem wf22_0 : wfSt ss22_0 gs22_0 := wf_of (by kernel_rfl)
theorem l22_0 : LoopOk Try.prog (loopAt [true, true, true, false, true] (bodyOf Try.f22)) ss22_0 gs22_0 F22_0 := loopOk_iter (lt := .none) (m := [false, true, false, false, true, true, true, true, false, false, false, false, false, false, false, false, false, false, false, false, false, false, false, false]) (keep := []) hE22 orders (LtOk.no _) fun n v K => Eq.trans (b := t22_0 v (kont _ _ _ _ _ _ K)) (by kernel_rfl) (show t22_0 v _ = (t22_0 v some).bind _ from (bnd_cond (bnd_cond rfl rfl) rfl))
noncomputable def E22l : Env := { ti := ti, fn := fns, prim := [(64, p64), (65, p65)], eqt := eqts, lt := [(22, (ltPut [true, true, true, false, true] (bodyOf Try.f22) .none (.sum ss22_0 gs22_0 F22_0)))] }
theorem hE22l : Env.Ok Try.prog E22l := Env.Ok.of tiOk fnOk (mem_cons ok64 <| mem_cons ok65 <| mem_nil) (mem_cons (ltOk_of Try.func22 (LtOk.put wf22_0 (LtOk.no _) l22_0)) mem_nil) (mem_nil) eqtOk
noncomputable def f22 (r : Int) : AV × Sig := (.one (.int .i64 r), [])
noncomputable def u22 (a0 : Int) (a1 : Int) : Option (AV × Sig) := cond (k22_0 a1 0 (v64 a0 2147483647) 1 0 0) (some (.one (.int .i64 (w22_0 a1 0 (v64 a0 2147483647) 1 0).2.2.2.1), [])) (none)
noncomputable def v22 (a0 : Int) (a1 : Int) : Int := cond (k22_0 a1 0 (v64 a0 2147483647) 1 0 0) ((w22_0 a1 0 (v64 a0 2147483647) 1 0).2.2.2.1) (0)
noncomputable def d22 (a0 : Int) (a1 : Int) : Bool := cond (k22_0 a1 0 (v64 a0 2147483647) 1 0 0) (true) (false)
theorem o22 (a0 : Int) (a1 : Int) : u22 a0 a1 = cond (d22 a0 a1) (some (f22 (v22 a0 a1))) none := (par_cond (par_some _) (par_none _))
noncomputable def p22 : Prim := ⟨[.one (.dat (.int .i64) true), .one (.dat (.int .i64) true)], fun v => .br (d22 v.1 v.2.1) (.done (f22 (v22 v.1 v.2.1))) .no⟩
theorem ok22 : PrimOk Try.prog 22 p22 := primOk_eq hE22l orders fun v => Eq.trans (b := u22 v.1 v.2.1) (by kernel_rfl) (o22 v.1 v.2.1)
/-! ### spec.Plus -/
noncomputable def E66 : Env := { ti := ti, fn := fns, prim := [(65, p65)], eqt := eqts }
theorem hE66 : Env.Ok Try.prog E66 := Env.Ok.of tiOk fnOk (mem_cons ok65 <| mem_nil) mem_nil (mem_nil) eqtOk
noncomputable def f66 (r : Int) : AV × Sig := (.one (.int .i64 r), [])
noncomputable def u66 (a0 : Int) (a1 : Int) : Option (AV × Sig) := some (.one (.int .i64 (v65 (IntKind.wrap .i64 ((v65 a0) + (v65 a1))))), [])
noncomputable def v66 (a0 : Int) (a1 : Int) : Int := (v65 (IntKind.wrap .i64 ((v65 a0) + (v65 a1))))
theorem o66 (a0 : Int) (a1 : Int) : u66 a0 a1 = some (f66 (v66 a0 a1)) := rfl
noncomputable def p66 : Prim := ⟨[.one (.dat (.int .i64) true), .one (.dat (.int .i64) true)], fun v => .done (f66 (v66 v.1 v.2.1))⟩
theorem ok66 : PrimOk Try.prog 66 p66 := primOk_eq hE66 orders fun v => Eq.trans (b := u66 v.1 v.2.1) (by kernel_rfl) (o66 v.1 v.2.1)
/-! ### spec.Sums -/
noncomputable def E23 : Env := { ti := ti, fn := fns, prim := [(22, p22), (64, p64), (66, p66)], eqt := eqts }
theorem hE23 : Env.Ok Try.prog E23 := Env.Ok.of tiOk fnOk (mem_cons ok22 <| mem_cons ok64 <| mem_cons ok66 <| mem_nil) mem_nil (mem_nil) eqtOk
@[reducible] noncomputable def ss23_0 : List SP := [.one (.dat (.int .i64) true), .one (.dat (.int .i64) true), .und, .und, .one (.dat (.int .i64) true), .one (.dat (.int .i64) true), .one (.dat (.int .i64) true), .und, .und, .und, .und, .und, .und, .und, .und, .und, .und, .und, .und, .und, .und, .und, .und, .und, .und, .und, .und, .und, .und, .und, .und, .und, .und, .und, .und]
@[reducible] noncomputable def gs23_0 : List (Nat × GP) := []
noncomputable def t23_0 (v : (StT ss23_0 gs23_0)) {R : Type} (κ : Nat × (StT ss23_0 gs23_0) → Option R) : Option R := cond (decide (v.2.2.2.2.1 < v.2.1)) (cond (decide (v.2.2.2.1 < (2147483647 : Int))) (cond (decide (v.2.2.2.2.1 < (64 : Int))) (cond (d22 v.1 v.2.2.2.2.1) (κ (0, (v.1, v.2.1, v.2.2.1, (v66 v.2.2.2.1 (v22 v.1 v.2.2.2.2.1)), IntKind.wrap .i64 (v.2.2.2.2.1 + (1 : Int)), ()))) (none)) (κ (1, (v.1, v.2.1, v.2.2.1, v.2.2.2.1, v.2.2.2.2.1, ())))) (κ (1, (v.1, v.2.1, v.2.2.1, v.2.2.2.1, v.2.2.2.2.1, ())))) (κ (1, (v.1, v.2.1, v.2.2.1, v.2.2.2.1, v.2.2.2.2.1, ())))
noncomputable def s23_0 (v : (StT ss23_0 gs23_0)) : Option (Nat × (StT ss23_0 gs23_0)) := t23_0 v some
noncomputable def n23_0 (v : (StT ss23_0 gs23_0)) : Nat := v.1.toNat + v.2.1.toNat + v.2.2.1.toNat + v.2.2.2.1.toNat + v.2.2.2.2.1.toNat + 100
noncomputable def k23_0 (x0 : Int) (x1 : Int) (x2 : Int) (x3 : Int) (x4 : Int) (c : Nat) : Bool := iterAt s23_0 (n23_0 (x0, x1, x2, x3, x4, ())) (x0, x1, x2, x3, x4, ()) c
noncomputable def w23_0 (x0 : Int) (x1 : Int) (x2 : Int) (x3 : Int) (x4 : Int) : (StT ss23_0 gs23_0) := iterV s23_0 (n23_0 (x0, x1, x2, x3, x4, ())) (x0, x1, x2, x3, x4, ())
noncomputable def F23_0 (v : (StT ss23_0 gs23_0)) : Ways (Ex × St) := waysOf s23_0 (n23_0 v) v (bldSt ss23_0 gs23_0) [.exit 0] 0
theorem wf23_0 : wfSt ss23_0 gs23_0 := wf_of (by kernel_rfl)
theorem l23_0 : LoopOk Try.prog (loopAt [true, true, false, true] (bodyOf Try.f23)) ss23_0 gs23_0 F23_0 := loopOk_iter (lt := .none) (m := [true, true, false, false, true, true, true, false, false, false, false, false, false, false, false, false, false, false, false, false, false, false, false, false, false, false, false, false, false, false, false, false, false, false, false]) (keep := []) hE23 orders (LtOk.no _) fun n v K => Eq.trans (b := t23_0 v (kont _ _ _ _ _ _ K)) (by kernel_rfl) (show t23_0 v _ = (t23_0 v some).bind _ from (bnd_cond (bnd_cond (bnd_cond (bnd_cond rfl rfl) rfl) rfl) rfl))
noncomputable def E23l : Env := { ti := ti, fn := fns, prim := [(22, p22), (64, p64), (66, p66)], eqt := eqts, lt := [(23, (ltPut [true, true, false, true] (bodyOf Try.f23) .none (.sum ss23_0 gs23_0 F23_0)))] }
theorem hE23l : Env.Ok Try.prog E23l := Env.Ok.of tiOk fnOk (mem_cons ok22 <| mem_cons ok64 <| mem_cons ok66 <| mem_nil) (mem_cons (ltOk_of Try.func23 (LtOk.put wf23_0 (LtOk.no _) l23_0)) mem_nil) (mem_nil) eqtOk
noncomputable def f23 (r : Int) : AV × Sig := (.one (.int .i64 r), [])
noncomputable def u23 (a0 : Int) (a1 : Int) : Option (AV × Sig) := cond (k23_0 a0 a1 0 0 0 0) (cond (decide ((w23_0 a0 a1 0 0 0).2.1 > (64 : Int))) (cond ((v64 (w23_0 a0 a1 0 0 0).1 2) == (1 : Int)) (some (.one (.int .i64 (v64 (w23_0 a0 a1 0 0 0).2.1 2147483647)), [])) (some (.one (.int .i64 (w23_0 a0 a1 0 0 0).2.2.2.1), []))) (some (.one (.int .i64 (w23_0 a0 a1 0 0 0).2.2.2.1), []))) (none)
noncomputable def v23 (a0 : Int) (a1 : Int) : Int := cond (k23_0 a0 a1 0 0 0 0) (cond (decide ((w23_0 a0 a1 0 0 0).2.1 > (64 : Int))) (cond ((v64 (w23_0 a0 a1 0 0 0).1 2) == (1 : Int)) ((v64 (w23_0 a0 a1 0 0 0).2.1 2147483647)) ((w23_0 a0 a1 0 0 0).2.2.2.1)) ((w23_0 a0 a1 0 0 0).2.2.2.1)) (0)
noncomputable def d23 (a0 : Int) (a1 : Int) : Bool := cond (k23_0 a0 a1 0 0 0 0) (cond (decide ((w23_0 a0 a1 0 0 0).2.1 > (64 : Int))) (cond ((v64 (w23_0 a0 a1 0 0 0).1 2) == (1 : Int)) (true) (true)) (true)) (false)
theorem o23 (a0 : Int) (a1 : Int) : u23 a0 a1 = cond (d23 a0 a1) (some (f23 (v23 a0 a1))) none := (par_cond (par_cond (par_cond (par_some _) (par_some _)) (par_some _)) (par_none _))
noncomputable def p23 : Prim := ⟨[.one (.dat (.int .i64) true), .one (.dat (.int .i64) true)], fun v => .br (d23 v.1 v.2.1) (.done (f23 (v23 v.1 v.2.1))) .no⟩
theorem ok23 : PrimOk Try.prog 23 p23 := primOk_eq hE23l orders fun v => Eq.trans (b := u23 v.1 v.2.1) (by kernel_rfl) (o23 v.1 v.2.1)
/-! ### spec.Usable -/
noncomputable def E68 : Env := { ti := ti, fn := fns, prim := [], eqt := eqts }
theorem hE68 : Env.Ok Try.prog E68 := Env.Ok.of tiOk fnOk (mem_nil) mem_nil (mem_nil) eqtOk
@[reducible] noncomputable def ss68_0 : List SP := [.one (.dat (.sl 73 y72) true), .und, .one (.dat (.int .i64) true), .one (.dat (.int .i64) true), .one (.dat (.int .i64) true), .und, .und, .und, .und, .und, .und, .und, .und, .und, .und, .und, .und, .und, .und, .und]
@[reducible] noncomputable def gs68_0 : List (Nat × GP) := []
noncomputable def t68_0 (v : (StT ss68_0 gs68_0)) {R : Type} (κ : Nat × (StT ss68_0 gs68_0) → Option R) : Option R := cond (decide (v.2.2.2.1 < ((v.1).length : Int))) (if 0 ≤ v.2.2.2.1 then (optC ((v.1)[(v.2.2.2.1).toNat]?) (fun x1 => cond (x1.2.2.2.2.2.2.2.2 != (0 : Int)) (κ (0, (v.1, v.2.1, IntKind.wrap .i64 (v.2.2.1 + (1 : Int)), IntKind.wrap .i64 (v.2.2.2.1 + (1 : Int)), ()))) (κ (0, (v.1, v.2.1, v.2.2.1, IntKind.wrap .i64 (v.2.2.2.1 + (1 : Int)), ()))))) else none) (κ (1, (v.1, v.2.1, v.2.2.1, v.2.2.2.1, ())))
noncomputable def s68_0 (v : (StT ss68_0 gs68_0)) : Option (Nat × (StT ss68_0 gs68_0)) := t68_0 v some
noncomputable def n68_0 (v : (StT ss68_0 gs68_0)) : Nat := v.1.length + v.2.1.toNat + v.2.2.1.toNat + v.2.2.2.1.toNat + 100
noncomputable def k68_0 (x0 : List (Ty.T y72)) (x1 : Int) (x2 : Int) (x3 : Int) (c : Nat) : Bool := iterAt s68_0 (n68_0 (x0, x1, x2, x3, ())) (x0, x1, x2, x3, ()) c
noncomputable def w68_0 (x0 : List (Ty.T y72)) (x1 : Int) (x2 : Int) (x3 : Int) : (StT ss68_0 gs68_0) := iterV s68_0 (n68_0 (x0, x1, x2, x3, ())) (x0, x1, x2, x3, ())
noncomputable def F68_0 (v : (StT ss68_0 gs68_0)) : Ways (Ex × St) := waysOf s68_0 (n68_0 v) v (bldSt ss68_0 gs68_0) [.exit 0] 0
theorem wf68_0 : wfSt ss68_0 gs68_0 := wf_of (by kernel_rfl)
theorem l68_0 : LoopOk Try.prog (loopAt [true, true, false, true] (bodyOf Try.f68)) ss68_0 gs68_0 F68_0 := loopOk_iter (lt := .none) (m := [true, false, true, true, true, false, false, false, false, false, false, false, false, false, false, false, false, false, false, false]) (keep := []) hE68 orders (LtOk.no _) fun n v K => Eq.trans (b := t68_0 v (kont _ _ _ _ _ _ K)) (by kernel_rfl) (show t68_0 v _ = (t68_0 v some).bind _ from (bnd_cond (bnd_ite (bnd_opt fun x1 => (bnd_cond rfl rfl))) rfl))
noncomputable def E68l : Env := { ti := ti, fn := fns, prim := [], eqt := eqts, lt := [(68, (ltPut [true, true, false, true] (bodyOf Try.f68) .none (.sum ss68_0 gs68_0 F68_0)))] }
theorem hE68l : Env.Ok Try.prog E68l := Env.Ok.of tiOk fnOk (mem_nil) (mem_cons (ltOk_of Try.func68 (LtOk.put wf68_0 (LtOk.no _) l68_0)) mem_nil) (mem_nil) eqtOk
noncomputable def f68 (r : Int) : AV × Sig := (.one (.int .i64 r), [])
noncomputable def u68 (a0 : List (Ty.T y72)) : Option (AV × Sig) := cond (k68_0 a0 0 0 0 0) (some (.one (.int .i64 (w68_0 a0 0 0 0).2.2.1), [])) (none)
noncomputable def v68 (a0 : List (Ty.T y72)) : Int := cond (k68_0 a0 0 0 0 0) ((w68_0 a0 0 0 0).2.2.1) (0)
noncomputable def d68 (a0 : List (Ty.T y72)) : Bool := cond (k68_0 a0 0 0 0 0) (true) (false)
theorem o68 (a0 : List (Ty.T y72)) : u68 a0 = cond (d68 a0) (some (f68 (v68 a0))) none := (par_cond (par_some _) (par_none _))
noncomputable def p68 : Prim := ⟨[.one (.dat (.sl 73 y72) true)], fun v => .br (d68 v.1) (.done (f68 (v68 v.1))) .no⟩
theorem ok68 : PrimOk Try.prog 68 p68 := primOk_eq hE68l orders fun v => Eq.trans (b := u68 v.1) (by kernel_rfl) (o68 v.1)
/-! ### spec.MostTurns -/
noncomputable def E25 : Env := { ti := ti, fn := fns, prim := [(23, p23), (68, p68)], eqt := eqts }
theorem hE25 : Env.Ok Try.prog E25 := Env.Ok.of tiOk fnOk (mem_cons ok23 <| mem_cons ok68 <| mem_nil) mem_nil (mem_nil) eqtOk
noncomputable def f25 (r : Int) : AV × Sig := (.one (.int .i64 r), [])
noncomputable def u25 (a0 : List (Ty.T y72)) : Option (AV × Sig) := cond (d68 a0) (cond (d23 3 (v68 a0)) (some (.one (.int .i64 (v23 3 (v68 a0))), [])) (none)) (none)
noncomputable def v25 (a0 : List (Ty.T y72)) : Int := cond (d68 a0) (cond (d23 3 (v68 a0)) ((v23 3 (v68 a0))) (0)) (0)
noncomputable def d25 (a0 : List (Ty.T y72)) : Bool := cond (d68 a0) (cond (d23 3 (v68 a0)) (true) (false)) (false)
theorem o25 (a0 : List (Ty.T y72)) : u25 a0 = cond (d25 a0) (some (f25 (v25 a0))) none := (par_cond (par_cond (par_some _) (par_none _)) (par_none _))
noncomputable def p25 : Prim := ⟨[.one (.dat (.sl 73 y72) true)], fun v => .br (d25 v.1) (.done (f25 (v25 v.1))) .no⟩
theorem ok25 : PrimOk Try.prog 25 p25 := primOk_eq hE25 orders fun v => Eq.trans (b := u25 v.1) (by kernel_rfl) (o25 v.1)
/-! ### spec.MostLeft -/
noncomputable def E27 : Env := { ti := ti, fn := fns, prim := [(22, p22), (68, p68)], eqt := eqts }
theorem hE27 : Env.Ok Try.prog E27 := Env.Ok.of tiOk fnOk (mem_cons ok22 <| mem_cons ok68 <| mem_nil) mem_nil (mem_nil) eqtOk
noncomputable def f27 (r : Int) : AV × Sig := (.one (.int .i64 r), [])
noncomputable def u27 (a0 : List (Ty.T y72)) : Option (AV × Sig) := cond (d68 a0) (cond (d22 3 (v68 a0)) (some (.one (.int .i64 (v22 3 (v68 a0))), [])) (none)) (none)
noncomputable def v27 (a0 : List (Ty.T y72)) : Int := cond (d68 a0) (cond (d22 3 (v68 a0)) ((v22 3 (v68 a0))) (0)) (0)
noncomputable def d27 (a0 : List (Ty.T y72)) : Bool := cond (d68 a0) (cond (d22 3 (v68 a0)) (true) (false)) (false)
theorem o27 (a0 : List (Ty.T y72)) : u27 a0 = cond (d27 a0) (some (f27 (v27 a0))) none := (par_cond (par_cond (par_some _) (par_none _)) (par_none _))
noncomputable def p27 : Prim := ⟨[.one (.dat (.sl 73 y72) true)], fun v => .br (d27 v.1) (.done (f27 (v27 v.1))) .no⟩
theorem ok27 : PrimOk Try.prog 27 p27 := primOk_eq hE27 orders fun v => Eq.trans (b := u27 v.1) (by kernel_rfl) (o27 v.1)
/-! ### spec.Chain -/
noncomputable def E72 : Env := { ti := ti, fn := fns, prim := [], eqt := eqts }
theorem hE72 : Env.Ok Try.prog E72 := Env.Ok.of tiOk fnOk (mem_nil) mem_nil (mem_nil) eqtOk
@[reducible] noncomputable def ss72_0 : List SP := [.und, .one (.ptr 1 0), .one (.dat (.int .i64) true), .one (.dat (.int .i64) true), .one (.dat (.int .i64) true), .und, .und, .und, .und, .und, .und, .und, .und, .und, .und, .und, .und, .und, .und, .und, .und, .und, .und, .und, .und, .und, .und, .und, .und, .und, .und, .und, .und, .und, .und, .und, .und, .und]
@[reducible] noncomputable def gs72_0 : List (Nat × GP) := [(1, .box 51 [.dat y50 true])]
noncomputable def t72_0 (v : (StT ss72_0 gs72_0)) {R : Type} (κ : Nat × (StT ss72_0 gs72_0) → Option R) : Option R := cond (decide (v.2.2.1 < ((v.2.2.2.1.2.2.2).length : Int))) (if 0 ≤ v.2.2.1 then (optC ((v.2.2.2.1.2.2.2)[(v.2.2.1).toNat]?) (fun x1 => cond (decide (x1.2.2.2.2.2.2.2 ≥ v.2.1)) (if 0 ≤ v.2.2.1 then (optC ((v.2.2.2.1.2.2.2)[(v.2.2.1).toNat]?) (fun x2 => cond (decide ((IntKind.wrap .i64 (x2.2.2.2.2.2.2.2 + (1 : Int))) > (0 : Int))) (if 0 ≤ v.2.2.1 then (optC ((v.2.2.2.1.2.2.2)[(v.2.2.1).toNat]?) (fun x3 => κ (0, (v.1, IntKind.wrap .i64 (x3.2.2.2.2.2.2.2 + (1 : Int)), IntKind.wrap .i64 (v.2.2.1 + (1 : Int)), v.2.2.2.1, ())))) else none) (κ (0, (v.1, v.2.1, IntKind.wrap .i64 (v.2.2.1 + (1 : Int)), v.2.2.2.1, ()))))) else none) (κ (0, (v.1, v.2.1, IntKind.wrap .i64 (v.2.2.1 + (1 : Int)), v.2.2.2.1, ()))))) else none) (κ (1, (v.1, v.2.1, v.2.2.1, v.2.2.2.1, ())))
noncomputable def s72_0 (v : (StT ss72_0 gs72_0)) : Option (Nat × (StT ss72_0 gs72_0)) := t72_0 v some
noncomputable def n72_0 (v : (StT ss72_0 gs72_0)) : Nat := v.1.toNat + v.2.1.toNat + v.2.2.1.toNat + v.2.2.2.1.1.length + v.2.2.2.1.2.1.length + v.2.2.2.1.2.2.1.length + v.2.2.2.1.2.2.2.length + 100
noncomputable def k72_0 (x0 : Int) (x1 : Int) (x2 : Int) (x3 : Ty.T y50) (c : Nat) : Bool := iterAt s72_0 (n72_0 (x0, x1, x2, x3, ())) (x0, x1, x2, x3, ()) c
noncomputable def w72_0 (x0 : Int) (x1 : Int) (x2 : Int) (x3 : Ty.T y50) : (StT ss72_0 gs72_0) := iterV s72_0 (n72_0 (x0, x1, x2, x3, ())) (x0, x1, x2, x3, ())
noncomputable def F72_0 (v : (StT ss72_0 gs72_0)) : Ways (Ex × St) := waysOf s72_0 (n72_0 v) v (bldSt ss72_0 gs72_0) [.exit 0] 0
theorem wf72_0 : wfSt ss72_0 gs72_0 := wf_of (by kernel_rfl)
theorem l72_0 : LoopOk Try.prog (loopAt [true, true, false, true] (bodyOf Try.f72)) ss72_0 gs72_0 F72_0 := loopOk_iter (lt := .none) (m := [false, true, true, true, true, false, false, false, false, false, false, false, false, false, false, false, false, false, false, false, false, false, false, false, false, false, false, false, false, false, false, false, false, false, false, false, false, false]) (keep := [1]) hE72 orders (LtOk.no _) fun n v K => Eq.trans (b := t72_0 v (kont _ _ _ _ _ _ K)) (by kernel_rfl) (show t72_0 v _ = (t72_0 v some).bind _ from (bnd_cond (bnd_ite (bnd_opt fun x1 => (bnd_cond (bnd_ite (bnd_opt fun x2 => (bnd_cond (bnd_ite (bnd_opt fun x3 => rfl)) rfl))) rfl))) rfl))
noncomputable def E72l : Env := { ti := ti, fn := fns, prim := [], eqt := eqts, lt := [(72, (ltPut [true, true, false, true] (bodyOf Try.f72) .none (.sum ss72_0 gs72_0 F72_0)))] }
theorem hE72l : Env.Ok Try.prog E72l := Env.Ok.of tiOk fnOk (mem_nil) (mem_cons (ltOk_of Try.func72 (LtOk.put wf72_0 (LtOk.no _) l72_0)) mem_nil) (mem_nil) eqtOk
noncomputable def f72 (r : Int) : AV × Sig := (.one (.int .i64 r), [])
noncomputable def u72 (a0 : Ty.T y50) : Option (AV × Sig) := cond (k72_0 0 0 0 a0 0) (some (.one (.int .i64 (w72_0 0 0 0 a0).2.1), [])) (none)
noncomputable def v72 (a0 : Ty.T y50) : Int := cond (k72_0 0 0 0 a0 0) ((w72_0 0 0 0 a0).2.1) (0)
noncomputable def d72 (a0 : Ty.T y50) : Bool := cond (k72_0 0 0 0 a0 0) (true) (false)
theorem o72 (a0 : Ty.T y50) : u72 a0 = cond (d72 a0) (some (f72 (v72 a0))) none := (par_cond (par_some _) (par_none _))
noncomputable def p72 : Prim := ⟨[.agg [.dat y50 true]], fun v => .br (d72 v.1) (.done (f72 (v72 v.1))) .no⟩
theorem ok72 : PrimOk Try.prog 72 p72 := primOk_eq hE72l orders fun v => Eq.trans (b := u72 v.1) (by kernel_rfl) (o72 v.1)
/-! ### spec.InBounds -/
noncomputable def E31 : Env := { ti := ti, fn := fns, prim := [(25, p25), (27, p27), (68, p68), (72, p72)], eqt := eqts }
theorem hE31 : Env.Ok Try.prog E31 := Env.Ok.of tiOk fnOk (mem_cons ok25 <| mem_cons ok27 <| mem_cons ok68 <| mem_cons ok72 <| mem_nil) mem_nil (mem_nil) eqtOk
noncomputable def f31 (r : Bool) : AV × Sig := (.one (.bool r), [])
noncomputable def u31 (a0 : List (Ty.T y72)) (a1 : Ty.T y50) : Option (AV × Sig) := cond (d25 a0) (cond (decide (((a1.2.2.2).length : Int) ≤ (v25 a0))) (cond (d27 a0) (cond (decide (((a1.1).length : Int) ≤ (v27 a0))) (cond (d72 a1) (cond (d68 a0) (some (.one (.bool (decide ((v72 a1) ≤ (v68 a0)))), [])) (none)) (none)) (some (.one (.bool false), []))) (none)) (some (.one (.bool false), []))) (none)
noncomputable def v31 (a0 : List (Ty.T y72)) (a1 : Ty.T y50) : Bool := cond (d25 a0) (cond (decide (((a1.2.2.2).length : Int) ≤ (v25 a0))) (cond (d27 a0) (cond (decide (((a1.1).length : Int) ≤ (v27 a0))) (cond (d72 a1) (cond (d68 a0) (decide ((v72 a1) ≤ (v68 a0))) (false)) (false)) (false)) (false)) (false)) (false)
noncomputable def d31 (a0 : List (Ty.T y72)) (a1 : Ty.T y50) : Bool := cond (d25 a0) (cond (decide (((a1.2.2.2).length : Int) ≤ (v25 a0))) (cond (d27 a0) (cond (decide (((a1.1).length : Int) ≤ (v27 a0))) (cond (d72 a1) (cond (d68 a0) (true) (false)) (false)) (true)) (false)) (true)) (false)
theorem o31 (a0 : List (Ty.T y72)) (a1 : Ty.T y50) : u31 a0 a1 = cond (d31 a0 a1) (some (f31 (v31 a0 a1))) none := (par_cond (par_cond (par_cond (par_cond (par_cond (par_cond (par_some _) (par_none _)) (par_none _)) (par_some _)) (par_none _)) (par_some _)) (par_none _))
noncomputable def p31 : Prim := ⟨[.one (.dat (.sl 73 y72) true), .agg [.dat y50 true]], fun v => .br (d31 v.1 v.2.1) (.done (f31 (v31 v.1 v.2.1))) .no⟩
theorem ok31 : PrimOk Try.prog 31 p31 := primOk_eq hE31 orders fun v => Eq.trans (b := u31 v.1 v.2.1) (by kernel_rfl) (o31 v.1 v.2.1)
/-! ### laws.toPat -/
noncomputable def E113 : Env := { ti := ti, fn := fns, prim := [], eqt := eqts }
theorem hE113 : Env.Ok Try.prog E113 := Env.Ok.of tiOk fnOk (mem_nil) mem_nil (mem_nil) eqtOk
noncomputable def f113 (r : (Ty.T y56)) : AV × Sig := (.agg (y56.cells false r), [])
noncomputable def u113 (a0 : Ty.T y56) : Option (AV × Sig) := some (.agg [.int .i64 a0.1, .int .i64 a0.2.1, .int .i64 a0.2.2.1, .int .i64 a0.2.2.2.1, .int .i64 a0.2.2.2.2.1, .int .i64 a0.2.2.2.2.2.1, .int .i64 a0.2.2.2.2.2.2], [])
noncomputable def v113 (a0 : Ty.T y56) : (Ty.T y56) := a0
theorem o113 (a0 : Ty.T y56) : u113 a0 = some (f113 (v113 a0)) := rfl
noncomputable def p113 : Prim := ⟨[.agg [.dat y56 true]], fun v => .done (f113 (v113 v.1))⟩
theorem ok113 : PrimOk Try.prog 113 p113 := primOk_eq hE113 orders fun v => Eq.trans (b := u113 v.1) (by kernel_rfl) (o113 v.1)
/-! ### laws.toGuard -/
noncomputable def E114 : Env := { ti := ti, fn := fns, prim := [], eqt := eqts }
theorem hE114 : Env.Ok Try.prog E114 := Env.Ok.of tiOk fnOk (mem_nil) mem_nil (mem_nil) eqtOk
noncomputable def f114 (r : (Ty.T y58)) : AV × Sig := (.agg (y58.cells false r), [])
noncomputable def u114 (a0 : Ty.T y58) : Option (AV × Sig) := some (.agg [.int .i64 a0.1, .int .i64 a0.2], [])
noncomputable def v114 (a0 : Ty.T y58) : (Ty.T y58) := a0
theorem o114 (a0 : Ty.T y58) : u114 a0 = some (f114 (v114 a0)) := rfl
noncomputable def p114 : Prim := ⟨[.agg [.dat y58 true]], fun v => .done (f114 (v114 v.1))⟩
theorem ok114 : PrimOk Try.prog 114 p114 := primOk_eq hE114 orders fun v => Eq.trans (b := u114 v.1) (by kernel_rfl) (o114 v.1)
/-! ### laws.toEvent -/
noncomputable def E116 : Env := { ti := ti, fn := fns, prim := [], eqt := eqts }
theorem hE116 : Env.Ok Try.prog E116 := Env.Ok.of tiOk fnOk (mem_nil) mem_nil (mem_nil) eqtOk
noncomputable def f116 (r : (Ty.T y124)) : AV × Sig := (.agg (y124.cells false r), [])
noncomputable def u116 (a0 : Ty.T y124) : Option (AV × Sig) := some (.agg [.int .i64 a0.1, .int .i64 a0.2.1, .int .i64 a0.2.2.1, .int .i64 a0.2.2.2.1, .int .i64 a0.2.2.2.2.1, .int .i64 a0.2.2.2.2.2.1, .bool a0.2.2.2.2.2.2], [])
noncomputable def v116 (a0 : Ty.T y124) : (Ty.T y124) := a0
theorem o116 (a0 : Ty.T y124) : u116 a0 = some (f116 (v116 a0)) := rfl
noncomputable def p116 : Prim := ⟨[.agg [.dat y124 true]], fun v => .done (f116 (v116 v.1))⟩
theorem ok116 : PrimOk Try.prog 116 p116 := primOk_eq hE116 orders fun v => Eq.trans (b := u116 v.1) (by kernel_rfl) (o116 v.1)
/-! ### laws.toEventS -/
noncomputable def E74 : Env := { ti := ti, fn := fns, prim := [(116, p116)], eqt := eqts }
theorem hE74 : Env.Ok Try.prog E74 := Env.Ok.of tiOk fnOk (mem_cons ok116 <| mem_nil) mem_nil (mem_nil) eqtOk
@[reducible] noncomputable def ss74_0 : List SP := [.one (.dat (.sl 135 y124) true), .und, .one (.dat (.sl 125 y124) false), .one (.own 7), .one (.dat (.int .i64) true), .und, .und, .und, .und, .und, .und, .und, .und, .und, .und, .und, .und, .und, .und, .und, .und, .und, .und]
@[reducible] noncomputable def gs74_0 : List (Nat × GP) := [(7, .arr 125 y124 false)]
noncomputable def t74_0 (v : (StT ss74_0 gs74_0)) {R : Type} (κ : Nat × (StT ss74_0 gs74_0) → Option R) : Option R := cond (decide (v.2.2.1 < ((v.1).length : Int))) (if 0 ≤ v.2.2.1 then (optC ((v.1)[(v.2.2.1).toNat]?) (fun x1 => if 0 ≤ v.2.2.1 then (if v.2.2.1 < ((v.2.2.2.1).length : Int) then (optC ((v.2.2.2.1)[(v.2.2.1).toNat]?) (fun x2 => κ (0, (v.1, v.2.1, IntKind.wrap .i64 (v.2.2.1 + (1 : Int)), v.2.2.2.1.set ((v.2.2.1).toNat) (v116 x1), ())))) else none) else none)) else none) (κ (1, (v.1, v.2.1, v.2.2.1, v.2.2.2.1, ())))
noncomputable def s74_0 (v : (StT ss74_0 gs74_0)) : Option (Nat × (StT ss74_0 gs74_0)) := t74_0 v some
noncomputable def n74_0 (v : (StT ss74_0 gs74_0)) : Nat := v.1.length + v.2.1.length + v.2.2.1.toNat + v.2.2.2.1.length + 100
noncomputable def k74_0 (x0 : List (Ty.T y124)) (x1 : List (Ty.T y124)) (x2 : Int) (x3 : List (Ty.T y124)) (c : Nat) : Bool := iterAt s74_0 (n74_0 (x0, x1, x2, x3, ())) (x0, x1, x2, x3, ()) c
noncomputable def w74_0 (x0 : List (Ty.T y124)) (x1 : List (Ty.T y124)) (x2 : Int) (x3 : List (Ty.T y124)) : (StT ss74_0 gs74_0) := iterV s74_0 (n74_0 (x0, x1, x2, x3, ())) (x0, x1, x2, x3, ())
noncomputable def F74_0 (v : (StT ss74_0 gs74_0)) : Ways (Ex × St) := waysOf s74_0 (n74_0 v) v (bldSt ss74_0 gs74_0) [.exit 0] 0
theorem wf74_0 : wfSt ss74_0 gs74_0 := wf_of (by kernel_rfl)
theorem l74_0 : LoopOk Try.prog (loopAt [true, true, false, true] (bodyOf Try.f74)) ss74_0 gs74_0 F74_0 := loopOk_iter (lt := .none) (m := [true, false, true, true, true, false, false, false, false, false, false, false, false, false, false, false, false, false, false, false, false, false, false]) (keep := [7]) hE74 orders (LtOk.no _) fun n v K => Eq.trans (b := t74_0 v (kont _ _ _ _ _ _ K)) (by kernel_rfl) (show t74_0 v _ = (t74_0 v some).bind _ from (bnd_cond (bnd_ite (bnd_opt fun x1 => (bnd_ite (bnd_ite (bnd_opt fun x2 => rfl))))) rfl))
noncomputable def E74l : Env := { ti := ti, fn := fns, prim := [(116, p116)], eqt := eqts, lt := [(74, (ltPut [true, true, false, true] (bodyOf Try.f74) .none (.sum ss74_0 gs74_0 F74_0)))] }
theorem hE74l : Env.Ok Try.prog E74l := Env.Ok.of tiOk fnOk (mem_cons ok116 <| mem_nil) (mem_cons (ltOk_of Try.func74 (LtOk.put wf74_0 (LtOk.no _) l74_0)) mem_nil) (mem_nil) eqtOk
noncomputable def f74 (r : (List (Ty.T y124))) : AV × Sig := (.one (.sl 4096), [(4096, .arr 125 y124 r false)])
noncomputable def u74 (a0 : List (Ty.T y124)) : Option (AV × Sig) := if ((a0).length : Int) = ((a0).length : Int) then (if ((a0).length : Int).toNat * 56 ≤ 140737488351232 then (cond (k74_0 a0 [] 0 (List.replicate ((a0).length : Int).toNat ((0, (0, (0, (0, (0, (0, false)))))) : Ty.T y124)) 0) (some (.one (.sl 4096), [(4096, .arr 125 y124 (w74_0 a0 [] 0 (List.replicate ((a0).length : Int).toNat ((0, (0, (0, (0, (0, (0, false)))))) : Ty.T y124))).2.2.2.1 false)])) (none)) else none) else none
noncomputable def v74 (a0 : List (Ty.T y124)) : (List (Ty.T y124)) := cond (k74_0 a0 [] 0 (List.replicate ((a0).length : Int).toNat ((0, (0, (0, (0, (0, (0, false)))))) : Ty.T y124)) 0) ((w74_0 a0 [] 0 (List.replicate ((a0).length : Int).toNat ((0, (0, (0, (0, (0, (0, false)))))) : Ty.T y124))).2.2.2.1) ([])
noncomputable def d74 (a0 : List (Ty.T y124)) : Bool := decide (((a0).length : Int) = ((a0).length : Int)) && (decide (((a0).length : Int).toNat * 56 ≤ 140737488351232) && (cond (k74_0 a0 [] 0 (List.replicate ((a0).length : Int).toNat ((0, (0, (0, (0, (0, (0, false)))))) : Ty.T y124)) 0) (true) (false)))
theorem o74 (a0 : List (Ty.T y124)) : u74 a0 = cond (d74 a0) (some (f74 (v74 a0))) none := (par_ite (par_ite (par_cond (par_some _) (par_none _))))
noncomputable def p74 : Prim := ⟨[.one (.dat (.sl 135 y124) true)], fun v => .br (d74 v.1) (.done (f74 (v74 v.1))) .no⟩
theorem ok74 : PrimOk Try.prog 74 p74 := primOk_eq hE74l orders fun v => Eq.trans (b := u74 v.1) (by kernel_rfl) (o74 v.1)
/-! ### laws.toAct -/
noncomputable def E115 : Env := { ti := ti, fn := fns, prim := [(74, p74)], eqt := eqts }
theorem hE115 : Env.Ok Try.prog E115 := Env.Ok.of tiOk fnOk (mem_cons ok74 <| mem_nil) mem_nil (mem_nil) eqtOk
noncomputable def f115 (r : Int × Int × Int × Int × Int × Bool × (List (Ty.T y124))) : AV × Sig := (.agg [.int .i64 r.1, .int .i64 r.2.1, .int .i64 r.2.2.1, .int .i64 r.2.2.2.1, .int .i64 r.2.2.2.2.1, .bool r.2.2.2.2.2.1, .sl 28672], [(28672, .arr 125 y124 r.2.2.2.2.2.2 false)])
noncomputable def u115 (a0 : Ty.T y60) : Option (AV × Sig) := cond (d74 a0.2.2.2.2.2.2) (some (.agg [.int .i64 a0.1, .int .i64 a0.2.1, .int .i64 a0.2.2.1, .int .i64 a0.2.2.2.1, .int .i64 a0.2.2.2.2.1, .bool a0.2.2.2.2.2.1, .sl 28672], [(28672, .arr 125 y124 (v74 a0.2.2.2.2.2.2) false)])) (none)
noncomputable def v115 (a0 : Ty.T y60) : Int × Int × Int × Int × Int × Bool × (List (Ty.T y124)) := cond (d74 a0.2.2.2.2.2.2) ((a0.1, a0.2.1, a0.2.2.1, a0.2.2.2.1, a0.2.2.2.2.1, a0.2.2.2.2.2.1, (v74 a0.2.2.2.2.2.2))) ((0, 0, 0, 0, 0, false, []))
noncomputable def d115 (a0 : Ty.T y60) : Bool := cond (d74 a0.2.2.2.2.2.2) (true) (false)
theorem o115 (a0 : Ty.T y60) : u115 a0 = cond (d115 a0) (some (f115 (v115 a0))) none := (par_cond (par_some _) (par_none _))
noncomputable def p115 : Prim := ⟨[.agg [.dat y60 true]], fun v => .br (d115 v.1) (.done (f115 (v115 v.1))) .no⟩
theorem ok115 : PrimOk Try.prog 115 p115 := primOk_eq hE115 orders fun v => Eq.trans (b := u115 v.1) (by kernel_rfl) (o115 v.1)
/-! ### laws.toEffect -/
noncomputable def E73 : Env := { ti := ti, fn := fns, prim := [(113, p113), (114, p114), (115, p115)], eqt := eqts }
theorem hE73 : Env.Ok Try.prog E73 := Env.Ok.of tiOk fnOk (mem_cons ok113 <| mem_cons ok114 <| mem_cons ok115 <| mem_nil) mem_nil (mem_nil) eqtOk
noncomputable def f73 (r : Int × Int × Int × Int × Int × Int × Int × Int × Int × Int × Int × Int × Int × Int × Int × Int × Int × Int × Bool × Int × Int × (List (Ty.T y124))) : AV × Sig := (.agg [.int .i64 r.1, .int .i64 r.2.1, .int .i64 r.2.2.1, .int .i64 r.2.2.2.1, .int .i64 r.2.2.2.2.1, .int .i64 r.2.2.2.2.2.1, .int .i64 r.2.2.2.2.2.2.1, .int .i64 r.2.2.2.2.2.2.2.1, .int .i64 r.2.2.2.2.2.2.2.2.1, .int .i64 r.2.2.2.2.2.2.2.2.2.1, .int .i64 r.2.2.2.2.2.2.2.2.2.2.1, .int .i64 r.2.2.2.2.2.2.2.2.2.2.2.1, .int .i64 r.2.2.2.2.2.2.2.2.2.2.2.2.1, .int .i64 r.2.2.2.2.2.2.2.2.2.2.2.2.2.1, .int .i64 r.2.2.2.2.2.2.2.2.2.2.2.2.2.2.1, .int .i64 r.2.2.2.2.2.2.2.2.2.2.2.2.2.2.2.1, .int .i64 r.2.2.2.2.2.2.2.2.2.2.2.2.2.2.2.2.1, .int .i64 r.2.2.2.2.2.2.2.2.2.2.2.2.2.2.2.2.2.1, .bool r.2.2.2.2.2.2.2.2.2.2.2.2.2.2.2.2.2.2.1, .sl 81920, .int .i64 r.2.2.2.2.2.2.2.2.2.2.2.2.2.2.2.2.2.2.2.1, .int .i64 r.2.2.2.2.2.2.2.2.2.2.2.2.2.2.2.2.2.2.2.2.1], [(81920, .arr 125 y124 r.2.2.2.2.2.2.2.2.2.2.2.2.2.2.2.2.2.2.2.2.2 false)])
noncomputable def u73 (a0 : Ty.T y62) : Option (AV × Sig) := cond (d115 a0.2.2.2.2.2.2.1) (some (.agg [.int .i64 a0.1, .int .i64 a0.2.1, .int .i64 a0.2.2.1, .int .i64 a0.2.2.2.1, .int .i64 (v113 a0.2.2.2.2.1).1, .int .i64 (v113 a0.2.2.2.2.1).2.1, .int .i64 (v113 a0.2.2.2.2.1).2.2.1, .int .i64 (v113 a0.2.2.2.2.1).2.2.2.1, .int .i64 (v113 a0.2.2.2.2.1).2.2.2.2.1, .int .i64 (v113 a0.2.2.2.2.1).2.2.2.2.2.1, .int .i64 (v113 a0.2.2.2.2.1).2.2.2.2.2.2, .int .i64 (v114 a0.2.2.2.2.2.1).1, .int .i64 (v114 a0.2.2.2.2.2.1).2, .int .i64 (v115 a0.2.2.2.2.2.2.1).1, .int .i64 (v115 a0.2.2.2.2.2.2.1).2.1, .int .i64 (v115 a0.2.2.2.2.2.2.1).2.2.1, .int .i64 (v115 a0.2.2.2.2.2.2.1).2.2.2.1, .int .i64 (v115 a0.2.2.2.2.2.2.1).2.2.2.2.1, .bool (v115 a0.2.2.2.2.2.2.1).2.2.2.2.2.1, .sl 81920, .int .i64 a0.2.2.2.2.2.2.2.1, .int .i64 a0.2.2.2.2.2.2.2.2], [(81920, .arr 125 y124 (v115 a0.2.2.2.2.2.2.1).2.2.2.2.2.2 false)])) (none)
noncomputable def v73 (a0 : Ty.T y62) : Int × Int × Int × Int × Int × Int × Int × Int × Int × Int × Int × Int × Int × Int × Int × Int × Int × Int × Bool × Int × Int × (List (Ty.T y124)) := cond (d115 a0.2.2.2.2.2.2.1) ((a0.1, a0.2.1, a0.2.2.1, a0.2.2.2.1, (v113 a0.2.2.2.2.1).1, (v113 a0.2.2.2.2.1).2.1, (v113 a0.2.2.2.2.1).2.2.1, (v113 a0.2.2.2.2.1).2.2.2.1, (v113 a0.2.2.2.2.1).2.2.2.2.1, (v113 a0.2.2.2.2.1).2.2.2.2.2.1, (v113 a0.2.2.2.2.1).2.2.2.2.2.2, (v114 a0.2.2.2.2.2.1).1, (v114 a0.2.2.2.2.2.1).2, (v115 a0.2.2.2.2.2.2.1).1, (v115 a0.2.2.2.2.2.2.1).2.1, (v115 a0.2.2.2.2.2.2.1).2.2.1, (v115 a0.2.2.2.2.2.2.1).2.2.2.1, (v115 a0.2.2.2.2.2.2.1).2.2.2.2.1, (v115 a0.2.2.2.2.2.2.1).2.2.2.2.2.1, a0.2.2.2.2.2.2.2.1, a0.2.2.2.2.2.2.2.2, (v115 a0.2.2.2.2.2.2.1).2.2.2.2.2.2)) ((0, 0, 0, 0, 0, 0, 0, 0, 0, 0, 0, 0, 0, 0, 0, 0, 0, 0, false, 0, 0, []))
noncomputable def d73 (a0 : Ty.T y62) : Bool := cond (d115 a0.2.2.2.2.2.2.1) (true) (false)
theorem o73 (a0 : Ty.T y62) : u73 a0 = cond (d73 a0) (some (f73 (v73 a0))) none := (par_cond (par_some _) (par_none _))
noncomputable def p73 : Prim := ⟨[.agg [.dat y62 true]], fun v => .br (d73 v.1) (.done (f73 (v73 v.1))) .no⟩
theorem ok73 : PrimOk Try.prog 73 p73 := primOk_eq hE73 orders fun v => Eq.trans (b := u73 v.1) (by kernel_rfl) (o73 v.1)
/-! ### laws.toEffectS -/
noncomputable def E32 : Env := { ti := ti, fn := fns, prim := [(73, p73)], eqt := eqts }
theorem hE32 : Env.Ok Try.prog E32 := Env.Ok.of tiOk fnOk (mem_cons ok73 <| mem_nil) mem_nil (mem_nil) eqtOk
@[reducible] noncomputable def ss32_0 : List SP := [.one (.dat (.sl 63 y62) true), .und, .one (.dat (.sl 73 y72) false), .one (.own 7), .one (.dat (.int .i64) true), .und, .und, .und, .und, .und, .und, .und, .und, .und, .und, .und, .und, .und, .und, .und, .und, .und, .und]
@[reducible] noncomputable def gs32_0 : List (Nat × GP) := [(7, .arr 73 y72 false)]
noncomputable def t32_0 (v : (StT ss32_0 gs32_0)) {R : Type} (κ : Nat × (StT ss32_0 gs32_0) → Option R) : Option R := cond (decide (v.2.2.1 < ((v.1).length : Int))) (if 0 ≤ v.2.2.1 then (optC ((v.1)[(v.2.2.1).toNat]?) (fun x1 => cond (d73 x1) (if 0 ≤ v.2.2.1 then (if v.2.2.1 < ((v.2.2.2.1).length : Int) then (optC ((v.2.2.2.1)[(v.2.2.1).toNat]?) (fun x2 => κ (0, (v.1, v.2.1, IntKind.wrap .i64 (v.2.2.1 + (1 : Int)), v.2.2.2.1.set ((v.2.2.1).toNat) ((v73 x1).1, ((v73 x1).2.1, ((v73 x1).2.2.1, ((v73 x1).2.2.2.1, (((v73 x1).2.2.2.2.1, ((v73 x1).2.2.2.2.2.1, ((v73 x1).2.2.2.2.2.2.1, ((v73 x1).2.2.2.2.2.2.2.1, ((v73 x1).2.2.2.2.2.2.2.2.1, ((v73 x1).2.2.2.2.2.2.2.2.2.1, (v73 x1).2.2.2.2.2.2.2.2.2.2.1)))))), (((v73 x1).2.2.2.2.2.2.2.2.2.2.2.1, (v73 x1).2.2.2.2.2.2.2.2.2.2.2.2.1), (((v73 x1).2.2.2.2.2.2.2.2.2.2.2.2.2.1, ((v73 x1).2.2.2.2.2.2.2.2.2.2.2.2.2.2.1, ((v73 x1).2.2.2.2.2.2.2.2.2.2.2.2.2.2.2.1, ((v73 x1).2.2.2.2.2.2.2.2.2.2.2.2.2.2.2.2.1, ((v73 x1).2.2.2.2.2.2.2.2.2.2.2.2.2.2.2.2.2.1, ((v73 x1).2.2.2.2.2.2.2.2.2.2.2.2.2.2.2.2.2.2.1, (v73 x1).2.2.2.2.2.2.2.2.2.2.2.2.2.2.2.2.2.2.2.2.2)))))), ((v73 x1).2.2.2.2.2.2.2.2.2.2.2.2.2.2.2.2.2.2.2.1, (v73 x1).2.2.2.2.2.2.2.2.2.2.2.2.2.2.2.2.2.2.2.2.1)))))))), ())))) else none) else none) (none))) else none) (κ (1, (v.1, v.2.1, v.2.2.1, v.2.2.2.1, ())))
noncomputable def s32_0 (v : (StT ss32_0 gs32_0)) : Option (Nat × (StT ss32_0 gs32_0)) := t32_0 v some
noncomputable def n32_0 (v : (StT ss32_0 gs32_0)) : Nat := v.1.length + v.2.1.length + v.2.2.1.toNat + v.2.2.2.1.length + 100
noncomputable def k32_0 (x0 : List (Ty.T y62)) (x1 : List (Ty.T y72)) (x2 : Int) (x3 : List (Ty.T y72)) (c : Nat) : Bool := iterAt s32_0 (n32_0 (x0, x1, x2, x3, ())) (x0, x1, x2, x3, ()) c
noncomputable def w32_0 (x0 : List (Ty.T y62)) (x1 : List (Ty.T y72)) (x2 : Int) (x3 : List (Ty.T y72)) : (StT ss32_0 gs32_0) := iterV s32_0 (n32_0 (x0, x1, x2, x3, ())) (x0, x1, x2, x3, ())
noncomputable def F32_0 (v : (StT ss32_0 gs32_0)) : Ways (Ex × St) := waysOf s32_0 (n32_0 v) v (bldSt ss32_0 gs32_0) [.exit 0] 0
theorem wf32_0 : wfSt ss32_0 gs32_0 := wf_of (by kernel_rfl)
theorem l32_0 : LoopOk Try.prog (loopAt [true, true, false, true] (bodyOf Try.f32)) ss32_0 gs32_0 F32_0 := loopOk_iter (lt := .none) (m := [true, false, true, true, true, false, false, false, false, false, false, false, false, false, false, false, false, false, false, false, false, false, false]) (keep := [7]) hE32 orders (LtOk.no _) fun n v K => Eq.trans (b := t32_0 v (kont _ _ _ _ _ _ K)) (by kernel_rfl) (show t32_0 v _ = (t32_0 v some).bind _ from (bnd_cond (bnd_ite (bnd_opt fun x1 => (bnd_cond (bnd_ite (bnd_ite (bnd_opt fun x2 => rfl))) rfl))) rfl))
noncomputable def E32l : Env := { ti := ti, fn := fns, prim := [(73, p73)], eqt := eqts, lt := [(32, (ltPut [true, true, false, true] (bodyOf Try.f32) .none (.sum ss32_0 gs32_0 F32_0)))] }
theorem hE32l : Env.Ok Try.prog E32l := Env.Ok.of tiOk fnOk (mem_cons ok73 <| mem_nil) (mem_cons (ltOk_of Try.func32 (LtOk.put wf32_0 (LtOk.no _) l32_0)) mem_nil) (mem_nil) eqtOk
noncomputable def f32 (r : (List (Ty.T y72))) : AV × Sig := (.one (.sl 4096), [(4096, .arr 73 y72 r false)])
noncomputable def u32 (a0 : List (Ty.T y62)) : Option (AV × Sig) := if ((a0).length : Int) = ((a0).length : Int) then (if ((a0).length : Int).toNat * 192 ≤ 140737488351232 then (cond (k32_0 a0 [] 0 (List.replicate ((a0).length : Int).toNat ((0, (0, (0, (0, ((0, (0, (0, (0, (0, (0, 0)))))), ((0, 0), ((0, (0, (0, (0, (0, (false, [])))))), (0, 0)))))))) : Ty.T y72)) 0) (some (.one (.sl 4096), [(4096, .arr 73 y72 (w32_0 a0 [] 0 (List.replicate ((a0).length : Int).toNat ((0, (0, (0, (0, ((0, (0, (0, (0, (0, (0, 0)))))), ((0, 0), ((0, (0, (0, (0, (0, (false, [])))))), (0, 0)))))))) : Ty.T y72))).2.2.2.1 false)])) (none)) else none) else none
noncomputable def v32 (a0 : List (Ty.T y62)) : (List (Ty.T y72)) := cond (k32_0 a0 [] 0 (List.replicate ((a0).length : Int).toNat ((0, (0, (0, (0, ((0, (0, (0, (0, (0, (0, 0)))))), ((0, 0), ((0, (0, (0, (0, (0, (false, [])))))), (0, 0)))))))) : Ty.T y72)) 0) ((w32_0 a0 [] 0 (List.replicate ((a0).length : Int).toNat ((0, (0, (0, (0, ((0, (0, (0, (0, (0, (0, 0)))))), ((0, 0), ((0, (0, (0, (0, (0, (false, [])))))), (0, 0)))))))) : Ty.T y72))).2.2.2.1) ([])
noncomputable def d32 (a0 : List (Ty.T y62)) : Bool := decide (((a0).length : Int) = ((a0).length : Int)) && (decide (((a0).length : Int).toNat * 192 ≤ 140737488351232) && (cond (k32_0 a0 [] 0 (List.replicate ((a0).length : Int).toNat ((0, (0, (0, (0, ((0, (0, (0, (0, (0, (0, 0)))))), ((0, 0), ((0, (0, (0, (0, (0, (false, [])))))), (0, 0)))))))) : Ty.T y72)) 0) (true) (false)))
theorem o32 (a0 : List (Ty.T y62)) : u32 a0 = cond (d32 a0) (some (f32 (v32 a0))) none := (par_ite (par_ite (par_cond (par_some _) (par_none _))))
noncomputable def p32 : Prim := ⟨[.one (.dat (.sl 63 y62) true)], fun v => .br (d32 v.1) (.done (f32 (v32 v.1))) .no⟩
theorem ok32 : PrimOk Try.prog 32 p32 := primOk_eq hE32l orders fun v => Eq.trans (b := u32 v.1) (by kernel_rfl) (o32 v.1)
/-! ### laws.toIntS -/
noncomputable def E11 : Env := { ti := ti, fn := fns, prim := [], eqt := eqts }
theorem hE11 : Env.Ok Try.prog E11 := Env.Ok.of tiOk fnOk (mem_nil) mem_nil (mem_nil) eqtOk
@[reducible] noncomputable def ss11_0 : List SP := [.one (.dat (.sl 3 (.int .i64)) true), .und, .one (.dat (.sl 3 (.int .i64)) false), .one (.own 7), .one (.dat (.int .i64) true), .und, .und, .und, .und, .und, .und, .und, .und, .und, .und, .und, .und, .und, .und, .und, .und, .und]
@[reducible] noncomputable def gs11_0 : List (Nat × GP) := [(7, .arr 3 (.int .i64) false)]
noncomputable def t11_0 (v : (StT ss11_0 gs11_0)) {R : Type} (κ : Nat × (StT ss11_0 gs11_0) → Option R) : Option R := cond (decide (v.2.2.1 < ((v.1).length : Int))) (if 0 ≤ v.2.2.1 then (optC ((v.1)[(v.2.2.1).toNat]?) (fun x1 => if 0 ≤ v.2.2.1 then (if v.2.2.1 < ((v.2.2.2.1).length : Int) then (optC ((v.2.2.2.1)[(v.2.2.1).toNat]?) (fun x2 => κ (0, (v.1, v.2.1, IntKind.wrap .i64 (v.2.2.1 + (1 : Int)), v.2.2.2.1.set ((v.2.2.1).toNat) x1, ())))) else none) else none)) else none) (κ (1, (v.1, v.2.1, v.2.2.1, v.2.2.2.1, ())))
noncomputable def s11_0 (v : (StT ss11_0 gs11_0)) : Option (Nat × (StT ss11_0 gs11_0)) := t11_0 v some
noncomputable def n11_0 (v : (StT ss11_0 gs11_0)) : Nat := v.1.length + v.2.1.length + v.2.2.1.toNat + v.2.2.2.1.length + 100
noncomputable def k11_0 (x0 : List (Ty.T (.int .i64))) (x1 : List (Ty.T (.int .i64))) (x2 : Int) (x3 : List (Ty.T (.int .i64))) (c : Nat) : Bool := iterAt s11_0 (n11_0 (x0, x1, x2, x3, ())) (x0, x1, x2, x3, ()) c
noncomputable def w11_0 (x0 : List (Ty.T (.int .i64))) (x1 : List (Ty.T (.int .i64))) (x2 : Int) (x3 : List (Ty.T (.int .i64))) : (StT ss11_0 gs11_0) := iterV s11_0 (n11_0 (x0, x1, x2, x3, ())) (x0, x1, x2, x3, ())
noncomputable def F11_0 (v : (StT ss11_0 gs11_0)) : Ways (Ex × St) := waysOf s11_0 (n11_0 v) v (bldSt ss11_0 gs11_0) [.exit 0] 0
theorem wf11_0 : wfSt ss11_0 gs11_0 := wf_of (by kernel_rfl)
theorem l11_0 : LoopOk Try.prog (loopAt [true, true, false, true] (bodyOf Try.f11)) ss11_0 gs11_0 F11_0 := loopOk_iter (lt := .none) (m := [true, false, true, true, true, false, false, false, false, false, false, false, false, false, false, false, false, false, false, false, false, false]) (keep := [7]) hE11 orders (LtOk.no _) fun n v K => Eq.trans (b := t11_0 v (kont _ _ _ _ _ _ K)) (by kernel_rfl) (show t11_0 v _ = (t11_0 v some).bind _ from (bnd_cond (bnd_ite (bnd_opt fun x1 => (bnd_ite (bnd_ite (bnd_opt fun x2 => rfl))))) rfl))
noncomputable def E11l : Env := { ti := ti, fn := fns, prim := [], eqt := eqts, lt := [(11, (ltPut [true, true, false, true] (bodyOf Try.f11) .none (.sum ss11_0 gs11_0 F11_0)))] }
theorem hE11l : Env.Ok Try.prog E11l := Env.Ok.of tiOk fnOk (mem_nil) (mem_cons (ltOk_of Try.func11 (LtOk.put wf11_0 (LtOk.no _) l11_0)) mem_nil) (mem_nil) eqtOk
noncomputable def f11 (r : (List (Ty.T (.int .i64)))) : AV × Sig := (.one (.sl 4096), [(4096, .arr 3 (.int .i64) r false)])
noncomputable def u11 (a0 : List (Ty.T (.int .i64))) : Option (AV × Sig) := if ((a0).length : Int) = ((a0).length : Int) then (if ((a0).length : Int).toNat * 8 ≤ 140737488351232 then (cond (k11_0 a0 [] 0 (List.replicate ((a0).length : Int).toNat (0 : Ty.T (.int .i64))) 0) (some (.one (.sl 4096), [(4096, .arr 3 (.int .i64) (w11_0 a0 [] 0 (List.replicate ((a0).length : Int).toNat (0 : Ty.T (.int .i64)))).2.2.2.1 false)])) (none)) else none) else none
noncomputable def v11 (a0 : List (Ty.T (.int .i64))) : (List (Ty.T (.int .i64))) := cond (k11_0 a0 [] 0 (List.replicate ((a0).length : Int).toNat (0 : Ty.T (.int .i64))) 0) ((w11_0 a0 [] 0 (List.replicate ((a0).length : Int).toNat (0 : Ty.T (.int .i64)))).2.2.2.1) ([])
noncomputable def d11 (a0 : List (Ty.T (.int .i64))) : Bool := decide (((a0).length : Int) = ((a0).length : Int)) && (decide (((a0).length : Int).toNat * 8 ≤ 140737488351232) && (cond (k11_0 a0 [] 0 (List.replicate ((a0).length : Int).toNat (0 : Ty.T (.int .i64))) 0) (true) (false)))
theorem o11 (a0 : List (Ty.T (.int .i64))) : u11 a0 = cond (d11 a0) (some (f11 (v11 a0))) none := (par_ite (par_ite (par_cond (par_some _) (par_none _))))
noncomputable def p11 : Prim := ⟨[.one (.dat (.sl 3 (.int .i64)) true)], fun v => .br (d11 v.1) (.done (f11 (v11 v.1))) .no⟩
theorem ok11 : PrimOk Try.prog 11 p11 := primOk_eq hE11l orders fun v => Eq.trans (b := u11 v.1) (by kernel_rfl) (o11 v.1)
/-! ### laws.toTurn -/
noncomputable def E117 : Env := { ti := ti, fn := fns, prim := [(116, p116), (74, p74)], eqt := eqts }
theorem hE117 : Env.Ok Try.prog E117 := Env.Ok.of tiOk fnOk (mem_cons ok116 <| mem_cons ok74 <| mem_nil) mem_nil (mem_nil) eqtOk
noncomputable def f117 (r : Int × Int × Int × Int × Int × Int × Int × Int × Int × Int × Bool × Int × Int × (List (Ty.T y124))) : AV × Sig := (.agg [.int .i64 r.1, .int .i64 r.2.1, .int .i64 r.2.2.1, .int .i64 r.2.2.2.1, .int .i64 r.2.2.2.2.1, .int .i64 r.2.2.2.2.2.1, .int .i64 r.2.2.2.2.2.2.1, .int .i64 r.2.2.2.2.2.2.2.1, .int .i64 r.2.2.2.2.2.2.2.2.1, .int .i64 r.2.2.2.2.2.2.2.2.2.1, .bool r.2.2.2.2.2.2.2.2.2.2.1, .sl 49152, .int .i64 r.2.2.2.2.2.2.2.2.2.2.2.1, .int .i64 r.2.2.2.2.2.2.2.2.2.2.2.2.1], [(49152, .arr 125 y124 r.2.2.2.2.2.2.2.2.2.2.2.2.2 false)])
noncomputable def u117 (a0 : Ty.T y156) : Option (AV × Sig) := cond (d74 a0.2.2.2.2.2.1) (some (.agg [.int .i64 a0.1, .int .i64 a0.2.1, .int .i64 a0.2.2.1, .int .i64 a0.2.2.2.1, .int .i64 (v116 a0.2.2.2.2.1).1, .int .i64 (v116 a0.2.2.2.2.1).2.1, .int .i64 (v116 a0.2.2.2.2.1).2.2.1, .int .i64 (v116 a0.2.2.2.2.1).2.2.2.1, .int .i64 (v116 a0.2.2.2.2.1).2.2.2.2.1, .int .i64 (v116 a0.2.2.2.2.1).2.2.2.2.2.1, .bool (v116 a0.2.2.2.2.1).2.2.2.2.2.2, .sl 49152, .int .i64 a0.2.2.2.2.2.2.1, .int .i64 a0.2.2.2.2.2.2.2], [(49152, .arr 125 y124 (v74 a0.2.2.2.2.2.1) false)])) (none)
noncomputable def v117 (a0 : Ty.T y156) : Int × Int × Int × Int × Int × Int × Int × Int × Int × Int × Bool × Int × Int × (List (Ty.T y124)) := cond (d74 a0.2.2.2.2.2.1) ((a0.1, a0.2.1, a0.2.2.1, a0.2.2.2.1, (v116 a0.2.2.2.2.1).1, (v116 a0.2.2.2.2.1).2.1, (v116 a0.2.2.2.2.1).2.2.1, (v116 a0.2.2.2.2.1).2.2.2.1, (v116 a0.2.2.2.2.1).2.2.2.2.1, (v116 a0.2.2.2.2.1).2.2.2.2.2.1, (v116 a0.2.2.2.2.1).2.2.2.2.2.2, a0.2.2.2.2.2.2.1, a0.2.2.2.2.2.2.2, (v74 a0.2.2.2.2.2.1))) ((0, 0, 0, 0, 0, 0, 0, 0, 0, 0, false, 0, 0, []))
noncomputable def d117 (a0 : Ty.T y156) : Bool := cond (d74 a0.2.2.2.2.2.1) (true) (false)
theorem o117 (a0 : Ty.T y156) : u117 a0 = cond (d117 a0) (some (f117 (v117 a0))) none := (par_cond (par_some _) (par_none _))
noncomputable def p117 : Prim := ⟨[.agg [.dat y156 true]], fun v => .br (d117 v.1) (.done (f117 (v117 v.1))) .no⟩
theorem ok117 : PrimOk Try.prog 117 p117 := primOk_eq hE117 orders fun v => Eq.trans (b := u117 v.1) (by kernel_rfl) (o117 v.1)
/-! ### laws.toTurnS -/
noncomputable def E75 : Env := { ti := ti, fn := fns, prim := [(117, p117)], eqt := eqts }
theorem hE75 : Env.Ok Try.prog E75 := Env.Ok.of tiOk fnOk (mem_cons ok117 <| mem_nil) mem_nil (mem_nil) eqtOk
@[reducible] noncomputable def ss75_0 : List SP := [.one (.dat (.sl 157 y156) true), .und, .one (.dat (.sl 159 y158) false), .one (.own 7), .one (.dat (.int .i64) true), .und, .und, .und, .und, .und, .und, .und, .und, .und, .und, .und, .und, .und, .und, .und, .und, .und, .und]
@[reducible] noncomputable def gs75_0 : List (Nat × GP) := [(7, .arr 159 y158 false)]
noncomputable def t75_0 (v : (StT ss75_0 gs75_0)) {R : Type} (κ : Nat × (StT ss75_0 gs75_0) → Option R) : Option R := cond (decide (v.2.2.1 < ((v.1).length : Int))) (if 0 ≤ v.2.2.1 then (optC ((v.1)[(v.2.2.1).toNat]?) (fun x1 => cond (d117 x1) (if 0 ≤ v.2.2.1 then (if v.2.2.1 < ((v.2.2.2.1).length : Int) then (optC ((v.2.2.2.1)[(v.2.2.1).toNat]?) (fun x2 => κ (0, (v.1, v.2.1, IntKind.wrap .i64 (v.2.2.1 + (1 : Int)), v.2.2.2.1.set ((v.2.2.1).toNat) ((v117 x1).1, ((v117 x1).2.1, ((v117 x1).2.2.1, ((v117 x1).2.2.2.1, (((v117 x1).2.2.2.2.1, ((v117 x1).2.2.2.2.2.1, ((v117 x1).2.2.2.2.2.2.1, ((v117 x1).2.2.2.2.2.2.2.1, ((v117 x1).2.2.2.2.2.2.2.2.1, ((v117 x1).2.2.2.2.2.2.2.2.2.1, (v117 x1).2.2.2.2.2.2.2.2.2.2.1)))))), ((v117 x1).2.2.2.2.2.2.2.2.2.2.2.2.2, ((v117 x1).2.2.2.2.2.2.2.2.2.2.2.1, (v117 x1).2.2.2.2.2.2.2.2.2.2.2.2.1))))))), ())))) else none) else none) (none))) else none) (κ (1, (v.1, v.2.1, v.2.2.1, v.2.2.2.1, ())))
noncomputable def s75_0 (v : (StT ss75_0 gs75_0)) : Option (Nat × (StT ss75_0 gs75_0)) := t75_0 v some
noncomputable def n75_0 (v : (StT ss75_0 gs75_0)) : Nat := v.1.length + v.2.1.length + v.2.2.1.toNat + v.2.2.2.1.length + 100
noncomputable def k75_0 (x0 : List (Ty.T y156)) (x1 : List (Ty.T y158)) (x2 : Int) (x3 : List (Ty.T y158)) (c : Nat) : Bool := iterAt s75_0 (n75_0 (x0, x1, x2, x3, ())) (x0, x1, x2, x3, ()) c
noncomputable def w75_0 (x0 : List (Ty.T y156)) (x1 : List (Ty.T y158)) (x2 : Int) (x3 : List (Ty.T y158)) : (StT ss75_0 gs75_0) := iterV s75_0 (n75_0 (x0, x1, x2, x3, ())) (x0, x1, x2, x3, ())
noncomputable def F75_0 (v : (StT ss75_0 gs75_0)) : Ways (Ex × St) := waysOf s75_0 (n75_0 v) v (bldSt ss75_0 gs75_0) [.exit 0] 0
theorem wf75_0 : wfSt ss75_0 gs75_0 := wf_of (by kernel_rfl)
theorem l75_0 : LoopOk Try.prog (loopAt [true, true, false, true] (bodyOf Try.f75)) ss75_0 gs75_0 F75_0 := loopOk_iter (lt := .none) (m := [true, false, true, true, true, false, false, false, false, false, false, false, false, false, false, false, false, false, false, false, false, false, false]) (keep := [7]) hE75 orders (LtOk.no _) fun n v K => Eq.trans (b := t75_0 v (kont _ _ _ _ _ _ K)) (by kernel_rfl) (show t75_0 v _ = (t75_0 v some).bind _ from (bnd_cond (bnd_ite (bnd_opt fun x1 => (bnd_cond (bnd_ite (bnd_ite (bnd_opt fun x2 => rfl))) rfl))) rfl))
noncomputable def E75l : Env := { ti := ti, fn := fns, prim := [(117, p117)], eqt := eqts, lt := [(75, (ltPut [true, true, false, true] (bodyOf Try.f75) .none (.sum ss75_0 gs75_0 F75_0)))] }
theorem hE75l : Env.Ok Try.prog E75l := Env.Ok.of tiOk fnOk (mem_cons ok117 <| mem_nil) (mem_cons (ltOk_of Try.func75 (LtOk.put wf75_0 (LtOk.no _) l75_0)) mem_nil) (mem_nil) eqtOk
noncomputable def f75 (r : (List (Ty.T y158))) : AV × Sig := (.one (.sl 4096), [(4096, .arr 159 y158 r false)])
noncomputable def u75 (a0 : List (Ty.T y156)) : Option (AV × Sig) := if ((a0).length : Int) = ((a0).length : Int) then (if ((a0).length : Int).toNat * 128 ≤ 140737488351232 then (cond (k75_0 a0 [] 0 (List.replicate ((a0).length : Int).toNat ((0, (0, (0, (0, ((0, (0, (0, (0, (0, (0, false)))))), ([], (0, 0))))))) : Ty.T y158)) 0) (some (.one (.sl 4096), [(4096, .arr 159 y158 (w75_0 a0 [] 0 (List.replicate ((a0).length : Int).toNat ((0, (0, (0, (0, ((0, (0, (0, (0, (0, (0, false)))))), ([], (0, 0))))))) : Ty.T y158))).2.2.2.1 false)])) (none)) else none) else none
noncomputable def v75 (a0 : List (Ty.T y156)) : (List (Ty.T y158)) := cond (k75_0 a0 [] 0 (List.replicate ((a0).length : Int).toNat ((0, (0, (0, (0, ((0, (0, (0, (0, (0, (0, false)))))), ([], (0, 0))))))) : Ty.T y158)) 0) ((w75_0 a0 [] 0 (List.replicate ((a0).length : Int).toNat ((0, (0, (0, (0, ((0, (0, (0, (0, (0, (0, false)))))), ([], (0, 0))))))) : Ty.T y158))).2.2.2.1) ([])
noncomputable def d75 (a0 : List (Ty.T y156)) : Bool := decide (((a0).length : Int) = ((a0).length : Int)) && (decide (((a0).length : Int).toNat * 128 ≤ 140737488351232) && (cond (k75_0 a0 [] 0 (List.replicate ((a0).length : Int).toNat ((0, (0, (0, (0, ((0, (0, (0, (0, (0, (0, false)))))), ([], (0, 0))))))) : Ty.T y158)) 0) (true) (false)))
theorem o75 (a0 : List (Ty.T y156)) : u75 a0 = cond (d75 a0) (some (f75 (v75 a0))) none := (par_ite (par_ite (par_cond (par_some _) (par_none _))))
noncomputable def p75 : Prim := ⟨[.one (.dat (.sl 157 y156) true)], fun v => .br (d75 v.1) (.done (f75 (v75 v.1))) .no⟩
theorem ok75 : PrimOk Try.prog 75 p75 := primOk_eq hE75l orders fun v => Eq.trans (b := u75 v.1) (by kernel_rfl) (o75 v.1)
/-! ### laws.toFate -/
noncomputable def E33 : Env := { ti := ti, fn := fns, prim := [(11, p11), (32, p32), (74, p74), (75, p75)], eqt := eqts }
theorem hE33 : Env.Ok Try.prog E33 := Env.Ok.of tiOk fnOk (mem_cons ok11 <| mem_cons ok32 <| mem_cons ok74 <| mem_cons ok75 <| mem_nil) mem_nil (mem_nil) eqtOk
noncomputable def f33 (r : (List (Ty.T y124)) × (List (Ty.T y72)) × (List (Ty.T (.int .i64))) × (List (Ty.T y158))) : AV × Sig := (.agg [.sl 4096, .sl 8192, .sl 12288, .sl 16384], [(4096, .arr 125 y124 r.1 false), (8192, .arr 73 y72 r.2.1 false), (12288, .arr 3 (.int .i64) r.2.2.1 false), (16384, .arr 159 y158 r.2.2.2 false)])
noncomputable def u33 (a0 : Ty.T y42) : Option (AV × Sig) := cond (d74 a0.1) (cond (d32 a0.2.1) (cond (d11 a0.2.2.1) (cond (d75 a0.2.2.2) (some (.agg [.sl 4096, .sl 8192, .sl 12288, .sl 16384], [(4096, .arr 125 y124 (v74 a0.1) false), (8192, .arr 73 y72 (v32 a0.2.1) false), (12288, .arr 3 (.int .i64) (v11 a0.2.2.1) false), (16384, .arr 159 y158 (v75 a0.2.2.2) false)])) (none)) (none)) (none)) (none)
noncomputable def v33 (a0 : Ty.T y42) : (List (Ty.T y124)) × (List (Ty.T y72)) × (List (Ty.T (.int .i64))) × (List (Ty.T y158)) := cond (d74 a0.1) (cond (d32 a0.2.1) (cond (d11 a0.2.2.1) (cond (d75 a0.2.2.2) (((v74 a0.1), (v32 a0.2.1), (v11 a0.2.2.1), (v75 a0.2.2.2))) (([], [], [], []))) (([], [], [], []))) (([], [], [], []))) (([], [], [], []))
noncomputable def d33 (a0 : Ty.T y42) : Bool := cond (d74 a0.1) (cond (d32 a0.2.1) (cond (d11 a0.2.2.1) (cond (d75 a0.2.2.2) (true) (false)) (false)) (false)) (false)
theorem o33 (a0 : Ty.T y42) : u33 a0 = cond (d33 a0) (some (f33 (v33 a0))) none := (par_cond (par_cond (par_cond (par_cond (par_some _) (par_none _)) (par_none _)) (par_none _)) (par_none _))
noncomputable def p33 : Prim := ⟨[.agg [.dat y42 true]], fun v => .br (d33 v.1) (.done (f33 (v33 v.1))) .no⟩
theorem ok33 : PrimOk Try.prog 33 p33 := primOk_eq hE33 orders fun v => Eq.trans (b := u33 v.1) (by kernel_rfl) (o33 v.1)
/-! ### impl.Upto -/
noncomputable def E61 : Env := { ti := ti, fn := fns, prim := [], eqt := eqts }
theorem hE61 : Env.Ok Try.prog E61 := Env.Ok.of tiOk fnOk (mem_nil) mem_nil (mem_nil) eqtOk
noncomputable def f61 (r : Int) : AV × Sig := (.one (.int .i64 r), [])
noncomputable def u61 (a0 : Int) (a1 : Int) : Option (AV × Sig) := some (.one (.int .i64 (if (if a1 < a0 then a1 else a0) > (0 : Int) then if a1 < a0 then a1 else a0 else 0)), [])
noncomputable def v61 (a0 : Int) (a1 : Int) : Int := if (if a1 < a0 then a1 else a0) > (0 : Int) then if a1 < a0 then a1 else a0 else 0
theorem o61 (a0 : Int) (a1 : Int) : u61 a0 a1 = some (f61 (v61 a0 a1)) := rfl
noncomputable def p61 : Prim := ⟨[.one (.dat (.int .i64) true), .one (.dat (.int .i64) true)], fun v => .done (f61 (v61 v.1 v.2.1))⟩
theorem ok61 : PrimOk Try.prog 61 p61 := primOk_eq hE61 orders fun v => Eq.trans (b := u61 v.1 v.2.1) (by kernel_rfl) (o61 v.1 v.2.1)
/-! ### impl.Power -/
noncomputable def E17 : Env := { ti := ti, fn := fns, prim := [(61, p61)], eqt := eqts }
theorem hE17 : Env.Ok Try.prog E17 := Env.Ok.of tiOk fnOk (mem_cons ok61 <| mem_nil) mem_nil (mem_nil) eqtOk
@[reducible] noncomputable def ss17_0 : List SP := [.one (.dat (.int .i64) true), .one (.dat (.int .i64) true), .und, .und, .one (.dat (.int .i64) true), .one (.dat (.int .i64) true), .und, .und, .und, .und, .und, .und, .und, .und, .und, .und, .und, .und, .und, .und, .und, .und, .und, .und, .und, .und, .und]
@[reducible] noncomputable def gs17_0 : List (Nat × GP) := []
noncomputable def t17_0 (v : (StT ss17_0 gs17_0)) {R : Type} (κ : Nat × (StT ss17_0 gs17_0) → Option R) : Option R := cond (decide (v.2.1 > (0 : Int))) (cond (decide (v.2.2.2.1 < (2147483647 : Int))) (κ (0, (v.1, IntKind.wrap .i64 (v.2.1 - (1 : Int)), v.2.2.1, if (2147483647 : Int) < (IntKind.wrap .i64 (v.2.2.2.1 * v.1)) then 2147483647 else IntKind.wrap .i64 (v.2.2.2.1 * v.1), ()))) (κ (1, (v.1, v.2.1, v.2.2.1, v.2.2.2.1, ())))) (κ (1, (v.1, v.2.1, v.2.2.1, v.2.2.2.1, ())))
noncomputable def s17_0 (v : (StT ss17_0 gs17_0)) : Option (Nat × (StT ss17_0 gs17_0)) := t17_0 v some
noncomputable def n17_0 (v : (StT ss17_0 gs17_0)) : Nat := v.1.toNat + v.2.1.toNat + v.2.2.1.toNat + v.2.2.2.1.toNat + 100
noncomputable def k17_0 (x0 : Int) (x1 : Int) (x2 : Int) (x3 : Int) (c : Nat) : Bool := iterAt s17_0 (n17_0 (x0, x1, x2, x3, ())) (x0, x1, x2, x3, ()) c
noncomputable def w17_0 (x0 : Int) (x1 : Int) (x2 : Int) (x3 : Int) : (StT ss17_0 gs17_0) := iterV s17_0 (n17_0 (x0, x1, x2, x3, ())) (x0, x1, x2, x3, ())
noncomputable def F17_0 (v : (StT ss17_0 gs17_0)) : Ways (Ex × St) := waysOf s17_0 (n17_0 v) v (bldSt ss17_0 gs17_0) [.exit 0] 0
theorem wf17_0 : wfSt ss17_0 gs17_0 := wf_of (by kernel_rfl)
theorem l17_0 : LoopOk Try.prog (loopAt [true, true, true, true, false] (bodyOf Try.f17)) ss17_0 gs17_0 F17_0 := loopOk_iter (lt := .none) (m := [true, true, false, false, true, true, false, false, false, false, false, false, false, false, false, false, false, false, false, false, false, false, false, false, false, false, false]) (keep := []) hE17 orders (LtOk.no _) fun n v K => Eq.trans (b := t17_0 v (kont _ _ _ _ _ _ K)) (by kernel_rfl) (show t17_0 v _ = (t17_0 v some).bind _ from (bnd_cond (bnd_cond rfl rfl) rfl))
noncomputable def E17l : Env := { ti := ti, fn := fns, prim := [(61, p61)], eqt := eqts, lt := [(17, (ltPut [true, true, true, true, false] (bodyOf Try.f17) .none (.sum ss17_0 gs17_0 F17_0)))] }
theorem hE17l : Env.Ok Try.prog E17l := Env.Ok.of tiOk fnOk (mem_cons ok61 <| mem_nil) (mem_cons (ltOk_of Try.func17 (LtOk.put wf17_0 (LtOk.no _) l17_0)) mem_nil) (mem_nil) eqtOk
noncomputable def f17 (r : Int) : AV × Sig := (.one (.int .i64 r), [])
noncomputable def u17 (a0 : Int) (a1 : Int) : Option (AV × Sig) := cond (decide ((v61 a0 2147483647) < (2 : Int))) (cond (decide (a1 > (0 : Int))) (some (.one (.int .i64 (v61 a0 2147483647)), [])) (some (.one (.int .i64 1), []))) (cond (k17_0 (v61 a0 2147483647) a1 0 1 0) (some (.one (.int .i64 (w17_0 (v61 a0 2147483647) a1 0 1).2.2.2.1), [])) (none))
noncomputable def v17 (a0 : Int) (a1 : Int) : Int := cond (decide ((v61 a0 2147483647) < (2 : Int))) (cond (decide (a1 > (0 : Int))) ((v61 a0 2147483647)) (1)) (cond (k17_0 (v61 a0 2147483647) a1 0 1 0) ((w17_0 (v61 a0 2147483647) a1 0 1).2.2.2.1) (0))
noncomputable def d17 (a0 : Int) (a1 : Int) : Bool := cond (decide ((v61 a0 2147483647) < (2 : Int))) (cond (decide (a1 > (0 : Int))) (true) (true)) (cond (k17_0 (v61 a0 2147483647) a1 0 1 0) (true) (false))
theorem o17 (a0 : Int) (a1 : Int) : u17 a0 a1 = cond (d17 a0 a1) (some (f17 (v17 a0 a1))) none := (par_cond (par_cond (par_some _) (par_some _)) (par_cond (par_some _) (par_none _)))
noncomputable def p17 : Prim := ⟨[.one (.dat (.int .i64) true), .one (.dat (.int .i64) true)], fun v => .br (d17 v.1 v.2.1) (.done (f17 (v17 v.1 v.2.1))) .no⟩
theorem ok17 : PrimOk Try.prog 17 p17 := primOk_eq hE17l orders fun v => Eq.trans (b := u17 v.1 v.2.1) (by kernel_rfl) (o17 v.1 v.2.1)
/-! ### impl.Sums -/
noncomputable def E19 : Env := { ti := ti, fn := fns, prim := [(17, p17), (61, p61)], eqt := eqts }
theorem hE19 : Env.Ok Try.prog E19 := Env.Ok.of tiOk fnOk (mem_cons ok17 <| mem_cons ok61 <| mem_nil) mem_nil (mem_nil) eqtOk
@[reducible] noncomputable def ss19_0 : List SP := [.one (.dat (.int .i64) true), .one (.dat (.int .i64) true), .und, .und, .one (.dat (.int .i64) true), .one (.dat (.int .i64) true), .one (.dat (.int .i64) true), .und, .und, .und, .und, .und, .und, .und, .und, .und, .und, .und, .und, .und, .und, .und, .und, .und, .und, .und, .und, .und, .und, .und, .und, .und, .und, .und, .und, .und]
@[reducible] noncomputable def gs19_0 : List (Nat × GP) := []
noncomputable def t19_0 (v : (StT ss19_0 gs19_0)) {R : Type} (κ : Nat × (StT ss19_0 gs19_0) → Option R) : Option R := cond (decide (v.2.2.2.2.1 < v.2.1)) (cond (decide (v.2.2.2.1 < (2147483647 : Int))) (cond (d17 v.1 v.2.2.2.2.1) (κ (0, (v.1, v.2.1, v.2.2.1, if (2147483647 : Int) < (IntKind.wrap .i64 (v.2.2.2.1 + (v17 v.1 v.2.2.2.2.1))) then 2147483647 else IntKind.wrap .i64 (v.2.2.2.1 + (v17 v.1 v.2.2.2.2.1)), IntKind.wrap .i64 (v.2.2.2.2.1 + (1 : Int)), ()))) (none)) (κ (1, (v.1, v.2.1, v.2.2.1, v.2.2.2.1, v.2.2.2.2.1, ())))) (κ (1, (v.1, v.2.1, v.2.2.1, v.2.2.2.1, v.2.2.2.2.1, ())))
noncomputable def s19_0 (v : (StT ss19_0 gs19_0)) : Option (Nat × (StT ss19_0 gs19_0)) := t19_0 v some
noncomputable def n19_0 (v : (StT ss19_0 gs19_0)) : Nat := v.1.toNat + v.2.1.toNat + v.2.2.1.toNat + v.2.2.2.1.toNat + v.2.2.2.2.1.toNat + 100
noncomputable def k19_0 (x0 : Int) (x1 : Int) (x2 : Int) (x3 : Int) (x4 : Int) (c : Nat) : Bool := iterAt s19_0 (n19_0 (x0, x1, x2, x3, x4, ())) (x0, x1, x2, x3, x4, ()) c
noncomputable def w19_0 (x0 : Int) (x1 : Int) (x2 : Int) (x3 : Int) (x4 : Int) : (StT ss19_0 gs19_0) := iterV s19_0 (n19_0 (x0, x1, x2, x3, x4, ())) (x0, x1, x2, x3, x4, ())
noncomputable def F19_0 (v : (StT ss19_0 gs19_0)) : Ways (Ex × St) := waysOf s19_0 (n19_0 v) v (bldSt ss19_0 gs19_0) [.exit 1] 0
theorem wf19_0 : wfSt ss19_0 gs19_0 := wf_of (by kernel_rfl)
theorem l19_0 : LoopOk Try.prog (loopAt [true, true, true, true, false, true] (bodyOf Try.f19)) ss19_0 gs19_0 F19_0 := loopOk_iter (lt := .none) (m := [true, true, false, false, true, true, true, false, false, false, false, false, false, false, false, false, false, false, false, false, false, false, false, false, false, false, false, false, false, false, false, false, false, false, false, false]) (keep := []) hE19 orders (LtOk.no _) fun n v K => Eq.trans (b := t19_0 v (kont _ _ _ _ _ _ K)) (by kernel_rfl) (show t19_0 v _ = (t19_0 v some).bind _ from (bnd_cond (bnd_cond (bnd_cond rfl rfl) rfl) rfl))
noncomputable def E19l : Env := { ti := ti, fn := fns, prim := [(17, p17), (61, p61)], eqt := eqts, lt := [(19, (ltPut [true, true, true, true, false, true] (bodyOf Try.f19) .none (.sum ss19_0 gs19_0 F19_0)))] }
theorem hE19l : Env.Ok Try.prog E19l := Env.Ok.of tiOk fnOk (mem_cons ok17 <| mem_cons ok61 <| mem_nil) (mem_cons (ltOk_of Try.func19 (LtOk.put wf19_0 (LtOk.no _) l19_0)) mem_nil) (mem_nil) eqtOk
noncomputable def f19 (r : Int) : AV × Sig := (.one (.int .i64 r), [])
noncomputable def u19 (a0 : Int) (a1 : Int) : Option (AV × Sig) := cond (decide (a1 ≤ (0 : Int))) (some (.one (.int .i64 0), [])) (cond ((v61 a0 2147483647) == (0 : Int)) (some (.one (.int .i64 1), [])) (cond ((v61 a0 2147483647) == (1 : Int)) (some (.one (.int .i64 (if (2147483647 : Int) < a1 then 2147483647 else a1)), [])) (cond (k19_0 (v61 a0 2147483647) a1 0 0 0 0) (some (.one (.int .i64 (w19_0 (v61 a0 2147483647) a1 0 0 0).2.2.2.1), [])) (none))))
noncomputable def v19 (a0 : Int) (a1 : Int) : Int := cond (decide (a1 ≤ (0 : Int))) (0) (cond ((v61 a0 2147483647) == (0 : Int)) (1) (cond ((v61 a0 2147483647) == (1 : Int)) (if (2147483647 : Int) < a1 then 2147483647 else a1) (cond (k19_0 (v61 a0 2147483647) a1 0 0 0 0) ((w19_0 (v61 a0 2147483647) a1 0 0 0).2.2.2.1) (0))))
noncomputable def d19 (a0 : Int) (a1 : Int) : Bool := cond (decide (a1 ≤ (0 : Int))) (true) (cond ((v61 a0 2147483647) == (0 : Int)) (true) (cond ((v61 a0 2147483647) == (1 : Int)) (true) (cond (k19_0 (v61 a0 2147483647) a1 0 0 0 0) (true) (false))))
theorem o19 (a0 : Int) (a1 : Int) : u19 a0 a1 = cond (d19 a0 a1) (some (f19 (v19 a0 a1))) none := (par_cond (par_some _) (par_cond (par_some _) (par_cond (par_some _) (par_cond (par_some _) (par_none _)))))
noncomputable def p19 : Prim := ⟨[.one (.dat (.int .i64) true), .one (.dat (.int .i64) true)], fun v => .br (d19 v.1 v.2.1) (.done (f19 (v19 v.1 v.2.1))) .no⟩
theorem ok19 : PrimOk Try.prog 19 p19 := primOk_eq hE19l orders fun v => Eq.trans (b := u19 v.1 v.2.1) (by kernel_rfl) (o19 v.1 v.2.1)
/-! ### impl.Usable -/
noncomputable def E67 : Env := { ti := ti, fn := fns, prim := [], eqt := eqts }
theorem hE67 : Env.Ok Try.prog E67 := Env.Ok.of tiOk fnOk (mem_nil) mem_nil (mem_nil) eqtOk
@[reducible] noncomputable def ss67_0 : List SP := [.und, .und, .one (.dat (.int .i64) true), .one (.dat (.int .i64) true), .und, .und, .one (.dat (.sl 73 y72) true), .one (.dat (.int .i64) true), .one (.dat (.int .i64) true), .und, .und, .und, .und, .und, .und, .und, .und, .und, .und]
@[reducible] noncomputable def gs67_0 : List (Nat × GP) := []
noncomputable def t67_0 (v : (StT ss67_0 gs67_0)) {R : Type} (κ : Nat × (StT ss67_0 gs67_0) → Option R) : Option R := cond (decide (v.2.2.2.2.1 < v.2.2.2.1)) (if 0 ≤ v.2.2.2.2.1 then (optC ((v.2.2.1)[(v.2.2.2.2.1).toNat]?) (fun x1 => cond (x1.2.2.2.2.2.2.2.2 != (0 : Int)) (κ (0, (v.1, IntKind.wrap .i64 (v.2.1 + (1 : Int)), v.2.2.1, v.2.2.2.1, IntKind.wrap .i64 (v.2.2.2.2.1 + (1 : Int)), ()))) (κ (0, (v.1, v.2.1, v.2.2.1, v.2.2.2.1, IntKind.wrap .i64 (v.2.2.2.2.1 + (1 : Int)), ()))))) else none) (κ (1, (v.1, v.2.1, v.2.2.1, v.2.2.2.1, v.2.2.2.2.1, ())))
noncomputable def s67_0 (v : (StT ss67_0 gs67_0)) : Option (Nat × (StT ss67_0 gs67_0)) := t67_0 v some
noncomputable def n67_0 (v : (StT ss67_0 gs67_0)) : Nat := v.1.toNat + v.2.1.toNat + v.2.2.1.length + v.2.2.2.1.toNat + v.2.2.2.2.1.toNat + 100
noncomputable def k67_0 (x0 : Int) (x1 : Int) (x2 : List (Ty.T y72)) (x3 : Int) (x4 : Int) (c : Nat) : Bool := iterAt s67_0 (n67_0 (x0, x1, x2, x3, x4, ())) (x0, x1, x2, x3, x4, ()) c
noncomputable def w67_0 (x0 : Int) (x1 : Int) (x2 : List (Ty.T y72)) (x3 : Int) (x4 : Int) : (StT ss67_0 gs67_0) := iterV s67_0 (n67_0 (x0, x1, x2, x3, x4, ())) (x0, x1, x2, x3, x4, ())
noncomputable def F67_0 (v : (StT ss67_0 gs67_0)) : Ways (Ex × St) := waysOf s67_0 (n67_0 v) v (bldSt ss67_0 gs67_0) [.exit 0] 0
theorem wf67_0 : wfSt ss67_0 gs67_0 := wf_of (by kernel_rfl)
theorem l67_0 : LoopOk Try.prog (loopAt [true, true, false, true] (bodyOf Try.f67)) ss67_0 gs67_0 F67_0 := loopOk_iter (lt := .none) (m := [false, false, true, true, false, false, true, true, true, false, false, false, false, false, false, false, false, false, false]) (keep := []) hE67 orders (LtOk.no _) fun n v K => Eq.trans (b := t67_0 v (kont _ _ _ _ _ _ K)) (by kernel_rfl) (show t67_0 v _ = (t67_0 v some).bind _ from (bnd_cond (bnd_ite (bnd_opt fun x1 => (bnd_cond rfl rfl))) rfl))
noncomputable def E67l : Env := { ti := ti, fn := fns, prim := [], eqt := eqts, lt := [(67, (ltPut [true, true, false, true] (bodyOf Try.f67) .none (.sum ss67_0 gs67_0 F67_0)))] }
theorem hE67l : Env.Ok Try.prog E67l := Env.Ok.of tiOk fnOk (mem_nil) (mem_cons (ltOk_of Try.func67 (LtOk.put wf67_0 (LtOk.no _) l67_0)) mem_nil) (mem_nil) eqtOk
noncomputable def f67 (r : Int) : AV × Sig := (.one (.int .i64 r), [])
noncomputable def u67 (a0 : List (Ty.T y72)) : Option (AV × Sig) := cond (k67_0 0 0 a0 ((a0).length : Int) 0 0) (some (.one (.int .i64 (w67_0 0 0 a0 ((a0).length : Int) 0).2.1), [])) (none)
noncomputable def v67 (a0 : List (Ty.T y72)) : Int := cond (k67_0 0 0 a0 ((a0).length : Int) 0 0) ((w67_0 0 0 a0 ((a0).length : Int) 0).2.1) (0)
noncomputable def d67 (a0 : List (Ty.T y72)) : Bool := cond (k67_0 0 0 a0 ((a0).length : Int) 0 0) (true) (false)
theorem o67 (a0 : List (Ty.T y72)) : u67 a0 = cond (d67 a0) (some (f67 (v67 a0))) none := (par_cond (par_some _) (par_none _))
noncomputable def p67 : Prim := ⟨[.one (.dat (.sl 73 y72) true)], fun v => .br (d67 v.1) (.done (f67 (v67 v.1))) .no⟩
theorem ok67 : PrimOk Try.prog 67 p67 := primOk_eq hE67l orders fun v => Eq.trans (b := u67 v.1) (by kernel_rfl) (o67 v.1)
/-! ### impl.MostTurns -/
noncomputable def E24 : Env := { ti := ti, fn := fns, prim := [(19, p19), (67, p67)], eqt := eqts }
theorem hE24 : Env.Ok Try.prog E24 := Env.Ok.of tiOk fnOk (mem_cons ok19 <| mem_cons ok67 <| mem_nil) mem_nil (mem_nil) eqtOk
noncomputable def f24 (r : Int) : AV × Sig := (.one (.int .i64 r), [])
noncomputable def u24 (a0 : List (Ty.T y72)) : Option (AV × Sig) := cond (d67 a0) (cond (d19 3 (v67 a0)) (some (.one (.int .i64 (v19 3 (v67 a0))), [])) (none)) (none)
noncomputable def v24 (a0 : List (Ty.T y72)) : Int := cond (d67 a0) (cond (d19 3 (v67 a0)) ((v19 3 (v67 a0))) (0)) (0)
noncomputable def d24 (a0 : List (Ty.T y72)) : Bool := cond (d67 a0) (cond (d19 3 (v67 a0)) (true) (false)) (false)
theorem o24 (a0 : List (Ty.T y72)) : u24 a0 = cond (d24 a0) (some (f24 (v24 a0))) none := (par_cond (par_cond (par_some _) (par_none _)) (par_none _))
noncomputable def p24 : Prim := ⟨[.one (.dat (.sl 73 y72) true)], fun v => .br (d24 v.1) (.done (f24 (v24 v.1))) .no⟩
theorem ok24 : PrimOk Try.prog 24 p24 := primOk_eq hE24 orders fun v => Eq.trans (b := u24 v.1) (by kernel_rfl) (o24 v.1)
/-! ### impl.MostLeft -/
noncomputable def E26 : Env := { ti := ti, fn := fns, prim := [(17, p17), (67, p67)], eqt := eqts }
theorem hE26 : Env.Ok Try.prog E26 := Env.Ok.of tiOk fnOk (mem_cons ok17 <| mem_cons ok67 <| mem_nil) mem_nil (mem_nil) eqtOk
noncomputable def f26 (r : Int) : AV × Sig := (.one (.int .i64 r), [])
noncomputable def u26 (a0 : List (Ty.T y72)) : Option (AV × Sig) := cond (d67 a0) (cond (d17 3 (v67 a0)) (some (.one (.int .i64 (v17 3 (v67 a0))), [])) (none)) (none)
noncomputable def v26 (a0 : List (Ty.T y72)) : Int := cond (d67 a0) (cond (d17 3 (v67 a0)) ((v17 3 (v67 a0))) (0)) (0)
noncomputable def d26 (a0 : List (Ty.T y72)) : Bool := cond (d67 a0) (cond (d17 3 (v67 a0)) (true) (false)) (false)
theorem o26 (a0 : List (Ty.T y72)) : u26 a0 = cond (d26 a0) (some (f26 (v26 a0))) none := (par_cond (par_cond (par_some _) (par_none _)) (par_none _))
noncomputable def p26 : Prim := ⟨[.one (.dat (.sl 73 y72) true)], fun v => .br (d26 v.1) (.done (f26 (v26 v.1))) .no⟩
theorem ok26 : PrimOk Try.prog 26 p26 := primOk_eq hE26 orders fun v => Eq.trans (b := u26 v.1) (by kernel_rfl) (o26 v.1)
/-! ### impl.Chain -/
noncomputable def E76 : Env := { ti := ti, fn := fns, prim := [], eqt := eqts }
theorem hE76 : Env.Ok Try.prog E76 := Env.Ok.of tiOk fnOk (mem_nil) mem_nil (mem_nil) eqtOk
@[reducible] noncomputable def ss76_0 : List SP := [.und, .und, .one (.dat (.int .i64) true), .one (.dat (.int .i64) true), .und, .und, .und, .one (.dat (.sl 159 y158) true), .one (.dat (.int .i64) true), .one (.dat (.int .i64) true), .und, .und, .und, .und, .und, .und, .und, .und, .und, .und]
@[reducible] noncomputable def gs76_0 : List (Nat × GP) := []
noncomputable def t76_0 (v : (StT ss76_0 gs76_0)) {R : Type} (κ : Nat × (StT ss76_0 gs76_0) → Option R) : Option R := cond (decide (v.2.2.2.2.1 < v.2.2.2.1)) (if 0 ≤ v.2.2.2.2.1 then (optC ((v.2.2.1)[(v.2.2.2.2.1).toNat]?) (fun x1 => κ (0, (v.1, if (IntKind.wrap .i64 (x1.2.2.2.2.2.2.2 + (1 : Int))) > v.2.1 then IntKind.wrap .i64 (x1.2.2.2.2.2.2.2 + (1 : Int)) else v.2.1, v.2.2.1, v.2.2.2.1, IntKind.wrap .i64 (v.2.2.2.2.1 + (1 : Int)), ())))) else none) (κ (1, (v.1, v.2.1, v.2.2.1, v.2.2.2.1, v.2.2.2.2.1, ())))
noncomputable def s76_0 (v : (StT ss76_0 gs76_0)) : Option (Nat × (StT ss76_0 gs76_0)) := t76_0 v some
noncomputable def n76_0 (v : (StT ss76_0 gs76_0)) : Nat := v.1.toNat + v.2.1.toNat + v.2.2.1.length + v.2.2.2.1.toNat + v.2.2.2.2.1.toNat + 100
noncomputable def k76_0 (x0 : Int) (x1 : Int) (x2 : List (Ty.T y158)) (x3 : Int) (x4 : Int) (c : Nat) : Bool := iterAt s76_0 (n76_0 (x0, x1, x2, x3, x4, ())) (x0, x1, x2, x3, x4, ()) c
noncomputable def w76_0 (x0 : Int) (x1 : Int) (x2 : List (Ty.T y158)) (x3 : Int) (x4 : Int) : (StT ss76_0 gs76_0) := iterV s76_0 (n76_0 (x0, x1, x2, x3, x4, ())) (x0, x1, x2, x3, x4, ())
noncomputable def F76_0 (v : (StT ss76_0 gs76_0)) : Ways (Ex × St) := waysOf s76_0 (n76_0 v) v (bldSt ss76_0 gs76_0) [.exit 0] 0
theorem wf76_0 : wfSt ss76_0 gs76_0 := wf_of (by kernel_rfl)
theorem l76_0 : LoopOk Try.prog (loopAt [true, true, false, true] (bodyOf Try.f76)) ss76_0 gs76_0 F76_0 := loopOk_iter (lt := .none) (m := [false, false, true, true, false, false, false, true, true, true, false, false, false, false, false, false, false, false, false, false]) (keep := []) hE76 orders (LtOk.no _) fun n v K => Eq.trans (b := t76_0 v (kont _ _ _ _ _ _ K)) (by kernel_rfl) (show t76_0 v _ = (t76_0 v some).bind _ from (bnd_cond (bnd_ite (bnd_opt fun x1 => rfl)) rfl))
noncomputable def E76l : Env := { ti := ti, fn := fns, prim := [], eqt := eqts, lt := [(76, (ltPut [true, true, false, true] (bodyOf Try.f76) .none (.sum ss76_0 gs76_0 F76_0)))] }
theorem hE76l : Env.Ok Try.prog E76l := Env.Ok.of tiOk fnOk (mem_nil) (mem_cons (ltOk_of Try.func76 (LtOk.put wf76_0 (LtOk.no _) l76_0)) mem_nil) (mem_nil) eqtOk
noncomputable def f76 (r : Int) : AV × Sig := (.one (.int .i64 r), [])
noncomputable def u76 (a0 : Ty.T y50) : Option (AV × Sig) := cond (k76_0 0 0 a0.2.2.2 ((a0.2.2.2).length : Int) 0 0) (some (.one (.int .i64 (w76_0 0 0 a0.2.2.2 ((a0.2.2.2).length : Int) 0).2.1), [])) (none)
noncomputable def v76 (a0 : Ty.T y50) : Int := cond (k76_0 0 0 a0.2.2.2 ((a0.2.2.2).length : Int) 0 0) ((w76_0 0 0 a0.2.2.2 ((a0.2.2.2).length : Int) 0).2.1) (0)
noncomputable def d76 (a0 : Ty.T y50) : Bool := cond (k76_0 0 0 a0.2.2.2 ((a0.2.2.2).length : Int) 0 0) (true) (false)
theorem o76 (a0 : Ty.T y50) : u76 a0 = cond (d76 a0) (some (f76 (v76 a0))) none := (par_cond (par_some _) (par_none _))
noncomputable def p76 : Prim := ⟨[.agg [.dat y50 true]], fun v => .br (d76 v.1) (.done (f76 (v76 v.1))) .no⟩
theorem ok76 : PrimOk Try.prog 76 p76 := primOk_eq hE76l orders fun v => Eq.trans (b := u76 v.1) (by kernel_rfl) (o76 v.1)
/-! ### impl.InBounds -/
noncomputable def E34 : Env := { ti := ti, fn := fns, prim := [(24, p24), (26, p26), (67, p67), (76, p76)], eqt := eqts }
theorem hE34 : Env.Ok Try.prog E34 := Env.Ok.of tiOk fnOk (mem_cons ok24 <| mem_cons ok26 <| mem_cons ok67 <| mem_cons ok76 <| mem_nil) mem_nil (mem_nil) eqtOk
noncomputable def f34 (r : Bool) : AV × Sig := (.one (.bool r), [])
noncomputable def u34 (a0 : List (Ty.T y72)) (a1 : Ty.T y50) : Option (AV × Sig) := cond (d24 a0) (cond (decide (((a1.2.2.2).length : Int) ≤ (v24 a0))) (cond (d26 a0) (cond (decide (((a1.1).length : Int) ≤ (v26 a0))) (cond (d76 a1) (cond (d67 a0) (some (.one (.bool (decide ((v76 a1) ≤ (v67 a0)))), [])) (none)) (none)) (some (.one (.bool false), []))) (none)) (some (.one (.bool false), []))) (none)
noncomputable def v34 (a0 : List (Ty.T y72)) (a1 : Ty.T y50) : Bool := cond (d24 a0) (cond (decide (((a1.2.2.2).length : Int) ≤ (v24 a0))) (cond (d26 a0) (cond (decide (((a1.1).length : Int) ≤ (v26 a0))) (cond (d76 a1) (cond (d67 a0) (decide ((v76 a1) ≤ (v67 a0))) (false)) (false)) (false)) (false)) (false)) (false)
noncomputable def d34 (a0 : List (Ty.T y72)) (a1 : Ty.T y50) : Bool := cond (d24 a0) (cond (decide (((a1.2.2.2).length : Int) ≤ (v24 a0))) (cond (d26 a0) (cond (decide (((a1.1).length : Int) ≤ (v26 a0))) (cond (d76 a1) (cond (d67 a0) (true) (false)) (false)) (true)) (false)) (true)) (false)
theorem o34 (a0 : List (Ty.T y72)) (a1 : Ty.T y50) : u34 a0 a1 = cond (d34 a0 a1) (some (f34 (v34 a0 a1))) none := (par_cond (par_cond (par_cond (par_cond (par_cond (par_cond (par_some _) (par_none _)) (par_none _)) (par_some _)) (par_none _)) (par_some _)) (par_none _))
noncomputable def p34 : Prim := ⟨[.one (.dat (.sl 73 y72) true), .agg [.dat y50 true]], fun v => .br (d34 v.1 v.2.1) (.done (f34 (v34 v.1 v.2.1))) .no⟩
theorem ok34 : PrimOk Try.prog 34 p34 := primOk_eq hE34 orders fun v => Eq.trans (b := u34 v.1 v.2.1) (by kernel_rfl) (o34 v.1 v.2.1)
/-! ### laws.eqPat -/
noncomputable def E118 : Env := { ti := ti, fn := fns, prim := [], eqt := eqts }
theorem hE118 : Env.Ok Try.prog E118 := Env.Ok.of tiOk fnOk (mem_nil) mem_nil (mem_nil) eqtOk
noncomputable def f118 (r : Bool) : AV × Sig := (.one (.bool r), [])
noncomputable def u118 (a0 : Ty.T y56) (a1 : Ty.T y56) : Option (AV × Sig) := cond (a0.1 != a1.1) (some (.one (.bool false), [])) (cond (a0.2.1 != a1.2.1) (some (.one (.bool false), [])) (cond (a0.2.2.1 != a1.2.2.1) (some (.one (.bool false), [])) (cond (a0.2.2.2.1 != a1.2.2.2.1) (some (.one (.bool false), [])) (cond (a0.2.2.2.2.1 != a1.2.2.2.2.1) (some (.one (.bool false), [])) (cond (a0.2.2.2.2.2.1 != a1.2.2.2.2.2.1) (some (.one (.bool false), [])) (cond (a0.2.2.2.2.2.2 != a1.2.2.2.2.2.2) (some (.one (.bool false), [])) (some (.one (.bool true), []))))))))
noncomputable def v118 (a0 : Ty.T y56) (a1 : Ty.T y56) : Bool := cond (a0.1 != a1.1) (false) (cond (a0.2.1 != a1.2.1) (false) (cond (a0.2.2.1 != a1.2.2.1) (false) (cond (a0.2.2.2.1 != a1.2.2.2.1) (false) (cond (a0.2.2.2.2.1 != a1.2.2.2.2.1) (false) (cond (a0.2.2.2.2.2.1 != a1.2.2.2.2.2.1) (false) (cond (a0.2.2.2.2.2.2 != a1.2.2.2.2.2.2) (false) (true)))))))
theorem o118 (a0 : Ty.T y56) (a1 : Ty.T y56) : u118 a0 a1 = some (f118 (v118 a0 a1)) := (tot_cond rfl (tot_cond rfl (tot_cond rfl (tot_cond rfl (tot_cond rfl (tot_cond rfl (tot_cond rfl rfl)))))))
noncomputable def p118 : Prim := ⟨[.agg [.dat y56 true], .agg [.dat y56 true]], fun v => .done (f118 (v118 v.1 v.2.1))⟩
theorem ok118 : PrimOk Try.prog 118 p118 := primOk_eq hE118 orders fun v => Eq.trans (b := u118 v.1 v.2.1) (by kernel_rfl) (o118 v.1 v.2.1)
/-! ### laws.eqGuard -/
noncomputable def E119 : Env := { ti := ti, fn := fns, prim := [], eqt := eqts }
theorem hE119 : Env.Ok Try.prog E119 := Env.Ok.of tiOk fnOk (mem_nil) mem_nil (mem_nil) eqtOk
noncomputable def f119 (r : Bool) : AV × Sig := (.one (.bool r), [])
noncomputable def u119 (a0 : Ty.T y58) (a1 : Ty.T y58) : Option (AV × Sig) := cond (a0.1 != a1.1) (some (.one (.bool false), [])) (cond (a0.2 != a1.2) (some (.one (.bool false), [])) (some (.one (.bool true), [])))
noncomputable def v119 (a0 : Ty.T y58) (a1 : Ty.T y58) : Bool := cond (a0.1 != a1.1) (false) (cond (a0.2 != a1.2) (false) (true))
theorem o119 (a0 : Ty.T y58) (a1 : Ty.T y58) : u119 a0 a1 = some (f119 (v119 a0 a1)) := (tot_cond rfl (tot_cond rfl rfl))
noncomputable def p119 : Prim := ⟨[.agg [.dat y58 true], .agg [.dat y58 true]], fun v => .done (f119 (v119 v.1 v.2.1))⟩
theorem ok119 : PrimOk Try.prog 119 p119 := primOk_eq hE119 orders fun v => Eq.trans (b := u119 v.1 v.2.1) (by kernel_rfl) (o119 v.1 v.2.1)
/-! ### laws.eqEvent -/
noncomputable def E121 : Env := { ti := ti, fn := fns, prim := [], eqt := eqts }
theorem hE121 : Env.Ok Try.prog E121 := Env.Ok.of tiOk fnOk (mem_nil) mem_nil (mem_nil) eqtOk
noncomputable def f121 (r : Bool) : AV × Sig := (.one (.bool r), [])
noncomputable def u121 (a0 : Ty.T y124) (a1 : Ty.T y124) : Option (AV × Sig) := cond (a0.1 != a1.1) (some (.one (.bool false), [])) (cond (a0.2.1 != a1.2.1) (some (.one (.bool false), [])) (cond (a0.2.2.1 != a1.2.2.1) (some (.one (.bool false), [])) (cond (a0.2.2.2.1 != a1.2.2.2.1) (some (.one (.bool false), [])) (cond (a0.2.2.2.2.1 != a1.2.2.2.2.1) (some (.one (.bool false), [])) (cond (a0.2.2.2.2.2.1 != a1.2.2.2.2.2.1) (some (.one (.bool false), [])) (cond (!(a0.2.2.2.2.2.2 == a1.2.2.2.2.2.2)) (some (.one (.bool false), [])) (some (.one (.bool true), []))))))))
noncomputable def v121 (a0 : Ty.T y124) (a1 : Ty.T y124) : Bool := cond (a0.1 != a1.1) (false) (cond (a0.2.1 != a1.2.1) (false) (cond (a0.2.2.1 != a1.2.2.1) (false) (cond (a0.2.2.2.1 != a1.2.2.2.1) (false) (cond (a0.2.2.2.2.1 != a1.2.2.2.2.1) (false) (cond (a0.2.2.2.2.2.1 != a1.2.2.2.2.2.1) (false) (cond (!(a0.2.2.2.2.2.2 == a1.2.2.2.2.2.2)) (false) (true)))))))
theorem o121 (a0 : Ty.T y124) (a1 : Ty.T y124) : u121 a0 a1 = some (f121 (v121 a0 a1)) := (tot_cond rfl (tot_cond rfl (tot_cond rfl (tot_cond rfl (tot_cond rfl (tot_cond rfl (tot_cond rfl rfl)))))))
noncomputable def p121 : Prim := ⟨[.agg [.dat y124 true], .agg [.dat y124 true]], fun v => .done (f121 (v121 v.1 v.2.1))⟩
theorem ok121 : PrimOk Try.prog 121 p121 := primOk_eq hE121 orders fun v => Eq.trans (b := u121 v.1 v.2.1) (by kernel_rfl) (o121 v.1 v.2.1)
/-! ### laws.eqEventS -/
noncomputable def E78 : Env := { ti := ti, fn := fns, prim := [(121, p121)], eqt := eqts }
theorem hE78 : Env.Ok Try.prog E78 := Env.Ok.of tiOk fnOk (mem_cons ok121 <| mem_nil) mem_nil (mem_nil) eqtOk
@[reducible] noncomputable def ss78_0 : List SP := [.one (.dat (.sl 125 y124) true), .one (.dat (.sl 125 y124) true), .und, .und, .one (.dat .bool true), .one (.dat (.int .i64) true), .und, .und, .und, .und, .und, .und, .und, .und, .und, .und, .und, .und, .und, .und, .und, .und, .und, .und, .und, .und, .und]
@[reducible] noncomputable def gs78_0 : List (Nat × GP) := []
noncomputable def t78_0 (v : (StT ss78_0 gs78_0)) {R : Type} (κ : Nat × (StT ss78_0 gs78_0) → Option R) : Option R := cond (decide (v.2.2.2.1 < ((v.1).length : Int))) (if 0 ≤ v.2.2.2.1 then (optC ((v.1)[(v.2.2.2.1).toNat]?) (fun x1 => if 0 ≤ v.2.2.2.1 then (optC ((v.2.1)[(v.2.2.2.1).toNat]?) (fun x2 => cond (!(v121 x1 x2)) (κ (1, (v.1, v.2.1, false, v.2.2.2.1, ()))) (κ (0, (v.1, v.2.1, v.2.2.1, IntKind.wrap .i64 (v.2.2.2.1 + (1 : Int)), ()))))) else none)) else none) (κ (2, (v.1, v.2.1, v.2.2.1, v.2.2.2.1, ())))
noncomputable def s78_0 (v : (StT ss78_0 gs78_0)) : Option (Nat × (StT ss78_0 gs78_0)) := t78_0 v some
noncomputable def n78_0 (v : (StT ss78_0 gs78_0)) : Nat := v.1.length + v.2.1.length + v.2.2.2.1.toNat + 100
noncomputable def k78_0 (x0 : List (Ty.T y124)) (x1 : List (Ty.T y124)) (x2 : Bool) (x3 : Int) (c : Nat) : Bool := iterAt s78_0 (n78_0 (x0, x1, x2, x3, ())) (x0, x1, x2, x3, ()) c
noncomputable def w78_0 (x0 : List (Ty.T y124)) (x1 : List (Ty.T y124)) (x2 : Bool) (x3 : Int) : (StT ss78_0 gs78_0) := iterV s78_0 (n78_0 (x0, x1, x2, x3, ())) (x0, x1, x2, x3, ())
noncomputable def F78_0 (v : (StT ss78_0 gs78_0)) : Ways (Ex × St) := waysOf s78_0 (n78_0 v) v (bldSt ss78_0 gs78_0) [.ret, .exit 0] 0
theorem wf78_0 : wfSt ss78_0 gs78_0 := wf_of (by kernel_rfl)
theorem l78_0 : LoopOk Try.prog (loopAt [true, true, false, true] (bodyOf Try.f78)) ss78_0 gs78_0 F78_0 := loopOk_iter (lt := .none) (m := [true, true, false, false, true, true, false, false, false, false, false, false, false, false, false, false, false, false, false, false, false, false, false, false, false, false, false]) (keep := []) hE78 orders (LtOk.no _) fun n v K => Eq.trans (b := t78_0 v (kont _ _ _ _ _ _ K)) (by kernel_rfl) (show t78_0 v _ = (t78_0 v some).bind _ from (bnd_cond (bnd_ite (bnd_opt fun x1 => (bnd_ite (bnd_opt fun x2 => (bnd_cond rfl rfl))))) rfl))
noncomputable def E78l : Env := { ti := ti, fn := fns, prim := [(121, p121)], eqt := eqts, lt := [(78, (ltPut [true, true, false, true] (bodyOf Try.f78) .none (.sum ss78_0 gs78_0 F78_0)))] }
theorem hE78l : Env.Ok Try.prog E78l := Env.Ok.of tiOk fnOk (mem_cons ok121 <| mem_nil) (mem_cons (ltOk_of Try.func78 (LtOk.put wf78_0 (LtOk.no _) l78_0)) mem_nil) (mem_nil) eqtOk
noncomputable def f78 (r : Bool) : AV × Sig := (.one (.bool r), [])
noncomputable def u78 (a0 : List (Ty.T y124)) (a1 : List (Ty.T y124)) : Option (AV × Sig) := cond (((a0).length : Int) != ((a1).length : Int)) (some (.one (.bool false), [])) (cond (k78_0 a0 a1 false 0 0) (some (.one (.bool (w78_0 a0 a1 false 0).2.2.1), [])) (cond (k78_0 a0 a1 false 0 1) (some (.one (.bool true), [])) (none)))
noncomputable def v78 (a0 : List (Ty.T y124)) (a1 : List (Ty.T y124)) : Bool := cond (((a0).length : Int) != ((a1).length : Int)) (false) (cond (k78_0 a0 a1 false 0 0) ((w78_0 a0 a1 false 0).2.2.1) (cond (k78_0 a0 a1 false 0 1) (true) (false)))
noncomputable def d78 (a0 : List (Ty.T y124)) (a1 : List (Ty.T y124)) : Bool := cond (((a0).length : Int) != ((a1).length : Int)) (true) (cond (k78_0 a0 a1 false 0 0) (true) (cond (k78_0 a0 a1 false 0 1) (true) (false)))
theorem o78 (a0 : List (Ty.T y124)) (a1 : List (Ty.T y124)) : u78 a0 a1 = cond (d78 a0 a1) (some (f78 (v78 a0 a1))) none := (par_cond (par_some _) (par_cond (par_some _) (par_cond (par_some _) (par_none _))))
noncomputable def p78 : Prim := ⟨[.one (.dat (.sl 125 y124) true), .one (.dat (.sl 125 y124) true)], fun v => .br (d78 v.1 v.2.1) (.done (f78 (v78 v.1 v.2.1))) .no⟩
theorem ok78 : PrimOk Try.prog 78 p78 := primOk_eq hE78l orders fun v => Eq.trans (b := u78 v.1 v.2.1) (by kernel_rfl) (o78 v.1 v.2.1)
/-! ### laws.eqAct -/
noncomputable def E120 : Env := { ti := ti, fn := fns, prim := [(78, p78)], eqt := eqts }
theorem hE120 : Env.Ok Try.prog E120 := Env.Ok.of tiOk fnOk (mem_cons ok78 <| mem_nil) mem_nil (mem_nil) eqtOk
noncomputable def f120 (r : Bool) : AV × Sig := (.one (.bool r), [])
noncomputable def u120 (a0 : Ty.T y70) (a1 : Ty.T y70) : Option (AV × Sig) := cond (a0.1 != a1.1) (some (.one (.bool false), [])) (cond (a0.2.1 != a1.2.1) (some (.one (.bool false), [])) (cond (a0.2.2.1 != a1.2.2.1) (some (.one (.bool false), [])) (cond (a0.2.2.2.1 != a1.2.2.2.1) (some (.one (.bool false), [])) (cond (a0.2.2.2.2.1 != a1.2.2.2.2.1) (some (.one (.bool false), [])) (cond (!(a0.2.2.2.2.2.1 == a1.2.2.2.2.2.1)) (some (.one (.bool false), [])) (cond (d78 a0.2.2.2.2.2.2 a1.2.2.2.2.2.2) (cond (!(v78 a0.2.2.2.2.2.2 a1.2.2.2.2.2.2)) (some (.one (.bool false), [])) (some (.one (.bool true), []))) (none)))))))
noncomputable def v120 (a0 : Ty.T y70) (a1 : Ty.T y70) : Bool := cond (a0.1 != a1.1) (false) (cond (a0.2.1 != a1.2.1) (false) (cond (a0.2.2.1 != a1.2.2.1) (false) (cond (a0.2.2.2.1 != a1.2.2.2.1) (false) (cond (a0.2.2.2.2.1 != a1.2.2.2.2.1) (false) (cond (!(a0.2.2.2.2.2.1 == a1.2.2.2.2.2.1)) (false) (cond (d78 a0.2.2.2.2.2.2 a1.2.2.2.2.2.2) (cond (!(v78 a0.2.2.2.2.2.2 a1.2.2.2.2.2.2)) (false) (true)) (false)))))))
noncomputable def d120 (a0 : Ty.T y70) (a1 : Ty.T y70) : Bool := cond (a0.1 != a1.1) (true) (cond (a0.2.1 != a1.2.1) (true) (cond (a0.2.2.1 != a1.2.2.1) (true) (cond (a0.2.2.2.1 != a1.2.2.2.1) (true) (cond (a0.2.2.2.2.1 != a1.2.2.2.2.1) (true) (cond (!(a0.2.2.2.2.2.1 == a1.2.2.2.2.2.1)) (true) (cond (d78 a0.2.2.2.2.2.2 a1.2.2.2.2.2.2) (cond (!(v78 a0.2.2.2.2.2.2 a1.2.2.2.2.2.2)) (true) (true)) (false)))))))
theorem o120 (a0 : Ty.T y70) (a1 : Ty.T y70) : u120 a0 a1 = cond (d120 a0 a1) (some (f120 (v120 a0 a1))) none := (par_cond (par_some _) (par_cond (par_some _) (par_cond (par_some _) (par_cond (par_some _) (par_cond (par_some _) (par_cond (par_some _) (par_cond (par_cond (par_some _) (par_some _)) (par_none _))))))))
noncomputable def p120 : Prim := ⟨[.agg [.dat y70 true], .agg [.dat y70 true]], fun v => .br (d120 v.1 v.2.1) (.done (f120 (v120 v.1 v.2.1))) .no⟩
theorem ok120 : PrimOk Try.prog 120 p120 := primOk_eq hE120 orders fun v => Eq.trans (b := u120 v.1 v.2.1) (by kernel_rfl) (o120 v.1 v.2.1)
/-! ### laws.eqEffect -/
noncomputable def E77 : Env := { ti := ti, fn := fns, prim := [(118, p118), (119, p119), (120, p120)], eqt := eqts }
theorem hE77 : Env.Ok Try.prog E77 := Env.Ok.of tiOk fnOk (mem_cons ok118 <| mem_cons ok119 <| mem_cons ok120 <| mem_nil) mem_nil (mem_nil) eqtOk
noncomputable def f77 (r : Bool) : AV × Sig := (.one (.bool r), [])
noncomputable def u77 (a0 : Ty.T y72) (a1 : Ty.T y72) : Option (AV × Sig) := cond (a0.1 != a1.1) (some (.one (.bool false), [])) (cond (a0.2.1 != a1.2.1) (some (.one (.bool false), [])) (cond (a0.2.2.1 != a1.2.2.1) (some (.one (.bool false), [])) (cond (a0.2.2.2.1 != a1.2.2.2.1) (some (.one (.bool false), [])) (cond (!(v118 a0.2.2.2.2.1 a1.2.2.2.2.1)) (some (.one (.bool false), [])) (cond (!(v119 a0.2.2.2.2.2.1 a1.2.2.2.2.2.1)) (some (.one (.bool false), [])) (cond (d120 a0.2.2.2.2.2.2.1 a1.2.2.2.2.2.2.1) (cond (!(v120 a0.2.2.2.2.2.2.1 a1.2.2.2.2.2.2.1)) (some (.one (.bool false), [])) (cond (a0.2.2.2.2.2.2.2.1 != a1.2.2.2.2.2.2.2.1) (some (.one (.bool false), [])) (cond (a0.2.2.2.2.2.2.2.2 != a1.2.2.2.2.2.2.2.2) (some (.one (.bool false), [])) (some (.one (.bool true), []))))) (none)))))))
noncomputable def v77 (a0 : Ty.T y72) (a1 : Ty.T y72) : Bool := cond (a0.1 != a1.1) (false) (cond (a0.2.1 != a1.2.1) (false) (cond (a0.2.2.1 != a1.2.2.1) (false) (cond (a0.2.2.2.1 != a1.2.2.2.1) (false) (cond (!(v118 a0.2.2.2.2.1 a1.2.2.2.2.1)) (false) (cond (!(v119 a0.2.2.2.2.2.1 a1.2.2.2.2.2.1)) (false) (cond (d120 a0.2.2.2.2.2.2.1 a1.2.2.2.2.2.2.1) (cond (!(v120 a0.2.2.2.2.2.2.1 a1.2.2.2.2.2.2.1)) (false) (cond (a0.2.2.2.2.2.2.2.1 != a1.2.2.2.2.2.2.2.1) (false) (cond (a0.2.2.2.2.2.2.2.2 != a1.2.2.2.2.2.2.2.2) (false) (true)))) (false)))))))
noncomputable def d77 (a0 : Ty.T y72) (a1 : Ty.T y72) : Bool := cond (a0.1 != a1.1) (true) (cond (a0.2.1 != a1.2.1) (true) (cond (a0.2.2.1 != a1.2.2.1) (true) (cond (a0.2.2.2.1 != a1.2.2.2.1) (true) (cond (!(v118 a0.2.2.2.2.1 a1.2.2.2.2.1)) (true) (cond (!(v119 a0.2.2.2.2.2.1 a1.2.2.2.2.2.1)) (true) (cond (d120 a0.2.2.2.2.2.2.1 a1.2.2.2.2.2.2.1) (cond (!(v120 a0.2.2.2.2.2.2.1 a1.2.2.2.2.2.2.1)) (true) (cond (a0.2.2.2.2.2.2.2.1 != a1.2.2.2.2.2.2.2.1) (true) (cond (a0.2.2.2.2.2.2.2.2 != a1.2.2.2.2.2.2.2.2) (true) (true)))) (false)))))))
theorem o77 (a0 : Ty.T y72) (a1 : Ty.T y72) : u77 a0 a1 = cond (d77 a0 a1) (some (f77 (v77 a0 a1))) none := (par_cond (par_some _) (par_cond (par_some _) (par_cond (par_some _) (par_cond (par_some _) (par_cond (par_some _) (par_cond (par_some _) (par_cond (par_cond (par_some _) (par_cond (par_some _) (par_cond (par_some _) (par_some _)))) (par_none _))))))))
noncomputable def p77 : Prim := ⟨[.agg [.dat y72 true], .agg [.dat y72 true]], fun v => .br (d77 v.1 v.2.1) (.done (f77 (v77 v.1 v.2.1))) .no⟩
theorem ok77 : PrimOk Try.prog 77 p77 := primOk_eq hE77 orders fun v => Eq.trans (b := u77 v.1 v.2.1) (by kernel_rfl) (o77 v.1 v.2.1)
/-! ### laws.eqEffectS -/
noncomputable def E35 : Env := { ti := ti, fn := fns, prim := [(77, p77)], eqt := eqts }
theorem hE35 : Env.Ok Try.prog E35 := Env.Ok.of tiOk fnOk (mem_cons ok77 <| mem_nil) mem_nil (mem_nil) eqtOk
@[reducible] noncomputable def ss35_0 : List SP := [.one (.dat (.sl 73 y72) true), .one (.dat (.sl 73 y72) true), .und, .und, .one (.dat .bool true), .one (.dat (.int .i64) true), .und, .und, .und, .und, .und, .und, .und, .und, .und, .und, .und, .und, .und, .und, .und, .und, .und, .und, .und, .und, .und]
@[reducible] noncomputable def gs35_0 : List (Nat × GP) := []
noncomputable def t35_0 (v : (StT ss35_0 gs35_0)) {R : Type} (κ : Nat × (StT ss35_0 gs35_0) → Option R) : Option R := cond (decide (v.2.2.2.1 < ((v.1).length : Int))) (if 0 ≤ v.2.2.2.1 then (optC ((v.1)[(v.2.2.2.1).toNat]?) (fun x1 => if 0 ≤ v.2.2.2.1 then (optC ((v.2.1)[(v.2.2.2.1).toNat]?) (fun x2 => cond (d77 x1 x2) (cond (!(v77 x1 x2)) (κ (1, (v.1, v.2.1, false, v.2.2.2.1, ()))) (κ (0, (v.1, v.2.1, v.2.2.1, IntKind.wrap .i64 (v.2.2.2.1 + (1 : Int)), ())))) (none))) else none)) else none) (κ (2, (v.1, v.2.1, v.2.2.1, v.2.2.2.1, ())))
noncomputable def s35_0 (v : (StT ss35_0 gs35_0)) : Option (Nat × (StT ss35_0 gs35_0)) := t35_0 v some
noncomputable def n35_0 (v : (StT ss35_0 gs35_0)) : Nat := v.1.length + v.2.1.length + v.2.2.2.1.toNat + 100
noncomputable def k35_0 (x0 : List (Ty.T y72)) (x1 : List (Ty.T y72)) (x2 : Bool) (x3 : Int) (c : Nat) : Bool := iterAt s35_0 (n35_0 (x0, x1, x2, x3, ())) (x0, x1, x2, x3, ()) c
noncomputable def w35_0 (x0 : List (Ty.T y72)) (x1 : List (Ty.T y72)) (x2 : Bool) (x3 : Int) : (StT ss35_0 gs35_0) := iterV s35_0 (n35_0 (x0, x1, x2, x3, ())) (x0, x1, x2, x3, ())
noncomputable def F35_0 (v : (StT ss35_0 gs35_0)) : Ways (Ex × St) := waysOf s35_0 (n35_0 v) v (bldSt ss35_0 gs35_0) [.ret, .exit 0] 0
theorem wf35_0 : wfSt ss35_0 gs35_0 := wf_of (by kernel_rfl)
theorem l35_0 : LoopOk Try.prog (loopAt [true, true, false, true] (bodyOf Try.f35)) ss35_0 gs35_0 F35_0 := loopOk_iter (lt := .none) (m := [true, true, false, false, true, true, false, false, false, false, false, false, false, false, false, false, false, false, false, false, false, false, false, false, false, false, false]) (keep := []) hE35 orders (LtOk.no _) fun n v K => Eq.trans (b := t35_0 v (kont _ _ _ _ _ _ K)) (by kernel_rfl) (show t35_0 v _ = (t35_0 v some).bind _ from (bnd_cond (bnd_ite (bnd_opt fun x1 => (bnd_ite (bnd_opt fun x2 => (bnd_cond (bnd_cond rfl rfl) rfl))))) rfl))
noncomputable def E35l : Env := { ti := ti, fn := fns, prim := [(77, p77)], eqt := eqts, lt := [(35, (ltPut [true, true, false, true] (bodyOf Try.f35) .none (.sum ss35_0 gs35_0 F35_0)))] }
theorem hE35l : Env.Ok Try.prog E35l := Env.Ok.of tiOk fnOk (mem_cons ok77 <| mem_nil) (mem_cons (ltOk_of Try.func35 (LtOk.put wf35_0 (LtOk.no _) l35_0)) mem_nil) (mem_nil) eqtOk
noncomputable def f35 (r : Bool) : AV × Sig := (.one (.bool r), [])
noncomputable def u35 (a0 : List (Ty.T y72)) (a1 : List (Ty.T y72)) : Option (AV × Sig) := cond (((a0).length : Int) != ((a1).length : Int)) (some (.one (.bool false), [])) (cond (k35_0 a0 a1 false 0 0) (some (.one (.bool (w35_0 a0 a1 false 0).2.2.1), [])) (cond (k35_0 a0 a1 false 0 1) (some (.one (.bool true), [])) (none)))
noncomputable def v35 (a0 : List (Ty.T y72)) (a1 : List (Ty.T y72)) : Bool := cond (((a0).length : Int) != ((a1).length : Int)) (false) (cond (k35_0 a0 a1 false 0 0) ((w35_0 a0 a1 false 0).2.2.1) (cond (k35_0 a0 a1 false 0 1) (true) (false)))
noncomputable def d35 (a0 : List (Ty.T y72)) (a1 : List (Ty.T y72)) : Bool := cond (((a0).length : Int) != ((a1).length : Int)) (true) (cond (k35_0 a0 a1 false 0 0) (true) (cond (k35_0 a0 a1 false 0 1) (true) (false)))
theorem o35 (a0 : List (Ty.T y72)) (a1 : List (Ty.T y72)) : u35 a0 a1 = cond (d35 a0 a1) (some (f35 (v35 a0 a1))) none := (par_cond (par_some _) (par_cond (par_some _) (par_cond (par_some _) (par_none _))))
noncomputable def p35 : Prim := ⟨[.one (.dat (.sl 73 y72) true), .one (.dat (.sl 73 y72) true)], fun v => .br (d35 v.1 v.2.1) (.done (f35 (v35 v.1 v.2.1))) .no⟩
theorem ok35 : PrimOk Try.prog 35 p35 := primOk_eq hE35l orders fun v => Eq.trans (b := u35 v.1 v.2.1) (by kernel_rfl) (o35 v.1 v.2.1)
/-! ### laws.eqIntS -/
noncomputable def E14 : Env := { ti := ti, fn := fns, prim := [], eqt := eqts }
theorem hE14 : Env.Ok Try.prog E14 := Env.Ok.of tiOk fnOk (mem_nil) mem_nil (mem_nil) eqtOk
@[reducible] noncomputable def ss14_0 : List SP := [.one (.dat (.sl 3 (.int .i64)) true), .one (.dat (.sl 3 (.int .i64)) true), .und, .und, .one (.dat .bool true), .one (.dat (.int .i64) true), .und, .und, .und, .und, .und, .und, .und, .und, .und, .und, .und, .und, .und, .und, .und, .und, .und, .und, .und, .und]
@[reducible] noncomputable def gs14_0 : List (Nat × GP) := []
noncomputable def t14_0 (v : (StT ss14_0 gs14_0)) {R : Type} (κ : Nat × (StT ss14_0 gs14_0) → Option R) : Option R := cond (decide (v.2.2.2.1 < ((v.1).length : Int))) (if 0 ≤ v.2.2.2.1 then (optC ((v.1)[(v.2.2.2.1).toNat]?) (fun x1 => if 0 ≤ v.2.2.2.1 then (optC ((v.2.1)[(v.2.2.2.1).toNat]?) (fun x2 => cond (x1 != x2) (κ (1, (v.1, v.2.1, false, v.2.2.2.1, ()))) (κ (0, (v.1, v.2.1, v.2.2.1, IntKind.wrap .i64 (v.2.2.2.1 + (1 : Int)), ()))))) else none)) else none) (κ (2, (v.1, v.2.1, v.2.2.1, v.2.2.2.1, ())))
noncomputable def s14_0 (v : (StT ss14_0 gs14_0)) : Option (Nat × (StT ss14_0 gs14_0)) := t14_0 v some
noncomputable def n14_0 (v : (StT ss14_0 gs14_0)) : Nat := v.1.length + v.2.1.length + v.2.2.2.1.toNat + 100
noncomputable def k14_0 (x0 : List (Ty.T (.int .i64))) (x1 : List (Ty.T (.int .i64))) (x2 : Bool) (x3 : Int) (c : Nat) : Bool := iterAt s14_0 (n14_0 (x0, x1, x2, x3, ())) (x0, x1, x2, x3, ()) c
noncomputable def w14_0 (x0 : List (Ty.T (.int .i64))) (x1 : List (Ty.T (.int .i64))) (x2 : Bool) (x3 : Int) : (StT ss14_0 gs14_0) := iterV s14_0 (n14_0 (x0, x1, x2, x3, ())) (x0, x1, x2, x3, ())
noncomputable def F14_0 (v : (StT ss14_0 gs14_0)) : Ways (Ex × St) := waysOf s14_0 (n14_0 v) v (bldSt ss14_0 gs14_0) [.ret, .exit 0] 0
theorem wf14_0 : wfSt ss14_0 gs14_0 := wf_of (by kernel_rfl)
theorem l14_0 : LoopOk Try.prog (loopAt [true, true, false, true] (bodyOf Try.f14)) ss14_0 gs14_0 F14_0 := loopOk_iter (lt := .none) (m := [true, true, false, false, true, true, false, false, false, false, false, false, false, false, false, false, false, false, false, false, false, false, false, false, false, false]) (keep := []) hE14 orders (LtOk.no _) fun n v K => Eq.trans (b := t14_0 v (kont _ _ _ _ _ _ K)) (by kernel_rfl) (show t14_0 v _ = (t14_0 v some).bind _ from (bnd_cond (bnd_ite (bnd_opt fun x1 => (bnd_ite (bnd_opt fun x2 => (bnd_cond rfl rfl))))) rfl))
noncomputable def E14l : Env := { ti := ti, fn := fns, prim := [], eqt := eqts, lt := [(14, (ltPut [true, true, false, true] (bodyOf Try.f14) .none (.sum ss14_0 gs14_0 F14_0)))] }
theorem hE14l : Env.Ok Try.prog E14l := Env.Ok.of tiOk fnOk (mem_nil) (mem_cons (ltOk_of Try.func14 (LtOk.put wf14_0 (LtOk.no _) l14_0)) mem_nil) (mem_nil) eqtOk
noncomputable def f14 (r : Bool) : AV × Sig := (.one (.bool r), [])
noncomputable def u14 (a0 : List (Ty.T (.int .i64))) (a1 : List (Ty.T (.int .i64))) : Option (AV × Sig) := cond (((a0).length : Int) != ((a1).length : Int)) (some (.one (.bool false), [])) (cond (k14_0 a0 a1 false 0 0) (some (.one (.bool (w14_0 a0 a1 false 0).2.2.1), [])) (cond (k14_0 a0 a1 false 0 1) (some (.one (.bool true), [])) (none)))
noncomputable def v14 (a0 : List (Ty.T (.int .i64))) (a1 : List (Ty.T (.int .i64))) : Bool := cond (((a0).length : Int) != ((a1).length : Int)) (false) (cond (k14_0 a0 a1 false 0 0) ((w14_0 a0 a1 false 0).2.2.1) (cond (k14_0 a0 a1 false 0 1) (true) (false)))
noncomputable def d14 (a0 : List (Ty.T (.int .i64))) (a1 : List (Ty.T (.int .i64))) : Bool := cond (((a0).length : Int) != ((a1).length : Int)) (true) (cond (k14_0 a0 a1 false 0 0) (true) (cond (k14_0 a0 a1 false 0 1) (true) (false)))
theorem o14 (a0 : List (Ty.T (.int .i64))) (a1 : List (Ty.T (.int .i64))) : u14 a0 a1 = cond (d14 a0 a1) (some (f14 (v14 a0 a1))) none := (par_cond (par_some _) (par_cond (par_some _) (par_cond (par_some _) (par_none _))))
noncomputable def p14 : Prim := ⟨[.one (.dat (.sl 3 (.int .i64)) true), .one (.dat (.sl 3 (.int .i64)) true)], fun v => .br (d14 v.1 v.2.1) (.done (f14 (v14 v.1 v.2.1))) .no⟩
theorem ok14 : PrimOk Try.prog 14 p14 := primOk_eq hE14l orders fun v => Eq.trans (b := u14 v.1 v.2.1) (by kernel_rfl) (o14 v.1 v.2.1)
/-! ### laws.eqTurn -/
noncomputable def E122 : Env := { ti := ti, fn := fns, prim := [(121, p121), (78, p78)], eqt := eqts }
theorem hE122 : Env.Ok Try.prog E122 := Env.Ok.of tiOk fnOk (mem_cons ok121 <| mem_cons ok78 <| mem_nil) mem_nil (mem_nil) eqtOk
noncomputable def f122 (r : Bool) : AV × Sig := (.one (.bool r), [])
noncomputable def u122 (a0 : Ty.T y158) (a1 : Ty.T y158) : Option (AV × Sig) := cond (a0.1 != a1.1) (some (.one (.bool false), [])) (cond (a0.2.1 != a1.2.1) (some (.one (.bool false), [])) (cond (a0.2.2.1 != a1.2.2.1) (some (.one (.bool false), [])) (cond (a0.2.2.2.1 != a1.2.2.2.1) (some (.one (.bool false), [])) (cond (!(v121 a0.2.2.2.2.1 a1.2.2.2.2.1)) (some (.one (.bool false), [])) (cond (d78 a0.2.2.2.2.2.1 a1.2.2.2.2.2.1) (cond (!(v78 a0.2.2.2.2.2.1 a1.2.2.2.2.2.1)) (some (.one (.bool false), [])) (cond (a0.2.2.2.2.2.2.1 != a1.2.2.2.2.2.2.1) (some (.one (.bool false), [])) (cond (a0.2.2.2.2.2.2.2 != a1.2.2.2.2.2.2.2) (some (.one (.bool false), [])) (some (.one (.bool true), []))))) (none))))))
noncomputable def v122 (a0 : Ty.T y158) (a1 : Ty.T y158) : Bool := cond (a0.1 != a1.1) (false) (cond (a0.2.1 != a1.2.1) (false) (cond (a0.2.2.1 != a1.2.2.1) (false) (cond (a0.2.2.2.1 != a1.2.2.2.1) (false) (cond (!(v121 a0.2.2.2.2.1 a1.2.2.2.2.1)) (false) (cond (d78 a0.2.2.2.2.2.1 a1.2.2.2.2.2.1) (cond (!(v78 a0.2.2.2.2.2.1 a1.2.2.2.2.2.1)) (false) (cond (a0.2.2.2.2.2.2.1 != a1.2.2.2.2.2.2.1) (false) (cond (a0.2.2.2.2.2.2.2 != a1.2.2.2.2.2.2.2) (false) (true)))) (false))))))
noncomputable def d122 (a0 : Ty.T y158) (a1 : Ty.T y158) : Bool := cond (a0.1 != a1.1) (true) (cond (a0.2.1 != a1.2.1) (true) (cond (a0.2.2.1 != a1.2.2.1) (true) (cond (a0.2.2.2.1 != a1.2.2.2.1) (true) (cond (!(v121 a0.2.2.2.2.1 a1.2.2.2.2.1)) (true) (cond (d78 a0.2.2.2.2.2.1 a1.2.2.2.2.2.1) (cond (!(v78 a0.2.2.2.2.2.1 a1.2.2.2.2.2.1)) (true) (cond (a0.2.2.2.2.2.2.1 != a1.2.2.2.2.2.2.1) (true) (cond (a0.2.2.2.2.2.2.2 != a1.2.2.2.2.2.2.2) (true) (true)))) (false))))))
theorem o122 (a0 : Ty.T y158) (a1 : Ty.T y158) : u122 a0 a1 = cond (d122 a0 a1) (some (f122 (v122 a0 a1))) none := (par_cond (par_some _) (par_cond (par_some _) (par_cond (par_some _) (par_cond (par_some _) (par_cond (par_some _) (par_cond (par_cond (par_some _) (par_cond (par_some _) (par_cond (par_some _) (par_some _)))) (par_none _)))))))
noncomputable def p122 : Prim := ⟨[.agg [.dat y158 true], .agg [.dat y158 true]], fun v => .br (d122 v.1 v.2.1) (.done (f122 (v122 v.1 v.2.1))) .no⟩
theorem ok122 : PrimOk Try.prog 122 p122 := primOk_eq hE122 orders fun v => Eq.trans (b := u122 v.1 v.2.1) (by kernel_rfl) (o122 v.1 v.2.1)
/-! ### laws.eqTurnS -/
noncomputable def E79 : Env := { ti := ti, fn := fns, prim := [(122, p122)], eqt := eqts }
theorem hE79 : Env.Ok Try.prog E79 := Env.Ok.of tiOk fnOk (mem_cons ok122 <| mem_nil) mem_nil (mem_nil) eqtOk
@[reducible] noncomputable def ss79_0 : List SP := [.one (.dat (.sl 159 y158) true), .one (.dat (.sl 159 y158) true), .und, .und, .one (.dat .bool true), .one (.dat (.int .i64) true), .und, .und, .und, .und, .und, .und, .und, .und, .und, .und, .und, .und, .und, .und, .und, .und, .und, .und, .und, .und, .und]
@[reducible] noncomputable def gs79_0 : List (Nat × GP) := []
noncomputable def t79_0 (v : (StT ss79_0 gs79_0)) {R : Type} (κ : Nat × (StT ss79_0 gs79_0) → Option R) : Option R := cond (decide (v.2.2.2.1 < ((v.1).length : Int))) (if 0 ≤ v.2.2.2.1 then (optC ((v.1)[(v.2.2.2.1).toNat]?) (fun x1 => if 0 ≤ v.2.2.2.1 then (optC ((v.2.1)[(v.2.2.2.1).toNat]?) (fun x2 => cond (d122 x1 x2) (cond (!(v122 x1 x2)) (κ (1, (v.1, v.2.1, false, v.2.2.2.1, ()))) (κ (0, (v.1, v.2.1, v.2.2.1, IntKind.wrap .i64 (v.2.2.2.1 + (1 : Int)), ())))) (none))) else none)) else none) (κ (2, (v.1, v.2.1, v.2.2.1, v.2.2.2.1, ())))
noncomputable def s79_0 (v : (StT ss79_0 gs79_0)) : Option (Nat × (StT ss79_0 gs79_0)) := t79_0 v some
noncomputable def n79_0 (v : (StT ss79_0 gs79_0)) : Nat := v.1.length + v.2.1.length + v.2.2.2.1.toNat + 100
noncomputable def k79_0 (x0 : List (Ty.T y158)) (x1 : List (Ty.T y158)) (x2 : Bool) (x3 : Int) (c : Nat) : Bool := iterAt s79_0 (n79_0 (x0, x1, x2, x3, ())) (x0, x1, x2, x3, ()) c
noncomputable def w79_0 (x0 : List (Ty.T y158)) (x1 : List (Ty.T y158)) (x2 : Bool) (x3 : Int) : (StT ss79_0 gs79_0) := iterV s79_0 (n79_0 (x0, x1, x2, x3, ())) (x0, x1, x2, x3, ())
noncomputable def F79_0 (v : (StT ss79_0 gs79_0)) : Ways (Ex × St) := waysOf s79_0 (n79_0 v) v (bldSt ss79_0 gs79_0) [.ret, .exit 0] 0
theorem wf79_0 : wfSt ss79_0 gs79_0 := wf_of (by kernel_rfl)
theorem l79_0 : LoopOk Try.prog (loopAt [true, true, false, true] (bodyOf Try.f79)) ss79_0 gs79_0 F79_0 := loopOk_iter (lt := .none) (m := [true, true, false, false, true, true, false, false, false, false, false, false, false, false, false, false, false, false, false, false, false, false, false, false, false, false, false]) (keep := []) hE79 orders (LtOk.no _) fun n v K => Eq.trans (b := t79_0 v (kont _ _ _ _ _ _ K)) (by kernel_rfl) (show t79_0 v _ = (t79_0 v some).bind _ from (bnd_cond (bnd_ite (bnd_opt fun x1 => (bnd_ite (bnd_opt fun x2 => (bnd_cond (bnd_cond rfl rfl) rfl))))) rfl))
noncomputable def E79l : Env := { ti := ti, fn := fns, prim := [(122, p122)], eqt := eqts, lt := [(79, (ltPut [true, true, false, true] (bodyOf Try.f79) .none (.sum ss79_0 gs79_0 F79_0)))] }
theorem hE79l : Env.Ok Try.prog E79l := Env.Ok.of tiOk fnOk (mem_cons ok122 <| mem_nil) (mem_cons (ltOk_of Try.func79 (LtOk.put wf79_0 (LtOk.no _) l79_0)) mem_nil) (mem_nil) eqtOk
noncomputable def f79 (r : Bool) : AV × Sig := (.one (.bool r), [])
noncomputable def u79 (a0 : List (Ty.T y158)) (a1 : List (Ty.T y158)) : Option (AV × Sig) := cond (((a0).length : Int) != ((a1).length : Int)) (some (.one (.bool false), [])) (cond (k79_0 a0 a1 false 0 0) (some (.one (.bool (w79_0 a0 a1 false 0).2.2.1), [])) (cond (k79_0 a0 a1 false 0 1) (some (.one (.bool true), [])) (none)))
noncomputable def v79 (a0 : List (Ty.T y158)) (a1 : List (Ty.T y158)) : Bool := cond (((a0).length : Int) != ((a1).length : Int)) (false) (cond (k79_0 a0 a1 false 0 0) ((w79_0 a0 a1 false 0).2.2.1) (cond (k79_0 a0 a1 false 0 1) (true) (false)))
noncomputable def d79 (a0 : List (Ty.T y158)) (a1 : List (Ty.T y158)) : Bool := cond (((a0).length : Int) != ((a1).length : Int)) (true) (cond (k79_0 a0 a1 false 0 0) (true) (cond (k79_0 a0 a1 false 0 1) (true) (false)))
theorem o79 (a0 : List (Ty.T y158)) (a1 : List (Ty.T y158)) : u79 a0 a1 = cond (d79 a0 a1) (some (f79 (v79 a0 a1))) none := (par_cond (par_some _) (par_cond (par_some _) (par_cond (par_some _) (par_none _))))
noncomputable def p79 : Prim := ⟨[.one (.dat (.sl 159 y158) true), .one (.dat (.sl 159 y158) true)], fun v => .br (d79 v.1 v.2.1) (.done (f79 (v79 v.1 v.2.1))) .no⟩
theorem ok79 : PrimOk Try.prog 79 p79 := primOk_eq hE79l orders fun v => Eq.trans (b := u79 v.1 v.2.1) (by kernel_rfl) (o79 v.1 v.2.1)
/-! ### laws.eqFate -/
noncomputable def E36 : Env := { ti := ti, fn := fns, prim := [(14, p14), (35, p35), (78, p78), (79, p79)], eqt := eqts }
theorem hE36 : Env.Ok Try.prog E36 := Env.Ok.of tiOk fnOk (mem_cons ok14 <| mem_cons ok35 <| mem_cons ok78 <| mem_cons ok79 <| mem_nil) mem_nil (mem_nil) eqtOk
noncomputable def f36 (r : Bool) : AV × Sig := (.one (.bool r), [])
noncomputable def u36 (a0 : Ty.T y50) (a1 : Ty.T y50) : Option (AV × Sig) := cond (d78 a0.1 a1.1) (cond (!(v78 a0.1 a1.1)) (some (.one (.bool false), [])) (cond (d35 a0.2.1 a1.2.1) (cond (!(v35 a0.2.1 a1.2.1)) (some (.one (.bool false), [])) (cond (d14 a0.2.2.1 a1.2.2.1) (cond (!(v14 a0.2.2.1 a1.2.2.1)) (some (.one (.bool false), [])) (cond (d79 a0.2.2.2 a1.2.2.2) (cond (!(v79 a0.2.2.2 a1.2.2.2)) (some (.one (.bool false), [])) (some (.one (.bool true), []))) (none))) (none))) (none))) (none)
noncomputable def v36 (a0 : Ty.T y50) (a1 : Ty.T y50) : Bool := cond (d78 a0.1 a1.1) (cond (!(v78 a0.1 a1.1)) (false) (cond (d35 a0.2.1 a1.2.1) (cond (!(v35 a0.2.1 a1.2.1)) (false) (cond (d14 a0.2.2.1 a1.2.2.1) (cond (!(v14 a0.2.2.1 a1.2.2.1)) (false) (cond (d79 a0.2.2.2 a1.2.2.2) (cond (!(v79 a0.2.2.2 a1.2.2.2)) (false) (true)) (false))) (false))) (false))) (false)
noncomputable def d36 (a0 : Ty.T y50) (a1 : Ty.T y50) : Bool := cond (d78 a0.1 a1.1) (cond (!(v78 a0.1 a1.1)) (true) (cond (d35 a0.2.1 a1.2.1) (cond (!(v35 a0.2.1 a1.2.1)) (true) (cond (d14 a0.2.2.1 a1.2.2.1) (cond (!(v14 a0.2.2.1 a1.2.2.1)) (true) (cond (d79 a0.2.2.2 a1.2.2.2) (cond (!(v79 a0.2.2.2 a1.2.2.2)) (true) (true)) (false))) (false))) (false))) (false)
theorem o36 (a0 : Ty.T y50) (a1 : Ty.T y50) : u36 a0 a1 = cond (d36 a0 a1) (some (f36 (v36 a0 a1))) none := (par_cond (par_cond (par_some _) (par_cond (par_cond (par_some _) (par_cond (par_cond (par_some _) (par_cond (par_cond (par_some _) (par_some _)) (par_none _))) (par_none _))) (par_none _))) (par_none _))
noncomputable def p36 : Prim := ⟨[.agg [.dat y50 true], .agg [.dat y50 true]], fun v => .br (d36 v.1 v.2.1) (.done (f36 (v36 v.1 v.2.1))) .no⟩
theorem ok36 : PrimOk Try.prog 36 p36 := primOk_eq hE36 orders fun v => Eq.trans (b := u36 v.1 v.2.1) (by kernel_rfl) (o36 v.1 v.2.1)
/-! ### laws.FnExactInBounds -/
noncomputable def E5 : Env := { ti := ti, fn := fns, prim := [(29, p29), (30, p30), (31, p31), (32, p32), (33, p33), (34, p34), (35, p35), (36, p36)], eqt := eqts }
theorem hE5 : Env.Ok Try.prog E5 := Env.Ok.of tiOk fnOk (mem_cons ok29 <| mem_cons ok30 <| mem_cons ok31 <| mem_cons ok32 <| mem_cons ok33 <| mem_cons ok34 <| mem_cons ok35 <| mem_cons ok36 <| mem_nil) mem_nil (mem_nil) eqtOk
noncomputable def f5 (r : Bool) : AV × Sig := (.one (.bool r), [])
noncomputable def u5 (a0 : List (Ty.T y62)) (a1 : Ty.T y42) : Option (AV × Sig) := cond (d29 a0 1048576) (cond (decide ((v29 a0 1048576) < (0 : Int))) (some (.one (.bool true), [])) (cond (d30 a1 (v29 a0 1048576)) (cond (decide ((v30 a1 (v29 a0 1048576)) < (0 : Int))) (some (.one (.bool true), [])) (cond (d32 a0) (cond (d33 a1) (cond (d31 (v32 a0) (v33 a1)) (cond (d32 a0) (cond (d33 a1) (cond (d34 (v32 a0) (v33 a1)) (cond (!((v34 (v32 a0) (v33 a1)) == (v31 (v32 a0) (v33 a1)))) (some (.one (.bool false), [])) (cond (d32 a0) (cond (d35 (v32 a0) (v32 a0)) (cond (!(v35 (v32 a0) (v32 a0))) (some (.one (.bool false), [])) (cond (d33 a1) (cond (d36 (v33 a1) (v33 a1)) (cond (!(v36 (v33 a1) (v33 a1))) (some (.one (.bool false), [])) (some (.one (.bool true), []))) (none)) (none))) (none)) (none))) (none)) (none)) (none)) (none)) (none)) (none))) (none))) (none)
noncomputable def v5 (a0 : List (Ty.T y62)) (a1 : Ty.T y42) : Bool := cond (d29 a0 1048576) (cond (decide ((v29 a0 1048576) < (0 : Int))) (true) (cond (d30 a1 (v29 a0 1048576)) (cond (decide ((v30 a1 (v29 a0 1048576)) < (0 : Int))) (true) (cond (d32 a0) (cond (d33 a1) (cond (d31 (v32 a0) (v33 a1)) (cond (d32 a0) (cond (d33 a1) (cond (d34 (v32 a0) (v33 a1)) (cond (!((v34 (v32 a0) (v33 a1)) == (v31 (v32 a0) (v33 a1)))) (false) (cond (d32 a0) (cond (d35 (v32 a0) (v32 a0)) (cond (!(v35 (v32 a0) (v32 a0))) (false) (cond (d33 a1) (cond (d36 (v33 a1) (v33 a1)) (cond (!(v36 (v33 a1) (v33 a1))) (false) (true)) (false)) (false))) (false)) (false))) (false)) (false)) (false)) (false)) (false)) (false))) (false))) (false)
noncomputable def d5 (a0 : List (Ty.T y62)) (a1 : Ty.T y42) : Bool := cond (d29 a0 1048576) (cond (decide ((v29 a0 1048576) < (0 : Int))) (true) (cond (d30 a1 (v29 a0 1048576)) (cond (decide ((v30 a1 (v29 a0 1048576)) < (0 : Int))) (true) (cond (d32 a0) (cond (d33 a1) (cond (d31 (v32 a0) (v33 a1)) (cond (d32 a0) (cond (d33 a1) (cond (d34 (v32 a0) (v33 a1)) (cond (!((v34 (v32 a0) (v33 a1)) == (v31 (v32 a0) (v33 a1)))) (true) (cond (d32 a0) (cond (d35 (v32 a0) (v32 a0)) (cond (!(v35 (v32 a0) (v32 a0))) (true) (cond (d33 a1) (cond (d36 (v33 a1) (v33 a1)) (cond (!(v36 (v33 a1) (v33 a1))) (true) (true)) (false)) (false))) (false)) (false))) (false)) (false)) (false)) (false)) (false)) (false))) (false))) (false)
theorem o5 (a0 : List (Ty.T y62)) (a1 : Ty.T y42) : u5 a0 a1 = cond (d5 a0 a1) (some (f5 (v5 a0 a1))) none := (par_cond (par_cond (par_some _) (par_cond (par_cond (par_some _) (par_cond (par_cond (par_cond (par_cond (par_cond (par_cond (par_cond (par_some _) (par_cond (par_cond (par_cond (par_some _) (par_cond (par_cond (par_cond (par_some _) (par_some _)) (par_none _)) (par_none _))) (par_none _)) (par_none _))) (par_none _)) (par_none _)) (par_none _)) (par_none _)) (par_none _)) (par_none _))) (par_none _))) (par_none _))
noncomputable def p5 : Prim := ⟨[.one (.dat (.sl 63 y62) true), .agg [.dat y42 true]], fun v => .br (d5 v.1 v.2.1) (.done (f5 (v5 v.1 v.2.1))) .no⟩
theorem ok5 : PrimOk Try.prog 5 p5 := primOk_eq hE5 orders fun v => Eq.trans (b := u5 v.1 v.2.1) (by kernel_rfl) (o5 v.1 v.2.1)
end Go.Proofs.Ytcladakiniekcaa.Vm
