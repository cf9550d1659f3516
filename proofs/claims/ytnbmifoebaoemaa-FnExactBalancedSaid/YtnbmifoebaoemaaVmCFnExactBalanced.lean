/- Contracts. No condition. -/
import Derived.Test.YtnbmifoebaoemaaVmT
import Derived.Test.YtnbmifoebaoemaaVmLibTwo
namespace Go.Proofs.Ytnbmifoebaoemaa.Vm
open Go Go.Proofs.Ytnbmifoebaoemaa.Lib
set_option maxRecDepth 100000
set_option linter.unusedVariables false
/-! ### laws.szEventS -/
noncomputable def E66 : Env := { ti := ti, fn := fns, prim := [] }
theorem hE66 : Env.Ok Try.prog E66 := Env.Ok.of tiOk fnOk (mem_nil) mem_nil
noncomputable def f66 (r : Int) : AV × Sig := (.one (.int .i64 r), [])
noncomputable def u66 (a0 : List (Ty.T y33)) (a1 : Int) : Option (AV × Sig) := cond (decide ((IntKind.wrap .i64 (a1 - ((a0).length : Int))) < (0 : Int))) (some (.one (.int .i64 (-1)), [])) (some (.one (.int .i64 (IntKind.wrap .i64 (a1 - ((a0).length : Int)))), []))
noncomputable def v66 (a0 : List (Ty.T y33)) (a1 : Int) : Int := cond (decide ((IntKind.wrap .i64 (a1 - ((a0).length : Int))) < (0 : Int))) ((-1)) (IntKind.wrap .i64 (a1 - ((a0).length : Int)))
theorem o66 (a0 : List (Ty.T y33)) (a1 : Int) : u66 a0 a1 = some (f66 (v66 a0 a1)) := (tot_cond rfl rfl)
noncomputable def p66 : Prim := ⟨[.one (.dat (.sl 34 y33) true), .one (.dat (.int .i64) true)], fun v => .done (f66 (v66 v.1 v.2.1))⟩
theorem ok66 : PrimOk Try.prog 66 p66 := primOk_eq hE66 orders fun v => Eq.trans (b := u66 v.1 v.2.1) (by kernel_rfl) (o66 v.1 v.2.1)
/-! ### laws.szTurn -/
noncomputable def E47 : Env := { ti := ti, fn := fns, prim := [(66, p66)] }
theorem hE47 : Env.Ok Try.prog E47 := Env.Ok.of tiOk fnOk (mem_cons ok66 <| mem_nil) mem_nil
noncomputable def f47 (r : Int) : AV × Sig := (.one (.int .i64 r), [])
noncomputable def u47 (a0 : Ty.T y93) (a1 : Int) : Option (AV × Sig) := cond (decide ((v66 a0.2.2.2.2.2.1 a1) < (0 : Int))) (some (.one (.int .i64 (-1)), [])) (some (.one (.int .i64 (v66 a0.2.2.2.2.2.1 a1)), []))
noncomputable def v47 (a0 : Ty.T y93) (a1 : Int) : Int := cond (decide ((v66 a0.2.2.2.2.2.1 a1) < (0 : Int))) ((-1)) ((v66 a0.2.2.2.2.2.1 a1))
theorem o47 (a0 : Ty.T y93) (a1 : Int) : u47 a0 a1 = some (f47 (v47 a0 a1)) := (tot_cond rfl rfl)
noncomputable def p47 : Prim := ⟨[.agg [.dat y93 true], .one (.dat (.int .i64) true)], fun v => .done (f47 (v47 v.1 v.2.1))⟩
theorem ok47 : PrimOk Try.prog 47 p47 := primOk_eq hE47 orders fun v => Eq.trans (b := u47 v.1 v.2.1) (by kernel_rfl) (o47 v.1 v.2.1)
/-! ### laws.szTurnS -/
noncomputable def E14 : Env := { ti := ti, fn := fns, prim := [(47, p47)] }
theorem hE14 : Env.Ok Try.prog E14 := Env.Ok.of tiOk fnOk (mem_cons ok47 <| mem_nil) mem_nil
@[reducible] noncomputable def ss14_0 : List SP := [.one (.dat (.sl 94 y93) true), .one (.dat (.int .i64) true), .und, .und, .one (.dat (.int .i64) true), .one (.dat (.int .i64) true), .und, .und, .und, .und, .und, .und, .und, .und, .und, .und, .und, .und, .und, .und, .und, .und, .und, .und, .und, .und, .und]
@[reducible] noncomputable def gs14_0 : List (Nat × GP) := []
noncomputable def t14_0 (v : (StT ss14_0 gs14_0)) {R : Type} (κ : Nat × (StT ss14_0 gs14_0) → Option R) : Option R := cond (decide (v.2.2.2.1 < ((v.1).length : Int))) (if 0 ≤ v.2.2.2.1 then (optC ((v.1)[(v.2.2.2.1).toNat]?) (fun x1 => cond (decide ((v47 x1 v.2.1) < (0 : Int))) (κ (1, (v.1, (v47 x1 v.2.1), (-1), v.2.2.2.1, ()))) (κ (0, (v.1, (v47 x1 v.2.1), v.2.2.1, IntKind.wrap .i64 (v.2.2.2.1 + (1 : Int)), ()))))) else none) (κ (2, (v.1, v.2.1, v.2.2.1, v.2.2.2.1, ())))
noncomputable def s14_0 (v : (StT ss14_0 gs14_0)) : Option (Nat × (StT ss14_0 gs14_0)) := t14_0 v some
noncomputable def n14_0 (v : (StT ss14_0 gs14_0)) : Nat := v.1.length + v.2.1.toNat + v.2.2.1.toNat + v.2.2.2.1.toNat + 100
noncomputable def k14_0 (x0 : List (Ty.T y93)) (x1 : Int) (x2 : Int) (x3 : Int) (c : Nat) : Bool := iterAt s14_0 (n14_0 (x0, x1, x2, x3, ())) (x0, x1, x2, x3, ()) c
noncomputable def w14_0 (x0 : List (Ty.T y93)) (x1 : Int) (x2 : Int) (x3 : Int) : (StT ss14_0 gs14_0) := iterV s14_0 (n14_0 (x0, x1, x2, x3, ())) (x0, x1, x2, x3, ())
noncomputable def F14_0 (v : (StT ss14_0 gs14_0)) : Ways (Ex × St) := waysOf s14_0 (n14_0 v) v (bldSt ss14_0 gs14_0) [.ret, .exit 0] 0
theorem wf14_0 : wfSt ss14_0 gs14_0 := wf_of (by kernel_rfl)
theorem l14_0 : LoopOk Try.prog (loopAt [true, true, true, false, true] (bodyOf Try.f14)) ss14_0 gs14_0 F14_0 := loopOk_iter (lt := .none) (m := [true, true, false, false, true, true, false, false, false, false, false, false, false, false, false, false, false, false, false, false, false, false, false, false, false, false, false]) (keep := []) hE14 orders (LtOk.no _) fun n v K => Eq.trans (b := t14_0 v (kont _ _ _ _ _ _ K)) (by kernel_rfl) (show t14_0 v _ = (t14_0 v some).bind _ from (bnd_cond (bnd_ite (bnd_opt fun x1 => (bnd_cond rfl rfl))) rfl))
noncomputable def E14l : Env := { ti := ti, fn := fns, prim := [(47, p47)], lt := [(14, (ltPut [true, true, true, false, true] (bodyOf Try.f14) .none (.sum ss14_0 gs14_0 F14_0)))] }
theorem hE14l : Env.Ok Try.prog E14l := Env.Ok.of tiOk fnOk (mem_cons ok47 <| mem_nil) (mem_cons (ltOk_of Try.func14 (LtOk.put wf14_0 (LtOk.no _) l14_0)) mem_nil)
noncomputable def f14 (r : Int) : AV × Sig := (.one (.int .i64 r), [])
noncomputable def u14 (a0 : List (Ty.T y93)) (a1 : Int) : Option (AV × Sig) := cond (decide ((IntKind.wrap .i64 (a1 - ((a0).length : Int))) < (0 : Int))) (some (.one (.int .i64 (-1)), [])) (cond (k14_0 a0 (IntKind.wrap .i64 (a1 - ((a0).length : Int))) 0 0 0) (some (.one (.int .i64 ((w14_0 a0 (IntKind.wrap .i64 (a1 - ((a0).length : Int))) 0 0).2.2.1)), [])) (cond (k14_0 a0 (IntKind.wrap .i64 (a1 - ((a0).length : Int))) 0 0 1) (some (.one (.int .i64 ((w14_0 a0 (IntKind.wrap .i64 (a1 - ((a0).length : Int))) 0 0).2.1)), [])) (none)))
noncomputable def v14 (a0 : List (Ty.T y93)) (a1 : Int) : Int := cond (decide ((IntKind.wrap .i64 (a1 - ((a0).length : Int))) < (0 : Int))) ((-1)) (cond (k14_0 a0 (IntKind.wrap .i64 (a1 - ((a0).length : Int))) 0 0 0) ((w14_0 a0 (IntKind.wrap .i64 (a1 - ((a0).length : Int))) 0 0).2.2.1) (cond (k14_0 a0 (IntKind.wrap .i64 (a1 - ((a0).length : Int))) 0 0 1) ((w14_0 a0 (IntKind.wrap .i64 (a1 - ((a0).length : Int))) 0 0).2.1) (0)))
noncomputable def d14 (a0 : List (Ty.T y93)) (a1 : Int) : Bool := cond (decide ((IntKind.wrap .i64 (a1 - ((a0).length : Int))) < (0 : Int))) (true) (cond (k14_0 a0 (IntKind.wrap .i64 (a1 - ((a0).length : Int))) 0 0 0) (true) (cond (k14_0 a0 (IntKind.wrap .i64 (a1 - ((a0).length : Int))) 0 0 1) (true) (false)))
theorem o14 (a0 : List (Ty.T y93)) (a1 : Int) : u14 a0 a1 = cond (d14 a0 a1) (some (f14 (v14 a0 a1))) none := (par_cond (par_some _) (par_cond (par_some _) (par_cond (par_some _) (par_none _))))
noncomputable def p14 : Prim := ⟨[.one (.dat (.sl 94 y93) true), .one (.dat (.int .i64) true)], fun v => .br (d14 v.1 v.2.1) (.done (f14 (v14 v.1 v.2.1))) .no⟩
theorem ok14 : PrimOk Try.prog 14 p14 := primOk_eq hE14l orders fun v => Eq.trans (b := u14 v.1 v.2.1) (by kernel_rfl) (o14 v.1 v.2.1)
/-! ### laws.szAct -/
noncomputable def E78 : Env := { ti := ti, fn := fns, prim := [(66, p66)] }
theorem hE78 : Env.Ok Try.prog E78 := Env.Ok.of tiOk fnOk (mem_cons ok66 <| mem_nil) mem_nil
noncomputable def f78 (r : Int) : AV × Sig := (.one (.int .i64 r), [])
noncomputable def u78 (a0 : Ty.T y51) (a1 : Int) : Option (AV × Sig) := cond (decide ((v66 a0.2.2.2.2.2.2 a1) < (0 : Int))) (some (.one (.int .i64 (-1)), [])) (some (.one (.int .i64 (v66 a0.2.2.2.2.2.2 a1)), []))
noncomputable def v78 (a0 : Ty.T y51) (a1 : Int) : Int := cond (decide ((v66 a0.2.2.2.2.2.2 a1) < (0 : Int))) ((-1)) ((v66 a0.2.2.2.2.2.2 a1))
theorem o78 (a0 : Ty.T y51) (a1 : Int) : u78 a0 a1 = some (f78 (v78 a0 a1)) := (tot_cond rfl rfl)
noncomputable def p78 : Prim := ⟨[.agg [.dat y51 true], .one (.dat (.int .i64) true)], fun v => .done (f78 (v78 v.1 v.2.1))⟩
theorem ok78 : PrimOk Try.prog 78 p78 := primOk_eq hE78 orders fun v => Eq.trans (b := u78 v.1 v.2.1) (by kernel_rfl) (o78 v.1 v.2.1)
/-! ### laws.szEffect -/
noncomputable def E26 : Env := { ti := ti, fn := fns, prim := [(78, p78)] }
theorem hE26 : Env.Ok Try.prog E26 := Env.Ok.of tiOk fnOk (mem_cons ok78 <| mem_nil) mem_nil
noncomputable def f26 (r : Int) : AV × Sig := (.one (.int .i64 r), [])
noncomputable def u26 (a0 : Ty.T y53) (a1 : Int) : Option (AV × Sig) := cond (decide ((v78 a0.2.2.2.2.2.2.1 a1) < (0 : Int))) (some (.one (.int .i64 (-1)), [])) (some (.one (.int .i64 (v78 a0.2.2.2.2.2.2.1 a1)), []))
noncomputable def v26 (a0 : Ty.T y53) (a1 : Int) : Int := cond (decide ((v78 a0.2.2.2.2.2.2.1 a1) < (0 : Int))) ((-1)) ((v78 a0.2.2.2.2.2.2.1 a1))
theorem o26 (a0 : Ty.T y53) (a1 : Int) : u26 a0 a1 = some (f26 (v26 a0 a1)) := (tot_cond rfl rfl)
noncomputable def p26 : Prim := ⟨[.agg [.dat y53 true], .one (.dat (.int .i64) true)], fun v => .done (f26 (v26 v.1 v.2.1))⟩
theorem ok26 : PrimOk Try.prog 26 p26 := primOk_eq hE26 orders fun v => Eq.trans (b := u26 v.1 v.2.1) (by kernel_rfl) (o26 v.1 v.2.1)
/-! ### laws.szEffectS -/
noncomputable def E32 : Env := { ti := ti, fn := fns, prim := [(26, p26)] }
theorem hE32 : Env.Ok Try.prog E32 := Env.Ok.of tiOk fnOk (mem_cons ok26 <| mem_nil) mem_nil
@[reducible] noncomputable def ss32_0 : List SP := [.one (.dat (.sl 54 y53) true), .one (.dat (.int .i64) true), .und, .und, .one (.dat (.int .i64) true), .one (.dat (.int .i64) true), .und, .und, .und, .und, .und, .und, .und, .und, .und, .und, .und, .und, .und, .und, .und, .und, .und, .und, .und, .und, .und]
@[reducible] noncomputable def gs32_0 : List (Nat × GP) := []
noncomputable def t32_0 (v : (StT ss32_0 gs32_0)) {R : Type} (κ : Nat × (StT ss32_0 gs32_0) → Option R) : Option R := cond (decide (v.2.2.2.1 < ((v.1).length : Int))) (if 0 ≤ v.2.2.2.1 then (optC ((v.1)[(v.2.2.2.1).toNat]?) (fun x1 => cond (decide ((v26 x1 v.2.1) < (0 : Int))) (κ (1, (v.1, (v26 x1 v.2.1), (-1), v.2.2.2.1, ()))) (κ (0, (v.1, (v26 x1 v.2.1), v.2.2.1, IntKind.wrap .i64 (v.2.2.2.1 + (1 : Int)), ()))))) else none) (κ (2, (v.1, v.2.1, v.2.2.1, v.2.2.2.1, ())))
noncomputable def s32_0 (v : (StT ss32_0 gs32_0)) : Option (Nat × (StT ss32_0 gs32_0)) := t32_0 v some
noncomputable def n32_0 (v : (StT ss32_0 gs32_0)) : Nat := v.1.length + v.2.1.toNat + v.2.2.1.toNat + v.2.2.2.1.toNat + 100
noncomputable def k32_0 (x0 : List (Ty.T y53)) (x1 : Int) (x2 : Int) (x3 : Int) (c : Nat) : Bool := iterAt s32_0 (n32_0 (x0, x1, x2, x3, ())) (x0, x1, x2, x3, ()) c
noncomputable def w32_0 (x0 : List (Ty.T y53)) (x1 : Int) (x2 : Int) (x3 : Int) : (StT ss32_0 gs32_0) := iterV s32_0 (n32_0 (x0, x1, x2, x3, ())) (x0, x1, x2, x3, ())
noncomputable def F32_0 (v : (StT ss32_0 gs32_0)) : Ways (Ex × St) := waysOf s32_0 (n32_0 v) v (bldSt ss32_0 gs32_0) [.ret, .exit 0] 0
theorem wf32_0 : wfSt ss32_0 gs32_0 := wf_of (by kernel_rfl)
theorem l32_0 : LoopOk Try.prog (loopAt [true, true, true, false, true] (bodyOf Try.f32)) ss32_0 gs32_0 F32_0 := loopOk_iter (lt := .none) (m := [true, true, false, false, true, true, false, false, false, false, false, false, false, false, false, false, false, false, false, false, false, false, false, false, false, false, false]) (keep := []) hE32 orders (LtOk.no _) fun n v K => Eq.trans (b := t32_0 v (kont _ _ _ _ _ _ K)) (by kernel_rfl) (show t32_0 v _ = (t32_0 v some).bind _ from (bnd_cond (bnd_ite (bnd_opt fun x1 => (bnd_cond rfl rfl))) rfl))
noncomputable def E32l : Env := { ti := ti, fn := fns, prim := [(26, p26)], lt := [(32, (ltPut [true, true, true, false, true] (bodyOf Try.f32) .none (.sum ss32_0 gs32_0 F32_0)))] }
theorem hE32l : Env.Ok Try.prog E32l := Env.Ok.of tiOk fnOk (mem_cons ok26 <| mem_nil) (mem_cons (ltOk_of Try.func32 (LtOk.put wf32_0 (LtOk.no _) l32_0)) mem_nil)
noncomputable def f32 (r : Int) : AV × Sig := (.one (.int .i64 r), [])
noncomputable def u32 (a0 : List (Ty.T y53)) (a1 : Int) : Option (AV × Sig) := cond (decide ((IntKind.wrap .i64 (a1 - ((a0).length : Int))) < (0 : Int))) (some (.one (.int .i64 (-1)), [])) (cond (k32_0 a0 (IntKind.wrap .i64 (a1 - ((a0).length : Int))) 0 0 0) (some (.one (.int .i64 ((w32_0 a0 (IntKind.wrap .i64 (a1 - ((a0).length : Int))) 0 0).2.2.1)), [])) (cond (k32_0 a0 (IntKind.wrap .i64 (a1 - ((a0).length : Int))) 0 0 1) (some (.one (.int .i64 ((w32_0 a0 (IntKind.wrap .i64 (a1 - ((a0).length : Int))) 0 0).2.1)), [])) (none)))
noncomputable def v32 (a0 : List (Ty.T y53)) (a1 : Int) : Int := cond (decide ((IntKind.wrap .i64 (a1 - ((a0).length : Int))) < (0 : Int))) ((-1)) (cond (k32_0 a0 (IntKind.wrap .i64 (a1 - ((a0).length : Int))) 0 0 0) ((w32_0 a0 (IntKind.wrap .i64 (a1 - ((a0).length : Int))) 0 0).2.2.1) (cond (k32_0 a0 (IntKind.wrap .i64 (a1 - ((a0).length : Int))) 0 0 1) ((w32_0 a0 (IntKind.wrap .i64 (a1 - ((a0).length : Int))) 0 0).2.1) (0)))
noncomputable def d32 (a0 : List (Ty.T y53)) (a1 : Int) : Bool := cond (decide ((IntKind.wrap .i64 (a1 - ((a0).length : Int))) < (0 : Int))) (true) (cond (k32_0 a0 (IntKind.wrap .i64 (a1 - ((a0).length : Int))) 0 0 0) (true) (cond (k32_0 a0 (IntKind.wrap .i64 (a1 - ((a0).length : Int))) 0 0 1) (true) (false)))
theorem o32 (a0 : List (Ty.T y53)) (a1 : Int) : u32 a0 a1 = cond (d32 a0 a1) (some (f32 (v32 a0 a1))) none := (par_cond (par_some _) (par_cond (par_some _) (par_cond (par_some _) (par_none _))))
noncomputable def p32 : Prim := ⟨[.one (.dat (.sl 54 y53) true), .one (.dat (.int .i64) true)], fun v => .br (d32 v.1 v.2.1) (.done (f32 (v32 v.1 v.2.1))) .no⟩
theorem ok32 : PrimOk Try.prog 32 p32 := primOk_eq hE32l orders fun v => Eq.trans (b := u32 v.1 v.2.1) (by kernel_rfl) (o32 v.1 v.2.1)
/-! ### laws.szIntS -/
noncomputable def E111 : Env := { ti := ti, fn := fns, prim := [] }
theorem hE111 : Env.Ok Try.prog E111 := Env.Ok.of tiOk fnOk (mem_nil) mem_nil
noncomputable def f111 (r : Int) : AV × Sig := (.one (.int .i64 r), [])
noncomputable def u111 (a0 : List (Ty.T (.int .i64))) (a1 : Int) : Option (AV × Sig) := cond (decide ((IntKind.wrap .i64 (a1 - ((a0).length : Int))) < (0 : Int))) (some (.one (.int .i64 (-1)), [])) (some (.one (.int .i64 (IntKind.wrap .i64 (a1 - ((a0).length : Int)))), []))
noncomputable def v111 (a0 : List (Ty.T (.int .i64))) (a1 : Int) : Int := cond (decide ((IntKind.wrap .i64 (a1 - ((a0).length : Int))) < (0 : Int))) ((-1)) (IntKind.wrap .i64 (a1 - ((a0).length : Int)))
theorem o111 (a0 : List (Ty.T (.int .i64))) (a1 : Int) : u111 a0 a1 = some (f111 (v111 a0 a1)) := (tot_cond rfl rfl)
noncomputable def p111 : Prim := ⟨[.one (.dat (.sl 3 (.int .i64)) true), .one (.dat (.int .i64) true)], fun v => .done (f111 (v111 v.1 v.2.1))⟩
theorem ok111 : PrimOk Try.prog 111 p111 := primOk_eq hE111 orders fun v => Eq.trans (b := u111 v.1 v.2.1) (by kernel_rfl) (o111 v.1 v.2.1)
/-! ### laws.szFate -/
noncomputable def E58 : Env := { ti := ti, fn := fns, prim := [(14, p14), (32, p32), (66, p66), (111, p111)] }
theorem hE58 : Env.Ok Try.prog E58 := Env.Ok.of tiOk fnOk (mem_cons ok14 <| mem_cons ok32 <| mem_cons ok66 <| mem_cons ok111 <| mem_nil) mem_nil
noncomputable def f58 (r : Int) : AV × Sig := (.one (.int .i64 r), [])
noncomputable def u58 (a0 : Ty.T y112) (a1 : Int) : Option (AV × Sig) := cond (decide ((v66 a0.1 a1) < (0 : Int))) (some (.one (.int .i64 (-1)), [])) (cond (d32 a0.2.1 (v66 a0.1 a1)) (cond (decide ((v32 a0.2.1 (v66 a0.1 a1)) < (0 : Int))) (some (.one (.int .i64 (-1)), [])) (cond (decide ((v111 a0.2.2.1 (v32 a0.2.1 (v66 a0.1 a1))) < (0 : Int))) (some (.one (.int .i64 (-1)), [])) (cond (d14 a0.2.2.2 (v111 a0.2.2.1 (v32 a0.2.1 (v66 a0.1 a1)))) (cond (decide ((v14 a0.2.2.2 (v111 a0.2.2.1 (v32 a0.2.1 (v66 a0.1 a1)))) < (0 : Int))) (some (.one (.int .i64 (-1)), [])) (some (.one (.int .i64 (v14 a0.2.2.2 (v111 a0.2.2.1 (v32 a0.2.1 (v66 a0.1 a1))))), []))) (none)))) (none))
noncomputable def v58 (a0 : Ty.T y112) (a1 : Int) : Int := cond (decide ((v66 a0.1 a1) < (0 : Int))) ((-1)) (cond (d32 a0.2.1 (v66 a0.1 a1)) (cond (decide ((v32 a0.2.1 (v66 a0.1 a1)) < (0 : Int))) ((-1)) (cond (decide ((v111 a0.2.2.1 (v32 a0.2.1 (v66 a0.1 a1))) < (0 : Int))) ((-1)) (cond (d14 a0.2.2.2 (v111 a0.2.2.1 (v32 a0.2.1 (v66 a0.1 a1)))) (cond (decide ((v14 a0.2.2.2 (v111 a0.2.2.1 (v32 a0.2.1 (v66 a0.1 a1)))) < (0 : Int))) ((-1)) ((v14 a0.2.2.2 (v111 a0.2.2.1 (v32 a0.2.1 (v66 a0.1 a1)))))) (0)))) (0))
noncomputable def d58 (a0 : Ty.T y112) (a1 : Int) : Bool := cond (decide ((v66 a0.1 a1) < (0 : Int))) (true) (cond (d32 a0.2.1 (v66 a0.1 a1)) (cond (decide ((v32 a0.2.1 (v66 a0.1 a1)) < (0 : Int))) (true) (cond (decide ((v111 a0.2.2.1 (v32 a0.2.1 (v66 a0.1 a1))) < (0 : Int))) (true) (cond (d14 a0.2.2.2 (v111 a0.2.2.1 (v32 a0.2.1 (v66 a0.1 a1)))) (cond (decide ((v14 a0.2.2.2 (v111 a0.2.2.1 (v32 a0.2.1 (v66 a0.1 a1)))) < (0 : Int))) (true) (true)) (false)))) (false))
theorem o58 (a0 : Ty.T y112) (a1 : Int) : u58 a0 a1 = cond (d58 a0 a1) (some (f58 (v58 a0 a1))) none := (par_cond (par_some _) (par_cond (par_cond (par_some _) (par_cond (par_some _) (par_cond (par_cond (par_some _) (par_some _)) (par_none _)))) (par_none _)))
noncomputable def p58 : Prim := ⟨[.agg [.dat y112 true], .one (.dat (.int .i64) true)], fun v => .br (d58 v.1 v.2.1) (.done (f58 (v58 v.1 v.2.1))) .no⟩
theorem ok58 : PrimOk Try.prog 58 p58 := primOk_eq hE58 orders fun v => Eq.trans (b := u58 v.1 v.2.1) (by kernel_rfl) (o58 v.1 v.2.1)
/-! ### laws.toEvent -/
noncomputable def E74 : Env := { ti := ti, fn := fns, prim := [] }
theorem hE74 : Env.Ok Try.prog E74 := Env.Ok.of tiOk fnOk (mem_nil) mem_nil
noncomputable def f74 (r : (Ty.T y33)) : AV × Sig := (.agg (y33.cells false r), [])
noncomputable def u74 (a0 : Ty.T y33) : Option (AV × Sig) := some (.agg [.int .i64 a0.1, .int .i64 a0.2.1, .int .i64 a0.2.2.1, .int .i64 a0.2.2.2.1, .int .i64 a0.2.2.2.2.1, .int .i64 a0.2.2.2.2.2.1, .bool a0.2.2.2.2.2.2], [])
noncomputable def v74 (a0 : Ty.T y33) : (Ty.T y33) := a0
theorem o74 (a0 : Ty.T y33) : u74 a0 = some (f74 (v74 a0)) := rfl
noncomputable def p74 : Prim := ⟨[.agg [.dat y33 true]], fun v => .done (f74 (v74 v.1))⟩
theorem ok74 : PrimOk Try.prog 74 p74 := primOk_eq hE74 orders fun v => Eq.trans (b := u74 v.1) (by kernel_rfl) (o74 v.1)
/-! ### laws.toEventS -/
noncomputable def E68 : Env := { ti := ti, fn := fns, prim := [(74, p74)] }
theorem hE68 : Env.Ok Try.prog E68 := Env.Ok.of tiOk fnOk (mem_cons ok74 <| mem_nil) mem_nil
@[reducible] noncomputable def ss68_0 : List SP := [.one (.dat (.sl 34 y33) true), .und, .one (.dat (.sl 40 y33) false), .one (.own 7), .one (.dat (.int .i64) true), .und, .und, .und, .und, .und, .und, .und, .und, .und, .und, .und, .und, .und, .und, .und, .und, .und, .und]
@[reducible] noncomputable def gs68_0 : List (Nat × GP) := [(7, .arr 40 y33 false)]
noncomputable def t68_0 (v : (StT ss68_0 gs68_0)) {R : Type} (κ : Nat × (StT ss68_0 gs68_0) → Option R) : Option R := cond (decide (v.2.2.1 < ((v.1).length : Int))) (if 0 ≤ v.2.2.1 then (optC ((v.1)[(v.2.2.1).toNat]?) (fun x1 => if 0 ≤ v.2.2.1 then (if v.2.2.1 < ((v.2.2.2.1).length : Int) then (optC ((v.2.2.2.1)[(v.2.2.1).toNat]?) (fun x2 => κ (0, (v.1, v.2.1, IntKind.wrap .i64 (v.2.2.1 + (1 : Int)), v.2.2.2.1.set ((v.2.2.1).toNat) ((v74 x1).1, (((v74 x1).2).1, ((((v74 x1).2).2).1, (((((v74 x1).2).2).2).1, ((((((v74 x1).2).2).2).2).1, ((((((v74 x1).2).2).2).2).2)))))), ())))) else none) else none)) else none) (κ (1, (v.1, v.2.1, v.2.2.1, v.2.2.2.1, ())))
noncomputable def s68_0 (v : (StT ss68_0 gs68_0)) : Option (Nat × (StT ss68_0 gs68_0)) := t68_0 v some
noncomputable def n68_0 (v : (StT ss68_0 gs68_0)) : Nat := v.1.length + v.2.1.length + v.2.2.1.toNat + v.2.2.2.1.length + 100
noncomputable def k68_0 (x0 : List (Ty.T y33)) (x1 : List (Ty.T y33)) (x2 : Int) (x3 : List (Ty.T y33)) (c : Nat) : Bool := iterAt s68_0 (n68_0 (x0, x1, x2, x3, ())) (x0, x1, x2, x3, ()) c
noncomputable def w68_0 (x0 : List (Ty.T y33)) (x1 : List (Ty.T y33)) (x2 : Int) (x3 : List (Ty.T y33)) : (StT ss68_0 gs68_0) := iterV s68_0 (n68_0 (x0, x1, x2, x3, ())) (x0, x1, x2, x3, ())
noncomputable def F68_0 (v : (StT ss68_0 gs68_0)) : Ways (Ex × St) := waysOf s68_0 (n68_0 v) v (bldSt ss68_0 gs68_0) [.exit 0] 0
theorem wf68_0 : wfSt ss68_0 gs68_0 := wf_of (by kernel_rfl)
theorem l68_0 : LoopOk Try.prog (loopAt [true, true, false, true] (bodyOf Try.f68)) ss68_0 gs68_0 F68_0 := loopOk_iter (lt := .none) (m := [true, false, true, true, true, false, false, false, false, false, false, false, false, false, false, false, false, false, false, false, false, false, false]) (keep := [7]) hE68 orders (LtOk.no _) fun n v K => Eq.trans (b := t68_0 v (kont _ _ _ _ _ _ K)) (by kernel_rfl) (show t68_0 v _ = (t68_0 v some).bind _ from (bnd_cond (bnd_ite (bnd_opt fun x1 => (bnd_ite (bnd_ite (bnd_opt fun x2 => rfl))))) rfl))
noncomputable def E68l : Env := { ti := ti, fn := fns, prim := [(74, p74)], lt := [(68, (ltPut [true, true, false, true] (bodyOf Try.f68) .none (.sum ss68_0 gs68_0 F68_0)))] }
theorem hE68l : Env.Ok Try.prog E68l := Env.Ok.of tiOk fnOk (mem_cons ok74 <| mem_nil) (mem_cons (ltOk_of Try.func68 (LtOk.put wf68_0 (LtOk.no _) l68_0)) mem_nil)
noncomputable def f68 (r : (List (Ty.T y33))) : AV × Sig := (.one (.sl 4096), [(4096, .arr 40 y33 r false)])
noncomputable def u68 (a0 : List (Ty.T y33)) : Option (AV × Sig) := if ((a0).length : Int) = ((a0).length : Int) then (if ((a0).length : Int).toNat * 56 ≤ 140737488351232 then (cond (k68_0 a0 [] 0 (List.replicate ((a0).length : Int).toNat ((0, (0, (0, (0, (0, (0, false)))))) : Ty.T y33)) 0) (some (.one (.sl 4096), [(4096, .arr 40 y33 ((w68_0 a0 [] 0 (List.replicate ((a0).length : Int).toNat ((0, (0, (0, (0, (0, (0, false)))))) : Ty.T y33))).2.2.2.1) false)])) (none)) else none) else none
noncomputable def v68 (a0 : List (Ty.T y33)) : (List (Ty.T y33)) := cond (k68_0 a0 [] 0 (List.replicate ((a0).length : Int).toNat ((0, (0, (0, (0, (0, (0, false)))))) : Ty.T y33)) 0) ((w68_0 a0 [] 0 (List.replicate ((a0).length : Int).toNat ((0, (0, (0, (0, (0, (0, false)))))) : Ty.T y33))).2.2.2.1) ([])
noncomputable def d68 (a0 : List (Ty.T y33)) : Bool := decide (((a0).length : Int) = ((a0).length : Int)) && (decide (((a0).length : Int).toNat * 56 ≤ 140737488351232) && (cond (k68_0 a0 [] 0 (List.replicate ((a0).length : Int).toNat ((0, (0, (0, (0, (0, (0, false)))))) : Ty.T y33)) 0) (true) (false)))
theorem o68 (a0 : List (Ty.T y33)) : u68 a0 = cond (d68 a0) (some (f68 (v68 a0))) none := (par_ite (par_ite (par_cond (par_some _) (par_none _))))
noncomputable def p68 : Prim := ⟨[.one (.dat (.sl 34 y33) true)], fun v => .br (d68 v.1) (.done (f68 (v68 v.1))) .no⟩
theorem ok68 : PrimOk Try.prog 68 p68 := primOk_eq hE68l orders fun v => Eq.trans (b := u68 v.1) (by kernel_rfl) (o68 v.1)
/-! ### laws.toTurn -/
noncomputable def E49 : Env := { ti := ti, fn := fns, prim := [(68, p68), (74, p74)] }
theorem hE49 : Env.Ok Try.prog E49 := Env.Ok.of tiOk fnOk (mem_cons ok68 <| mem_cons ok74 <| mem_nil) mem_nil
noncomputable def f49 (r : Int × Int × Int × Int × Int × Int × Int × Int × Int × Int × Bool × Int × Int × (List (Ty.T y33))) : AV × Sig := (.agg [.int .i64 r.1, .int .i64 r.2.1, .int .i64 r.2.2.1, .int .i64 r.2.2.2.1, .int .i64 r.2.2.2.2.1, .int .i64 r.2.2.2.2.2.1, .int .i64 r.2.2.2.2.2.2.1, .int .i64 r.2.2.2.2.2.2.2.1, .int .i64 r.2.2.2.2.2.2.2.2.1, .int .i64 r.2.2.2.2.2.2.2.2.2.1, .bool r.2.2.2.2.2.2.2.2.2.2.1, .sl 49152, .int .i64 r.2.2.2.2.2.2.2.2.2.2.2.1, .int .i64 r.2.2.2.2.2.2.2.2.2.2.2.2.1], [(49152, .arr 40 y33 r.2.2.2.2.2.2.2.2.2.2.2.2.2 false)])
noncomputable def u49 (a0 : Ty.T y93) : Option (AV × Sig) := cond (d68 a0.2.2.2.2.2.1) (some (.agg [.int .i64 a0.1, .int .i64 a0.2.1, .int .i64 a0.2.2.1, .int .i64 a0.2.2.2.1, .int .i64 ((v74 a0.2.2.2.2.1).1), .int .i64 (((v74 a0.2.2.2.2.1).2).1), .int .i64 ((((v74 a0.2.2.2.2.1).2).2).1), .int .i64 (((((v74 a0.2.2.2.2.1).2).2).2).1), .int .i64 ((((((v74 a0.2.2.2.2.1).2).2).2).2).1), .int .i64 (((((((v74 a0.2.2.2.2.1).2).2).2).2).2).1), .bool (((((((v74 a0.2.2.2.2.1).2).2).2).2).2).2), .sl 49152, .int .i64 a0.2.2.2.2.2.2.1, .int .i64 a0.2.2.2.2.2.2.2], [(49152, .arr 40 y33 (v68 a0.2.2.2.2.2.1) false)])) (none)
noncomputable def v49 (a0 : Ty.T y93) : Int × Int × Int × Int × Int × Int × Int × Int × Int × Int × Bool × Int × Int × (List (Ty.T y33)) := cond (d68 a0.2.2.2.2.2.1) ((a0.1, a0.2.1, a0.2.2.1, a0.2.2.2.1, (v74 a0.2.2.2.2.1).1, ((v74 a0.2.2.2.2.1).2).1, (((v74 a0.2.2.2.2.1).2).2).1, ((((v74 a0.2.2.2.2.1).2).2).2).1, (((((v74 a0.2.2.2.2.1).2).2).2).2).1, ((((((v74 a0.2.2.2.2.1).2).2).2).2).2).1, ((((((v74 a0.2.2.2.2.1).2).2).2).2).2).2, a0.2.2.2.2.2.2.1, a0.2.2.2.2.2.2.2, (v68 a0.2.2.2.2.2.1))) ((0, 0, 0, 0, 0, 0, 0, 0, 0, 0, false, 0, 0, []))
noncomputable def d49 (a0 : Ty.T y93) : Bool := cond (d68 a0.2.2.2.2.2.1) (true) (false)
theorem o49 (a0 : Ty.T y93) : u49 a0 = cond (d49 a0) (some (f49 (v49 a0))) none := (par_cond (par_some _) (par_none _))
noncomputable def p49 : Prim := ⟨[.agg [.dat y93 true]], fun v => .br (d49 v.1) (.done (f49 (v49 v.1))) .no⟩
theorem ok49 : PrimOk Try.prog 49 p49 := primOk_eq hE49 orders fun v => Eq.trans (b := u49 v.1) (by kernel_rfl) (o49 v.1)
/-! ### laws.toTurnS -/
noncomputable def E16 : Env := { ti := ti, fn := fns, prim := [(49, p49)] }
theorem hE16 : Env.Ok Try.prog E16 := Env.Ok.of tiOk fnOk (mem_cons ok49 <| mem_nil) mem_nil
@[reducible] noncomputable def ss16_0 : List SP := [.one (.dat (.sl 94 y93) true), .und, .one (.dat (.sl 98 y97) false), .one (.own 7), .one (.dat (.int .i64) true), .und, .und, .und, .und, .und, .und, .und, .und, .und, .und, .und, .und, .und, .und, .und, .und, .und, .und]
@[reducible] noncomputable def gs16_0 : List (Nat × GP) := [(7, .arr 98 y97 false)]
noncomputable def t16_0 (v : (StT ss16_0 gs16_0)) {R : Type} (κ : Nat × (StT ss16_0 gs16_0) → Option R) : Option R := cond (decide (v.2.2.1 < ((v.1).length : Int))) (if 0 ≤ v.2.2.1 then (optC ((v.1)[(v.2.2.1).toNat]?) (fun x1 => cond (d49 x1) (if 0 ≤ v.2.2.1 then (if v.2.2.1 < ((v.2.2.2.1).length : Int) then (optC ((v.2.2.2.1)[(v.2.2.1).toNat]?) (fun x2 => κ (0, (v.1, v.2.1, IntKind.wrap .i64 (v.2.2.1 + (1 : Int)), v.2.2.2.1.set ((v.2.2.1).toNat) ((v49 x1).1, ((v49 x1).2.1, ((v49 x1).2.2.1, ((v49 x1).2.2.2.1, (((v49 x1).2.2.2.2.1, ((v49 x1).2.2.2.2.2.1, ((v49 x1).2.2.2.2.2.2.1, ((v49 x1).2.2.2.2.2.2.2.1, ((v49 x1).2.2.2.2.2.2.2.2.1, ((v49 x1).2.2.2.2.2.2.2.2.2.1, (v49 x1).2.2.2.2.2.2.2.2.2.2.1)))))), ((v49 x1).2.2.2.2.2.2.2.2.2.2.2.2.2, ((v49 x1).2.2.2.2.2.2.2.2.2.2.2.1, (v49 x1).2.2.2.2.2.2.2.2.2.2.2.2.1))))))), ())))) else none) else none) (none))) else none) (κ (1, (v.1, v.2.1, v.2.2.1, v.2.2.2.1, ())))
noncomputable def s16_0 (v : (StT ss16_0 gs16_0)) : Option (Nat × (StT ss16_0 gs16_0)) := t16_0 v some
noncomputable def n16_0 (v : (StT ss16_0 gs16_0)) : Nat := v.1.length + v.2.1.length + v.2.2.1.toNat + v.2.2.2.1.length + 100
noncomputable def k16_0 (x0 : List (Ty.T y93)) (x1 : List (Ty.T y97)) (x2 : Int) (x3 : List (Ty.T y97)) (c : Nat) : Bool := iterAt s16_0 (n16_0 (x0, x1, x2, x3, ())) (x0, x1, x2, x3, ()) c
noncomputable def w16_0 (x0 : List (Ty.T y93)) (x1 : List (Ty.T y97)) (x2 : Int) (x3 : List (Ty.T y97)) : (StT ss16_0 gs16_0) := iterV s16_0 (n16_0 (x0, x1, x2, x3, ())) (x0, x1, x2, x3, ())
noncomputable def F16_0 (v : (StT ss16_0 gs16_0)) : Ways (Ex × St) := waysOf s16_0 (n16_0 v) v (bldSt ss16_0 gs16_0) [.exit 0] 0
theorem wf16_0 : wfSt ss16_0 gs16_0 := wf_of (by kernel_rfl)
theorem l16_0 : LoopOk Try.prog (loopAt [true, true, false, true] (bodyOf Try.f16)) ss16_0 gs16_0 F16_0 := loopOk_iter (lt := .none) (m := [true, false, true, true, true, false, false, false, false, false, false, false, false, false, false, false, false, false, false, false, false, false, false]) (keep := [7]) hE16 orders (LtOk.no _) fun n v K => Eq.trans (b := t16_0 v (kont _ _ _ _ _ _ K)) (by kernel_rfl) (show t16_0 v _ = (t16_0 v some).bind _ from (bnd_cond (bnd_ite (bnd_opt fun x1 => (bnd_cond (bnd_ite (bnd_ite (bnd_opt fun x2 => rfl))) rfl))) rfl))
noncomputable def E16l : Env := { ti := ti, fn := fns, prim := [(49, p49)], lt := [(16, (ltPut [true, true, false, true] (bodyOf Try.f16) .none (.sum ss16_0 gs16_0 F16_0)))] }
theorem hE16l : Env.Ok Try.prog E16l := Env.Ok.of tiOk fnOk (mem_cons ok49 <| mem_nil) (mem_cons (ltOk_of Try.func16 (LtOk.put wf16_0 (LtOk.no _) l16_0)) mem_nil)
noncomputable def f16 (r : (List (Ty.T y97))) : AV × Sig := (.one (.sl 4096), [(4096, .arr 98 y97 r false)])
noncomputable def u16 (a0 : List (Ty.T y93)) : Option (AV × Sig) := if ((a0).length : Int) = ((a0).length : Int) then (if ((a0).length : Int).toNat * 128 ≤ 140737488351232 then (cond (k16_0 a0 [] 0 (List.replicate ((a0).length : Int).toNat ((0, (0, (0, (0, ((0, (0, (0, (0, (0, (0, false)))))), ([], (0, 0))))))) : Ty.T y97)) 0) (some (.one (.sl 4096), [(4096, .arr 98 y97 ((w16_0 a0 [] 0 (List.replicate ((a0).length : Int).toNat ((0, (0, (0, (0, ((0, (0, (0, (0, (0, (0, false)))))), ([], (0, 0))))))) : Ty.T y97))).2.2.2.1) false)])) (none)) else none) else none
noncomputable def v16 (a0 : List (Ty.T y93)) : (List (Ty.T y97)) := cond (k16_0 a0 [] 0 (List.replicate ((a0).length : Int).toNat ((0, (0, (0, (0, ((0, (0, (0, (0, (0, (0, false)))))), ([], (0, 0))))))) : Ty.T y97)) 0) ((w16_0 a0 [] 0 (List.replicate ((a0).length : Int).toNat ((0, (0, (0, (0, ((0, (0, (0, (0, (0, (0, false)))))), ([], (0, 0))))))) : Ty.T y97))).2.2.2.1) ([])
noncomputable def d16 (a0 : List (Ty.T y93)) : Bool := decide (((a0).length : Int) = ((a0).length : Int)) && (decide (((a0).length : Int).toNat * 128 ≤ 140737488351232) && (cond (k16_0 a0 [] 0 (List.replicate ((a0).length : Int).toNat ((0, (0, (0, (0, ((0, (0, (0, (0, (0, (0, false)))))), ([], (0, 0))))))) : Ty.T y97)) 0) (true) (false)))
theorem o16 (a0 : List (Ty.T y93)) : u16 a0 = cond (d16 a0) (some (f16 (v16 a0))) none := (par_ite (par_ite (par_cond (par_some _) (par_none _))))
noncomputable def p16 : Prim := ⟨[.one (.dat (.sl 94 y93) true)], fun v => .br (d16 v.1) (.done (f16 (v16 v.1))) .no⟩
theorem ok16 : PrimOk Try.prog 16 p16 := primOk_eq hE16l orders fun v => Eq.trans (b := u16 v.1) (by kernel_rfl) (o16 v.1)
/-! ### laws.toPat -/
noncomputable def E81 : Env := { ti := ti, fn := fns, prim := [] }
theorem hE81 : Env.Ok Try.prog E81 := Env.Ok.of tiOk fnOk (mem_nil) mem_nil
noncomputable def f81 (r : (Ty.T y46)) : AV × Sig := (.agg (y46.cells false r), [])
noncomputable def u81 (a0 : Ty.T y46) : Option (AV × Sig) := some (.agg [.int .i64 a0.1, .int .i64 a0.2.1, .int .i64 a0.2.2.1, .int .i64 a0.2.2.2.1, .int .i64 a0.2.2.2.2.1, .int .i64 a0.2.2.2.2.2.1, .int .i64 a0.2.2.2.2.2.2], [])
noncomputable def v81 (a0 : Ty.T y46) : (Ty.T y46) := a0
theorem o81 (a0 : Ty.T y46) : u81 a0 = some (f81 (v81 a0)) := rfl
noncomputable def p81 : Prim := ⟨[.agg [.dat y46 true]], fun v => .done (f81 (v81 v.1))⟩
theorem ok81 : PrimOk Try.prog 81 p81 := primOk_eq hE81 orders fun v => Eq.trans (b := u81 v.1) (by kernel_rfl) (o81 v.1)
/-! ### laws.toGuard -/
noncomputable def E82 : Env := { ti := ti, fn := fns, prim := [] }
theorem hE82 : Env.Ok Try.prog E82 := Env.Ok.of tiOk fnOk (mem_nil) mem_nil
noncomputable def f82 (r : (Ty.T y48)) : AV × Sig := (.agg (y48.cells false r), [])
noncomputable def u82 (a0 : Ty.T y48) : Option (AV × Sig) := some (.agg [.int .i64 a0.1, .int .i64 a0.2], [])
noncomputable def v82 (a0 : Ty.T y48) : (Ty.T y48) := a0
theorem o82 (a0 : Ty.T y48) : u82 a0 = some (f82 (v82 a0)) := rfl
noncomputable def p82 : Prim := ⟨[.agg [.dat y48 true]], fun v => .done (f82 (v82 v.1))⟩
theorem ok82 : PrimOk Try.prog 82 p82 := primOk_eq hE82 orders fun v => Eq.trans (b := u82 v.1) (by kernel_rfl) (o82 v.1)
/-! ### laws.toAct -/
noncomputable def E83 : Env := { ti := ti, fn := fns, prim := [(68, p68)] }
theorem hE83 : Env.Ok Try.prog E83 := Env.Ok.of tiOk fnOk (mem_cons ok68 <| mem_nil) mem_nil
noncomputable def f83 (r : Int × Int × Int × Int × Int × Bool × (List (Ty.T y33))) : AV × Sig := (.agg [.int .i64 r.1, .int .i64 r.2.1, .int .i64 r.2.2.1, .int .i64 r.2.2.2.1, .int .i64 r.2.2.2.2.1, .bool r.2.2.2.2.2.1, .sl 28672], [(28672, .arr 40 y33 r.2.2.2.2.2.2 false)])
noncomputable def u83 (a0 : Ty.T y51) : Option (AV × Sig) := cond (d68 a0.2.2.2.2.2.2) (some (.agg [.int .i64 a0.1, .int .i64 a0.2.1, .int .i64 a0.2.2.1, .int .i64 a0.2.2.2.1, .int .i64 a0.2.2.2.2.1, .bool a0.2.2.2.2.2.1, .sl 28672], [(28672, .arr 40 y33 (v68 a0.2.2.2.2.2.2) false)])) (none)
noncomputable def v83 (a0 : Ty.T y51) : Int × Int × Int × Int × Int × Bool × (List (Ty.T y33)) := cond (d68 a0.2.2.2.2.2.2) ((a0.1, a0.2.1, a0.2.2.1, a0.2.2.2.1, a0.2.2.2.2.1, a0.2.2.2.2.2.1, (v68 a0.2.2.2.2.2.2))) ((0, 0, 0, 0, 0, false, []))
noncomputable def d83 (a0 : Ty.T y51) : Bool := cond (d68 a0.2.2.2.2.2.2) (true) (false)
theorem o83 (a0 : Ty.T y51) : u83 a0 = cond (d83 a0) (some (f83 (v83 a0))) none := (par_cond (par_some _) (par_none _))
noncomputable def p83 : Prim := ⟨[.agg [.dat y51 true]], fun v => .br (d83 v.1) (.done (f83 (v83 v.1))) .no⟩
theorem ok83 : PrimOk Try.prog 83 p83 := primOk_eq hE83 orders fun v => Eq.trans (b := u83 v.1) (by kernel_rfl) (o83 v.1)
/-! ### laws.toEffect -/
noncomputable def E28 : Env := { ti := ti, fn := fns, prim := [(81, p81), (82, p82), (83, p83)] }
theorem hE28 : Env.Ok Try.prog E28 := Env.Ok.of tiOk fnOk (mem_cons ok81 <| mem_cons ok82 <| mem_cons ok83 <| mem_nil) mem_nil
noncomputable def f28 (r : Int × Int × Int × Int × Int × Int × Int × Int × Int × Int × Int × Int × Int × Int × Int × Int × Int × Int × Bool × Int × Int × (List (Ty.T y33))) : AV × Sig := (.agg [.int .i64 r.1, .int .i64 r.2.1, .int .i64 r.2.2.1, .int .i64 r.2.2.2.1, .int .i64 r.2.2.2.2.1, .int .i64 r.2.2.2.2.2.1, .int .i64 r.2.2.2.2.2.2.1, .int .i64 r.2.2.2.2.2.2.2.1, .int .i64 r.2.2.2.2.2.2.2.2.1, .int .i64 r.2.2.2.2.2.2.2.2.2.1, .int .i64 r.2.2.2.2.2.2.2.2.2.2.1, .int .i64 r.2.2.2.2.2.2.2.2.2.2.2.1, .int .i64 r.2.2.2.2.2.2.2.2.2.2.2.2.1, .int .i64 r.2.2.2.2.2.2.2.2.2.2.2.2.2.1, .int .i64 r.2.2.2.2.2.2.2.2.2.2.2.2.2.2.1, .int .i64 r.2.2.2.2.2.2.2.2.2.2.2.2.2.2.2.1, .int .i64 r.2.2.2.2.2.2.2.2.2.2.2.2.2.2.2.2.1, .int .i64 r.2.2.2.2.2.2.2.2.2.2.2.2.2.2.2.2.2.1, .bool r.2.2.2.2.2.2.2.2.2.2.2.2.2.2.2.2.2.2.1, .sl 81920, .int .i64 r.2.2.2.2.2.2.2.2.2.2.2.2.2.2.2.2.2.2.2.1, .int .i64 r.2.2.2.2.2.2.2.2.2.2.2.2.2.2.2.2.2.2.2.2.1], [(81920, .arr 40 y33 r.2.2.2.2.2.2.2.2.2.2.2.2.2.2.2.2.2.2.2.2.2 false)])
noncomputable def u28 (a0 : Ty.T y53) : Option (AV × Sig) := cond (d83 a0.2.2.2.2.2.2.1) (some (.agg [.int .i64 a0.1, .int .i64 a0.2.1, .int .i64 a0.2.2.1, .int .i64 a0.2.2.2.1, .int .i64 ((v81 a0.2.2.2.2.1).1), .int .i64 (((v81 a0.2.2.2.2.1).2).1), .int .i64 ((((v81 a0.2.2.2.2.1).2).2).1), .int .i64 (((((v81 a0.2.2.2.2.1).2).2).2).1), .int .i64 ((((((v81 a0.2.2.2.2.1).2).2).2).2).1), .int .i64 (((((((v81 a0.2.2.2.2.1).2).2).2).2).2).1), .int .i64 (((((((v81 a0.2.2.2.2.1).2).2).2).2).2).2), .int .i64 ((v82 a0.2.2.2.2.2.1).1), .int .i64 ((v82 a0.2.2.2.2.2.1).2), .int .i64 ((v83 a0.2.2.2.2.2.2.1).1), .int .i64 ((v83 a0.2.2.2.2.2.2.1).2.1), .int .i64 ((v83 a0.2.2.2.2.2.2.1).2.2.1), .int .i64 ((v83 a0.2.2.2.2.2.2.1).2.2.2.1), .int .i64 ((v83 a0.2.2.2.2.2.2.1).2.2.2.2.1), .bool ((v83 a0.2.2.2.2.2.2.1).2.2.2.2.2.1), .sl 81920, .int .i64 a0.2.2.2.2.2.2.2.1, .int .i64 a0.2.2.2.2.2.2.2.2], [(81920, .arr 40 y33 ((v83 a0.2.2.2.2.2.2.1).2.2.2.2.2.2) false)])) (none)
noncomputable def v28 (a0 : Ty.T y53) : Int × Int × Int × Int × Int × Int × Int × Int × Int × Int × Int × Int × Int × Int × Int × Int × Int × Int × Bool × Int × Int × (List (Ty.T y33)) := cond (d83 a0.2.2.2.2.2.2.1) ((a0.1, a0.2.1, a0.2.2.1, a0.2.2.2.1, (v81 a0.2.2.2.2.1).1, ((v81 a0.2.2.2.2.1).2).1, (((v81 a0.2.2.2.2.1).2).2).1, ((((v81 a0.2.2.2.2.1).2).2).2).1, (((((v81 a0.2.2.2.2.1).2).2).2).2).1, ((((((v81 a0.2.2.2.2.1).2).2).2).2).2).1, ((((((v81 a0.2.2.2.2.1).2).2).2).2).2).2, (v82 a0.2.2.2.2.2.1).1, (v82 a0.2.2.2.2.2.1).2, (v83 a0.2.2.2.2.2.2.1).1, (v83 a0.2.2.2.2.2.2.1).2.1, (v83 a0.2.2.2.2.2.2.1).2.2.1, (v83 a0.2.2.2.2.2.2.1).2.2.2.1, (v83 a0.2.2.2.2.2.2.1).2.2.2.2.1, (v83 a0.2.2.2.2.2.2.1).2.2.2.2.2.1, a0.2.2.2.2.2.2.2.1, a0.2.2.2.2.2.2.2.2, (v83 a0.2.2.2.2.2.2.1).2.2.2.2.2.2)) ((0, 0, 0, 0, 0, 0, 0, 0, 0, 0, 0, 0, 0, 0, 0, 0, 0, 0, false, 0, 0, []))
noncomputable def d28 (a0 : Ty.T y53) : Bool := cond (d83 a0.2.2.2.2.2.2.1) (true) (false)
theorem o28 (a0 : Ty.T y53) : u28 a0 = cond (d28 a0) (some (f28 (v28 a0))) none := (par_cond (par_some _) (par_none _))
noncomputable def p28 : Prim := ⟨[.agg [.dat y53 true]], fun v => .br (d28 v.1) (.done (f28 (v28 v.1))) .no⟩
theorem ok28 : PrimOk Try.prog 28 p28 := primOk_eq hE28 orders fun v => Eq.trans (b := u28 v.1) (by kernel_rfl) (o28 v.1)
/-! ### laws.toEffectS -/
noncomputable def E34 : Env := { ti := ti, fn := fns, prim := [(28, p28)] }
theorem hE34 : Env.Ok Try.prog E34 := Env.Ok.of tiOk fnOk (mem_cons ok28 <| mem_nil) mem_nil
@[reducible] noncomputable def ss34_0 : List SP := [.one (.dat (.sl 54 y53) true), .und, .one (.dat (.sl 63 y62) false), .one (.own 7), .one (.dat (.int .i64) true), .und, .und, .und, .und, .und, .und, .und, .und, .und, .und, .und, .und, .und, .und, .und, .und, .und, .und]
@[reducible] noncomputable def gs34_0 : List (Nat × GP) := [(7, .arr 63 y62 false)]
noncomputable def t34_0 (v : (StT ss34_0 gs34_0)) {R : Type} (κ : Nat × (StT ss34_0 gs34_0) → Option R) : Option R := cond (decide (v.2.2.1 < ((v.1).length : Int))) (if 0 ≤ v.2.2.1 then (optC ((v.1)[(v.2.2.1).toNat]?) (fun x1 => cond (d28 x1) (if 0 ≤ v.2.2.1 then (if v.2.2.1 < ((v.2.2.2.1).length : Int) then (optC ((v.2.2.2.1)[(v.2.2.1).toNat]?) (fun x2 => κ (0, (v.1, v.2.1, IntKind.wrap .i64 (v.2.2.1 + (1 : Int)), v.2.2.2.1.set ((v.2.2.1).toNat) ((v28 x1).1, ((v28 x1).2.1, ((v28 x1).2.2.1, ((v28 x1).2.2.2.1, (((v28 x1).2.2.2.2.1, ((v28 x1).2.2.2.2.2.1, ((v28 x1).2.2.2.2.2.2.1, ((v28 x1).2.2.2.2.2.2.2.1, ((v28 x1).2.2.2.2.2.2.2.2.1, ((v28 x1).2.2.2.2.2.2.2.2.2.1, (v28 x1).2.2.2.2.2.2.2.2.2.2.1)))))), (((v28 x1).2.2.2.2.2.2.2.2.2.2.2.1, (v28 x1).2.2.2.2.2.2.2.2.2.2.2.2.1), (((v28 x1).2.2.2.2.2.2.2.2.2.2.2.2.2.1, ((v28 x1).2.2.2.2.2.2.2.2.2.2.2.2.2.2.1, ((v28 x1).2.2.2.2.2.2.2.2.2.2.2.2.2.2.2.1, ((v28 x1).2.2.2.2.2.2.2.2.2.2.2.2.2.2.2.2.1, ((v28 x1).2.2.2.2.2.2.2.2.2.2.2.2.2.2.2.2.2.1, ((v28 x1).2.2.2.2.2.2.2.2.2.2.2.2.2.2.2.2.2.2.1, (v28 x1).2.2.2.2.2.2.2.2.2.2.2.2.2.2.2.2.2.2.2.2.2)))))), ((v28 x1).2.2.2.2.2.2.2.2.2.2.2.2.2.2.2.2.2.2.2.1, (v28 x1).2.2.2.2.2.2.2.2.2.2.2.2.2.2.2.2.2.2.2.2.1)))))))), ())))) else none) else none) (none))) else none) (κ (1, (v.1, v.2.1, v.2.2.1, v.2.2.2.1, ())))
noncomputable def s34_0 (v : (StT ss34_0 gs34_0)) : Option (Nat × (StT ss34_0 gs34_0)) := t34_0 v some
noncomputable def n34_0 (v : (StT ss34_0 gs34_0)) : Nat := v.1.length + v.2.1.length + v.2.2.1.toNat + v.2.2.2.1.length + 100
noncomputable def k34_0 (x0 : List (Ty.T y53)) (x1 : List (Ty.T y62)) (x2 : Int) (x3 : List (Ty.T y62)) (c : Nat) : Bool := iterAt s34_0 (n34_0 (x0, x1, x2, x3, ())) (x0, x1, x2, x3, ()) c
noncomputable def w34_0 (x0 : List (Ty.T y53)) (x1 : List (Ty.T y62)) (x2 : Int) (x3 : List (Ty.T y62)) : (StT ss34_0 gs34_0) := iterV s34_0 (n34_0 (x0, x1, x2, x3, ())) (x0, x1, x2, x3, ())
noncomputable def F34_0 (v : (StT ss34_0 gs34_0)) : Ways (Ex × St) := waysOf s34_0 (n34_0 v) v (bldSt ss34_0 gs34_0) [.exit 0] 0
theorem wf34_0 : wfSt ss34_0 gs34_0 := wf_of (by kernel_rfl)
theorem l34_0 : LoopOk Try.prog (loopAt [true, true, false, true] (bodyOf Try.f34)) ss34_0 gs34_0 F34_0 := loopOk_iter (lt := .none) (m := [true, false, true, true, true, false, false, false, false, false, false, false, false, false, false, false, false, false, false, false, false, false, false]) (keep := [7]) hE34 orders (LtOk.no _) fun n v K => Eq.trans (b := t34_0 v (kont _ _ _ _ _ _ K)) (by kernel_rfl) (show t34_0 v _ = (t34_0 v some).bind _ from (bnd_cond (bnd_ite (bnd_opt fun x1 => (bnd_cond (bnd_ite (bnd_ite (bnd_opt fun x2 => rfl))) rfl))) rfl))
noncomputable def E34l : Env := { ti := ti, fn := fns, prim := [(28, p28)], lt := [(34, (ltPut [true, true, false, true] (bodyOf Try.f34) .none (.sum ss34_0 gs34_0 F34_0)))] }
theorem hE34l : Env.Ok Try.prog E34l := Env.Ok.of tiOk fnOk (mem_cons ok28 <| mem_nil) (mem_cons (ltOk_of Try.func34 (LtOk.put wf34_0 (LtOk.no _) l34_0)) mem_nil)
noncomputable def f34 (r : (List (Ty.T y62))) : AV × Sig := (.one (.sl 4096), [(4096, .arr 63 y62 r false)])
noncomputable def u34 (a0 : List (Ty.T y53)) : Option (AV × Sig) := if ((a0).length : Int) = ((a0).length : Int) then (if ((a0).length : Int).toNat * 192 ≤ 140737488351232 then (cond (k34_0 a0 [] 0 (List.replicate ((a0).length : Int).toNat ((0, (0, (0, (0, ((0, (0, (0, (0, (0, (0, 0)))))), ((0, 0), ((0, (0, (0, (0, (0, (false, [])))))), (0, 0)))))))) : Ty.T y62)) 0) (some (.one (.sl 4096), [(4096, .arr 63 y62 ((w34_0 a0 [] 0 (List.replicate ((a0).length : Int).toNat ((0, (0, (0, (0, ((0, (0, (0, (0, (0, (0, 0)))))), ((0, 0), ((0, (0, (0, (0, (0, (false, [])))))), (0, 0)))))))) : Ty.T y62))).2.2.2.1) false)])) (none)) else none) else none
noncomputable def v34 (a0 : List (Ty.T y53)) : (List (Ty.T y62)) := cond (k34_0 a0 [] 0 (List.replicate ((a0).length : Int).toNat ((0, (0, (0, (0, ((0, (0, (0, (0, (0, (0, 0)))))), ((0, 0), ((0, (0, (0, (0, (0, (false, [])))))), (0, 0)))))))) : Ty.T y62)) 0) ((w34_0 a0 [] 0 (List.replicate ((a0).length : Int).toNat ((0, (0, (0, (0, ((0, (0, (0, (0, (0, (0, 0)))))), ((0, 0), ((0, (0, (0, (0, (0, (false, [])))))), (0, 0)))))))) : Ty.T y62))).2.2.2.1) ([])
noncomputable def d34 (a0 : List (Ty.T y53)) : Bool := decide (((a0).length : Int) = ((a0).length : Int)) && (decide (((a0).length : Int).toNat * 192 ≤ 140737488351232) && (cond (k34_0 a0 [] 0 (List.replicate ((a0).length : Int).toNat ((0, (0, (0, (0, ((0, (0, (0, (0, (0, (0, 0)))))), ((0, 0), ((0, (0, (0, (0, (0, (false, [])))))), (0, 0)))))))) : Ty.T y62)) 0) (true) (false)))
theorem o34 (a0 : List (Ty.T y53)) : u34 a0 = cond (d34 a0) (some (f34 (v34 a0))) none := (par_ite (par_ite (par_cond (par_some _) (par_none _))))
noncomputable def p34 : Prim := ⟨[.one (.dat (.sl 54 y53) true)], fun v => .br (d34 v.1) (.done (f34 (v34 v.1))) .no⟩
theorem ok34 : PrimOk Try.prog 34 p34 := primOk_eq hE34l orders fun v => Eq.trans (b := u34 v.1) (by kernel_rfl) (o34 v.1)
/-! ### laws.toIntS -/
noncomputable def E60 : Env := { ti := ti, fn := fns, prim := [] }
theorem hE60 : Env.Ok Try.prog E60 := Env.Ok.of tiOk fnOk (mem_nil) mem_nil
@[reducible] noncomputable def ss60_0 : List SP := [.one (.dat (.sl 3 (.int .i64)) true), .und, .one (.dat (.sl 3 (.int .i64)) false), .one (.own 7), .one (.dat (.int .i64) true), .und, .und, .und, .und, .und, .und, .und, .und, .und, .und, .und, .und, .und, .und, .und, .und, .und]
@[reducible] noncomputable def gs60_0 : List (Nat × GP) := [(7, .arr 3 (.int .i64) false)]
noncomputable def t60_0 (v : (StT ss60_0 gs60_0)) {R : Type} (κ : Nat × (StT ss60_0 gs60_0) → Option R) : Option R := cond (decide (v.2.2.1 < ((v.1).length : Int))) (if 0 ≤ v.2.2.1 then (optC ((v.1)[(v.2.2.1).toNat]?) (fun x1 => if 0 ≤ v.2.2.1 then (if v.2.2.1 < ((v.2.2.2.1).length : Int) then (optC ((v.2.2.2.1)[(v.2.2.1).toNat]?) (fun x2 => κ (0, (v.1, v.2.1, IntKind.wrap .i64 (v.2.2.1 + (1 : Int)), v.2.2.2.1.set ((v.2.2.1).toNat) x1, ())))) else none) else none)) else none) (κ (1, (v.1, v.2.1, v.2.2.1, v.2.2.2.1, ())))
noncomputable def s60_0 (v : (StT ss60_0 gs60_0)) : Option (Nat × (StT ss60_0 gs60_0)) := t60_0 v some
noncomputable def n60_0 (v : (StT ss60_0 gs60_0)) : Nat := v.1.length + v.2.1.length + v.2.2.1.toNat + v.2.2.2.1.length + 100
noncomputable def k60_0 (x0 : List (Ty.T (.int .i64))) (x1 : List (Ty.T (.int .i64))) (x2 : Int) (x3 : List (Ty.T (.int .i64))) (c : Nat) : Bool := iterAt s60_0 (n60_0 (x0, x1, x2, x3, ())) (x0, x1, x2, x3, ()) c
noncomputable def w60_0 (x0 : List (Ty.T (.int .i64))) (x1 : List (Ty.T (.int .i64))) (x2 : Int) (x3 : List (Ty.T (.int .i64))) : (StT ss60_0 gs60_0) := iterV s60_0 (n60_0 (x0, x1, x2, x3, ())) (x0, x1, x2, x3, ())
noncomputable def F60_0 (v : (StT ss60_0 gs60_0)) : Ways (Ex × St) := waysOf s60_0 (n60_0 v) v (bldSt ss60_0 gs60_0) [.exit 0] 0
theorem wf60_0 : wfSt ss60_0 gs60_0 := wf_of (by kernel_rfl)
theorem l60_0 : LoopOk Try.prog (loopAt [true, true, false, true] (bodyOf Try.f60)) ss60_0 gs60_0 F60_0 := loopOk_iter (lt := .none) (m := [true, false, true, true, true, false, false, false, false, false, false, false, false, false, false, false, false, false, false, false, false, false]) (keep := [7]) hE60 orders (LtOk.no _) fun n v K => Eq.trans (b := t60_0 v (kont _ _ _ _ _ _ K)) (by kernel_rfl) (show t60_0 v _ = (t60_0 v some).bind _ from (bnd_cond (bnd_ite (bnd_opt fun x1 => (bnd_ite (bnd_ite (bnd_opt fun x2 => rfl))))) rfl))
noncomputable def E60l : Env := { ti := ti, fn := fns, prim := [], lt := [(60, (ltPut [true, true, false, true] (bodyOf Try.f60) .none (.sum ss60_0 gs60_0 F60_0)))] }
theorem hE60l : Env.Ok Try.prog E60l := Env.Ok.of tiOk fnOk (mem_nil) (mem_cons (ltOk_of Try.func60 (LtOk.put wf60_0 (LtOk.no _) l60_0)) mem_nil)
noncomputable def f60 (r : (List (Ty.T (.int .i64)))) : AV × Sig := (.one (.sl 4096), [(4096, .arr 3 (.int .i64) r false)])
noncomputable def u60 (a0 : List (Ty.T (.int .i64))) : Option (AV × Sig) := if ((a0).length : Int) = ((a0).length : Int) then (if ((a0).length : Int).toNat * 8 ≤ 140737488351232 then (cond (k60_0 a0 [] 0 (List.replicate ((a0).length : Int).toNat (0 : Ty.T (.int .i64))) 0) (some (.one (.sl 4096), [(4096, .arr 3 (.int .i64) ((w60_0 a0 [] 0 (List.replicate ((a0).length : Int).toNat (0 : Ty.T (.int .i64)))).2.2.2.1) false)])) (none)) else none) else none
noncomputable def v60 (a0 : List (Ty.T (.int .i64))) : (List (Ty.T (.int .i64))) := cond (k60_0 a0 [] 0 (List.replicate ((a0).length : Int).toNat (0 : Ty.T (.int .i64))) 0) ((w60_0 a0 [] 0 (List.replicate ((a0).length : Int).toNat (0 : Ty.T (.int .i64)))).2.2.2.1) ([])
noncomputable def d60 (a0 : List (Ty.T (.int .i64))) : Bool := decide (((a0).length : Int) = ((a0).length : Int)) && (decide (((a0).length : Int).toNat * 8 ≤ 140737488351232) && (cond (k60_0 a0 [] 0 (List.replicate ((a0).length : Int).toNat (0 : Ty.T (.int .i64))) 0) (true) (false)))
theorem o60 (a0 : List (Ty.T (.int .i64))) : u60 a0 = cond (d60 a0) (some (f60 (v60 a0))) none := (par_ite (par_ite (par_cond (par_some _) (par_none _))))
noncomputable def p60 : Prim := ⟨[.one (.dat (.sl 3 (.int .i64)) true)], fun v => .br (d60 v.1) (.done (f60 (v60 v.1))) .no⟩
theorem ok60 : PrimOk Try.prog 60 p60 := primOk_eq hE60l orders fun v => Eq.trans (b := u60 v.1) (by kernel_rfl) (o60 v.1)
/-! ### laws.toFate -/
noncomputable def E61 : Env := { ti := ti, fn := fns, prim := [(16, p16), (34, p34), (60, p60), (68, p68)] }
theorem hE61 : Env.Ok Try.prog E61 := Env.Ok.of tiOk fnOk (mem_cons ok16 <| mem_cons ok34 <| mem_cons ok60 <| mem_cons ok68 <| mem_nil) mem_nil
noncomputable def f61 (r : (List (Ty.T y33)) × (List (Ty.T y62)) × (List (Ty.T (.int .i64))) × (List (Ty.T y97))) : AV × Sig := (.agg [.sl 4096, .sl 8192, .sl 12288, .sl 16384], [(4096, .arr 40 y33 r.1 false), (8192, .arr 63 y62 r.2.1 false), (12288, .arr 3 (.int .i64) r.2.2.1 false), (16384, .arr 98 y97 r.2.2.2 false)])
noncomputable def u61 (a0 : Ty.T y112) : Option (AV × Sig) := cond (d68 a0.1) (cond (d34 a0.2.1) (cond (d60 a0.2.2.1) (cond (d16 a0.2.2.2) (some (.agg [.sl 4096, .sl 8192, .sl 12288, .sl 16384], [(4096, .arr 40 y33 (v68 a0.1) false), (8192, .arr 63 y62 (v34 a0.2.1) false), (12288, .arr 3 (.int .i64) (v60 a0.2.2.1) false), (16384, .arr 98 y97 (v16 a0.2.2.2) false)])) (none)) (none)) (none)) (none)
noncomputable def v61 (a0 : Ty.T y112) : (List (Ty.T y33)) × (List (Ty.T y62)) × (List (Ty.T (.int .i64))) × (List (Ty.T y97)) := cond (d68 a0.1) (cond (d34 a0.2.1) (cond (d60 a0.2.2.1) (cond (d16 a0.2.2.2) (((v68 a0.1), (v34 a0.2.1), (v60 a0.2.2.1), (v16 a0.2.2.2))) (([], [], [], []))) (([], [], [], []))) (([], [], [], []))) (([], [], [], []))
noncomputable def d61 (a0 : Ty.T y112) : Bool := cond (d68 a0.1) (cond (d34 a0.2.1) (cond (d60 a0.2.2.1) (cond (d16 a0.2.2.2) (true) (false)) (false)) (false)) (false)
theorem o61 (a0 : Ty.T y112) : u61 a0 = cond (d61 a0) (some (f61 (v61 a0))) none := (par_cond (par_cond (par_cond (par_cond (par_some _) (par_none _)) (par_none _)) (par_none _)) (par_none _))
noncomputable def p61 : Prim := ⟨[.agg [.dat y112 true]], fun v => .br (d61 v.1) (.done (f61 (v61 v.1))) .no⟩
theorem ok61 : PrimOk Try.prog 61 p61 := primOk_eq hE61 orders fun v => Eq.trans (b := u61 v.1) (by kernel_rfl) (o61 v.1)
/-! ### laws.eqIntS -/
noncomputable def E18 : Env := { ti := ti, fn := fns, prim := [] }
theorem hE18 : Env.Ok Try.prog E18 := Env.Ok.of tiOk fnOk (mem_nil) mem_nil
@[reducible] noncomputable def ss18_0 : List SP := [.one (.dat (.sl 3 (.int .i64)) true), .one (.dat (.sl 3 (.int .i64)) true), .und, .und, .one (.dat .bool true), .one (.dat (.int .i64) true), .und, .und, .und, .und, .und, .und, .und, .und, .und, .und, .und, .und, .und, .und, .und, .und, .und, .und, .und, .und]
@[reducible] noncomputable def gs18_0 : List (Nat × GP) := []
noncomputable def t18_0 (v : (StT ss18_0 gs18_0)) {R : Type} (κ : Nat × (StT ss18_0 gs18_0) → Option R) : Option R := cond (decide (v.2.2.2.1 < ((v.1).length : Int))) (if 0 ≤ v.2.2.2.1 then (optC ((v.1)[(v.2.2.2.1).toNat]?) (fun x1 => if 0 ≤ v.2.2.2.1 then (optC ((v.2.1)[(v.2.2.2.1).toNat]?) (fun x2 => cond (x1 != x2) (κ (1, (v.1, v.2.1, false, v.2.2.2.1, ()))) (κ (0, (v.1, v.2.1, v.2.2.1, IntKind.wrap .i64 (v.2.2.2.1 + (1 : Int)), ()))))) else none)) else none) (κ (2, (v.1, v.2.1, v.2.2.1, v.2.2.2.1, ())))
noncomputable def s18_0 (v : (StT ss18_0 gs18_0)) : Option (Nat × (StT ss18_0 gs18_0)) := t18_0 v some
noncomputable def n18_0 (v : (StT ss18_0 gs18_0)) : Nat := v.1.length + v.2.1.length + v.2.2.2.1.toNat + 100
noncomputable def k18_0 (x0 : List (Ty.T (.int .i64))) (x1 : List (Ty.T (.int .i64))) (x2 : Bool) (x3 : Int) (c : Nat) : Bool := iterAt s18_0 (n18_0 (x0, x1, x2, x3, ())) (x0, x1, x2, x3, ()) c
noncomputable def w18_0 (x0 : List (Ty.T (.int .i64))) (x1 : List (Ty.T (.int .i64))) (x2 : Bool) (x3 : Int) : (StT ss18_0 gs18_0) := iterV s18_0 (n18_0 (x0, x1, x2, x3, ())) (x0, x1, x2, x3, ())
noncomputable def F18_0 (v : (StT ss18_0 gs18_0)) : Ways (Ex × St) := waysOf s18_0 (n18_0 v) v (bldSt ss18_0 gs18_0) [.ret, .exit 0] 0
theorem wf18_0 : wfSt ss18_0 gs18_0 := wf_of (by kernel_rfl)
theorem l18_0 : LoopOk Try.prog (loopAt [true, true, false, true] (bodyOf Try.f18)) ss18_0 gs18_0 F18_0 := loopOk_iter (lt := .none) (m := [true, true, false, false, true, true, false, false, false, false, false, false, false, false, false, false, false, false, false, false, false, false, false, false, false, false]) (keep := []) hE18 orders (LtOk.no _) fun n v K => Eq.trans (b := t18_0 v (kont _ _ _ _ _ _ K)) (by kernel_rfl) (show t18_0 v _ = (t18_0 v some).bind _ from (bnd_cond (bnd_ite (bnd_opt fun x1 => (bnd_ite (bnd_opt fun x2 => (bnd_cond rfl rfl))))) rfl))
noncomputable def E18l : Env := { ti := ti, fn := fns, prim := [], lt := [(18, (ltPut [true, true, false, true] (bodyOf Try.f18) .none (.sum ss18_0 gs18_0 F18_0)))] }
theorem hE18l : Env.Ok Try.prog E18l := Env.Ok.of tiOk fnOk (mem_nil) (mem_cons (ltOk_of Try.func18 (LtOk.put wf18_0 (LtOk.no _) l18_0)) mem_nil)
noncomputable def f18 (r : Bool) : AV × Sig := (.one (.bool r), [])
noncomputable def u18 (a0 : List (Ty.T (.int .i64))) (a1 : List (Ty.T (.int .i64))) : Option (AV × Sig) := cond (((a0).length : Int) != ((a1).length : Int)) (some (.one (.bool false), [])) (cond (k18_0 a0 a1 false 0 0) (some (.one (.bool ((w18_0 a0 a1 false 0).2.2.1)), [])) (cond (k18_0 a0 a1 false 0 1) (some (.one (.bool true), [])) (none)))
noncomputable def v18 (a0 : List (Ty.T (.int .i64))) (a1 : List (Ty.T (.int .i64))) : Bool := cond (((a0).length : Int) != ((a1).length : Int)) (false) (cond (k18_0 a0 a1 false 0 0) ((w18_0 a0 a1 false 0).2.2.1) (cond (k18_0 a0 a1 false 0 1) (true) (false)))
noncomputable def d18 (a0 : List (Ty.T (.int .i64))) (a1 : List (Ty.T (.int .i64))) : Bool := cond (((a0).length : Int) != ((a1).length : Int)) (true) (cond (k18_0 a0 a1 false 0 0) (true) (cond (k18_0 a0 a1 false 0 1) (true) (false)))
theorem o18 (a0 : List (Ty.T (.int .i64))) (a1 : List (Ty.T (.int .i64))) : u18 a0 a1 = cond (d18 a0 a1) (some (f18 (v18 a0 a1))) none := (par_cond (par_some _) (par_cond (par_some _) (par_cond (par_some _) (par_none _))))
noncomputable def p18 : Prim := ⟨[.one (.dat (.sl 3 (.int .i64)) true), .one (.dat (.sl 3 (.int .i64)) true)], fun v => .br (d18 v.1 v.2.1) (.done (f18 (v18 v.1 v.2.1))) .no⟩
theorem ok18 : PrimOk Try.prog 18 p18 := primOk_eq hE18l orders fun v => Eq.trans (b := u18 v.1 v.2.1) (by kernel_rfl) (o18 v.1 v.2.1)
/-! ### laws.eqEvent -/
noncomputable def E110 : Env := { ti := ti, fn := fns, prim := [] }
theorem hE110 : Env.Ok Try.prog E110 := Env.Ok.of tiOk fnOk (mem_nil) mem_nil
noncomputable def f110 (r : Bool) : AV × Sig := (.one (.bool r), [])
noncomputable def u110 (a0 : Ty.T y33) (a1 : Ty.T y33) : Option (AV × Sig) := cond (a0.1 != a1.1) (some (.one (.bool false), [])) (cond (a0.2.1 != a1.2.1) (some (.one (.bool false), [])) (cond (a0.2.2.1 != a1.2.2.1) (some (.one (.bool false), [])) (cond (a0.2.2.2.1 != a1.2.2.2.1) (some (.one (.bool false), [])) (cond (a0.2.2.2.2.1 != a1.2.2.2.2.1) (some (.one (.bool false), [])) (cond (a0.2.2.2.2.2.1 != a1.2.2.2.2.2.1) (some (.one (.bool false), [])) (cond (!(a0.2.2.2.2.2.2 == a1.2.2.2.2.2.2)) (some (.one (.bool false), [])) (some (.one (.bool true), []))))))))
noncomputable def v110 (a0 : Ty.T y33) (a1 : Ty.T y33) : Bool := cond (a0.1 != a1.1) (false) (cond (a0.2.1 != a1.2.1) (false) (cond (a0.2.2.1 != a1.2.2.1) (false) (cond (a0.2.2.2.1 != a1.2.2.2.1) (false) (cond (a0.2.2.2.2.1 != a1.2.2.2.2.1) (false) (cond (a0.2.2.2.2.2.1 != a1.2.2.2.2.2.1) (false) (cond (!(a0.2.2.2.2.2.2 == a1.2.2.2.2.2.2)) (false) (true)))))))
theorem o110 (a0 : Ty.T y33) (a1 : Ty.T y33) : u110 a0 a1 = some (f110 (v110 a0 a1)) := (tot_cond rfl (tot_cond rfl (tot_cond rfl (tot_cond rfl (tot_cond rfl (tot_cond rfl (tot_cond rfl rfl)))))))
noncomputable def p110 : Prim := ⟨[.agg [.dat y33 true], .agg [.dat y33 true]], fun v => .done (f110 (v110 v.1 v.2.1))⟩
theorem ok110 : PrimOk Try.prog 110 p110 := primOk_eq hE110 orders fun v => Eq.trans (b := u110 v.1 v.2.1) (by kernel_rfl) (o110 v.1 v.2.1)
/-! ### laws.eqEventS -/
noncomputable def E70 : Env := { ti := ti, fn := fns, prim := [(110, p110)] }
theorem hE70 : Env.Ok Try.prog E70 := Env.Ok.of tiOk fnOk (mem_cons ok110 <| mem_nil) mem_nil
@[reducible] noncomputable def ss70_0 : List SP := [.one (.dat (.sl 40 y33) true), .one (.dat (.sl 40 y33) true), .und, .und, .one (.dat .bool true), .one (.dat (.int .i64) true), .und, .und, .und, .und, .und, .und, .und, .und, .und, .und, .und, .und, .und, .und, .und, .und, .und, .und, .und, .und, .und]
@[reducible] noncomputable def gs70_0 : List (Nat × GP) := []
noncomputable def t70_0 (v : (StT ss70_0 gs70_0)) {R : Type} (κ : Nat × (StT ss70_0 gs70_0) → Option R) : Option R := cond (decide (v.2.2.2.1 < ((v.1).length : Int))) (if 0 ≤ v.2.2.2.1 then (optC ((v.1)[(v.2.2.2.1).toNat]?) (fun x1 => if 0 ≤ v.2.2.2.1 then (optC ((v.2.1)[(v.2.2.2.1).toNat]?) (fun x2 => cond (!(v110 x1 x2)) (κ (1, (v.1, v.2.1, false, v.2.2.2.1, ()))) (κ (0, (v.1, v.2.1, v.2.2.1, IntKind.wrap .i64 (v.2.2.2.1 + (1 : Int)), ()))))) else none)) else none) (κ (2, (v.1, v.2.1, v.2.2.1, v.2.2.2.1, ())))
noncomputable def s70_0 (v : (StT ss70_0 gs70_0)) : Option (Nat × (StT ss70_0 gs70_0)) := t70_0 v some
noncomputable def n70_0 (v : (StT ss70_0 gs70_0)) : Nat := v.1.length + v.2.1.length + v.2.2.2.1.toNat + 100
noncomputable def k70_0 (x0 : List (Ty.T y33)) (x1 : List (Ty.T y33)) (x2 : Bool) (x3 : Int) (c : Nat) : Bool := iterAt s70_0 (n70_0 (x0, x1, x2, x3, ())) (x0, x1, x2, x3, ()) c
noncomputable def w70_0 (x0 : List (Ty.T y33)) (x1 : List (Ty.T y33)) (x2 : Bool) (x3 : Int) : (StT ss70_0 gs70_0) := iterV s70_0 (n70_0 (x0, x1, x2, x3, ())) (x0, x1, x2, x3, ())
noncomputable def F70_0 (v : (StT ss70_0 gs70_0)) : Ways (Ex × St) := waysOf s70_0 (n70_0 v) v (bldSt ss70_0 gs70_0) [.ret, .exit 0] 0
theorem wf70_0 : wfSt ss70_0 gs70_0 := wf_of (by kernel_rfl)
theorem l70_0 : LoopOk Try.prog (loopAt [true, true, false, true] (bodyOf Try.f70)) ss70_0 gs70_0 F70_0 := loopOk_iter (lt := .none) (m := [true, true, false, false, true, true, false, false, false, false, false, false, false, false, false, false, false, false, false, false, false, false, false, false, false, false, false]) (keep := []) hE70 orders (LtOk.no _) fun n v K => Eq.trans (b := t70_0 v (kont _ _ _ _ _ _ K)) (by kernel_rfl) (show t70_0 v _ = (t70_0 v some).bind _ from (bnd_cond (bnd_ite (bnd_opt fun x1 => (bnd_ite (bnd_opt fun x2 => (bnd_cond rfl rfl))))) rfl))
noncomputable def E70l : Env := { ti := ti, fn := fns, prim := [(110, p110)], lt := [(70, (ltPut [true, true, false, true] (bodyOf Try.f70) .none (.sum ss70_0 gs70_0 F70_0)))] }
theorem hE70l : Env.Ok Try.prog E70l := Env.Ok.of tiOk fnOk (mem_cons ok110 <| mem_nil) (mem_cons (ltOk_of Try.func70 (LtOk.put wf70_0 (LtOk.no _) l70_0)) mem_nil)
noncomputable def f70 (r : Bool) : AV × Sig := (.one (.bool r), [])
noncomputable def u70 (a0 : List (Ty.T y33)) (a1 : List (Ty.T y33)) : Option (AV × Sig) := cond (((a0).length : Int) != ((a1).length : Int)) (some (.one (.bool false), [])) (cond (k70_0 a0 a1 false 0 0) (some (.one (.bool ((w70_0 a0 a1 false 0).2.2.1)), [])) (cond (k70_0 a0 a1 false 0 1) (some (.one (.bool true), [])) (none)))
noncomputable def v70 (a0 : List (Ty.T y33)) (a1 : List (Ty.T y33)) : Bool := cond (((a0).length : Int) != ((a1).length : Int)) (false) (cond (k70_0 a0 a1 false 0 0) ((w70_0 a0 a1 false 0).2.2.1) (cond (k70_0 a0 a1 false 0 1) (true) (false)))
noncomputable def d70 (a0 : List (Ty.T y33)) (a1 : List (Ty.T y33)) : Bool := cond (((a0).length : Int) != ((a1).length : Int)) (true) (cond (k70_0 a0 a1 false 0 0) (true) (cond (k70_0 a0 a1 false 0 1) (true) (false)))
theorem o70 (a0 : List (Ty.T y33)) (a1 : List (Ty.T y33)) : u70 a0 a1 = cond (d70 a0 a1) (some (f70 (v70 a0 a1))) none := (par_cond (par_some _) (par_cond (par_some _) (par_cond (par_some _) (par_none _))))
noncomputable def p70 : Prim := ⟨[.one (.dat (.sl 40 y33) true), .one (.dat (.sl 40 y33) true)], fun v => .br (d70 v.1 v.2.1) (.done (f70 (v70 v.1 v.2.1))) .no⟩
theorem ok70 : PrimOk Try.prog 70 p70 := primOk_eq hE70l orders fun v => Eq.trans (b := u70 v.1 v.2.1) (by kernel_rfl) (o70 v.1 v.2.1)
/-! ### laws.eqTurn -/
noncomputable def E51 : Env := { ti := ti, fn := fns, prim := [(70, p70), (110, p110)] }
theorem hE51 : Env.Ok Try.prog E51 := Env.Ok.of tiOk fnOk (mem_cons ok70 <| mem_cons ok110 <| mem_nil) mem_nil
noncomputable def f51 (r : Bool) : AV × Sig := (.one (.bool r), [])
noncomputable def u51 (a0 : Ty.T y97) (a1 : Ty.T y97) : Option (AV × Sig) := cond (a0.1 != a1.1) (some (.one (.bool false), [])) (cond (a0.2.1 != a1.2.1) (some (.one (.bool false), [])) (cond (a0.2.2.1 != a1.2.2.1) (some (.one (.bool false), [])) (cond (a0.2.2.2.1 != a1.2.2.2.1) (some (.one (.bool false), [])) (cond (!(v110 a0.2.2.2.2.1 a1.2.2.2.2.1)) (some (.one (.bool false), [])) (cond (d70 a0.2.2.2.2.2.1 a1.2.2.2.2.2.1) (cond (!(v70 a0.2.2.2.2.2.1 a1.2.2.2.2.2.1)) (some (.one (.bool false), [])) (cond (a0.2.2.2.2.2.2.1 != a1.2.2.2.2.2.2.1) (some (.one (.bool false), [])) (cond (a0.2.2.2.2.2.2.2 != a1.2.2.2.2.2.2.2) (some (.one (.bool false), [])) (some (.one (.bool true), []))))) (none))))))
noncomputable def v51 (a0 : Ty.T y97) (a1 : Ty.T y97) : Bool := cond (a0.1 != a1.1) (false) (cond (a0.2.1 != a1.2.1) (false) (cond (a0.2.2.1 != a1.2.2.1) (false) (cond (a0.2.2.2.1 != a1.2.2.2.1) (false) (cond (!(v110 a0.2.2.2.2.1 a1.2.2.2.2.1)) (false) (cond (d70 a0.2.2.2.2.2.1 a1.2.2.2.2.2.1) (cond (!(v70 a0.2.2.2.2.2.1 a1.2.2.2.2.2.1)) (false) (cond (a0.2.2.2.2.2.2.1 != a1.2.2.2.2.2.2.1) (false) (cond (a0.2.2.2.2.2.2.2 != a1.2.2.2.2.2.2.2) (false) (true)))) (false))))))
noncomputable def d51 (a0 : Ty.T y97) (a1 : Ty.T y97) : Bool := cond (a0.1 != a1.1) (true) (cond (a0.2.1 != a1.2.1) (true) (cond (a0.2.2.1 != a1.2.2.1) (true) (cond (a0.2.2.2.1 != a1.2.2.2.1) (true) (cond (!(v110 a0.2.2.2.2.1 a1.2.2.2.2.1)) (true) (cond (d70 a0.2.2.2.2.2.1 a1.2.2.2.2.2.1) (cond (!(v70 a0.2.2.2.2.2.1 a1.2.2.2.2.2.1)) (true) (cond (a0.2.2.2.2.2.2.1 != a1.2.2.2.2.2.2.1) (true) (cond (a0.2.2.2.2.2.2.2 != a1.2.2.2.2.2.2.2) (true) (true)))) (false))))))
theorem o51 (a0 : Ty.T y97) (a1 : Ty.T y97) : u51 a0 a1 = cond (d51 a0 a1) (some (f51 (v51 a0 a1))) none := (par_cond (par_some _) (par_cond (par_some _) (par_cond (par_some _) (par_cond (par_some _) (par_cond (par_some _) (par_cond (par_cond (par_some _) (par_cond (par_some _) (par_cond (par_some _) (par_some _)))) (par_none _)))))))
noncomputable def p51 : Prim := ⟨[.agg [.dat y97 true], .agg [.dat y97 true]], fun v => .br (d51 v.1 v.2.1) (.done (f51 (v51 v.1 v.2.1))) .no⟩
theorem ok51 : PrimOk Try.prog 51 p51 := primOk_eq hE51 orders fun v => Eq.trans (b := u51 v.1 v.2.1) (by kernel_rfl) (o51 v.1 v.2.1)
/-! ### laws.eqTurnS -/
noncomputable def E19 : Env := { ti := ti, fn := fns, prim := [(51, p51)] }
theorem hE19 : Env.Ok Try.prog E19 := Env.Ok.of tiOk fnOk (mem_cons ok51 <| mem_nil) mem_nil
@[reducible] noncomputable def ss19_0 : List SP := [.one (.dat (.sl 98 y97) true), .one (.dat (.sl 98 y97) true), .und, .und, .one (.dat .bool true), .one (.dat (.int .i64) true), .und, .und, .und, .und, .und, .und, .und, .und, .und, .und, .und, .und, .und, .und, .und, .und, .und, .und, .und, .und, .und]
@[reducible] noncomputable def gs19_0 : List (Nat × GP) := []
noncomputable def t19_0 (v : (StT ss19_0 gs19_0)) {R : Type} (κ : Nat × (StT ss19_0 gs19_0) → Option R) : Option R := cond (decide (v.2.2.2.1 < ((v.1).length : Int))) (if 0 ≤ v.2.2.2.1 then (optC ((v.1)[(v.2.2.2.1).toNat]?) (fun x1 => if 0 ≤ v.2.2.2.1 then (optC ((v.2.1)[(v.2.2.2.1).toNat]?) (fun x2 => cond (d51 x1 x2) (cond (!(v51 x1 x2)) (κ (1, (v.1, v.2.1, false, v.2.2.2.1, ()))) (κ (0, (v.1, v.2.1, v.2.2.1, IntKind.wrap .i64 (v.2.2.2.1 + (1 : Int)), ())))) (none))) else none)) else none) (κ (2, (v.1, v.2.1, v.2.2.1, v.2.2.2.1, ())))
noncomputable def s19_0 (v : (StT ss19_0 gs19_0)) : Option (Nat × (StT ss19_0 gs19_0)) := t19_0 v some
noncomputable def n19_0 (v : (StT ss19_0 gs19_0)) : Nat := v.1.length + v.2.1.length + v.2.2.2.1.toNat + 100
noncomputable def k19_0 (x0 : List (Ty.T y97)) (x1 : List (Ty.T y97)) (x2 : Bool) (x3 : Int) (c : Nat) : Bool := iterAt s19_0 (n19_0 (x0, x1, x2, x3, ())) (x0, x1, x2, x3, ()) c
noncomputable def w19_0 (x0 : List (Ty.T y97)) (x1 : List (Ty.T y97)) (x2 : Bool) (x3 : Int) : (StT ss19_0 gs19_0) := iterV s19_0 (n19_0 (x0, x1, x2, x3, ())) (x0, x1, x2, x3, ())
noncomputable def F19_0 (v : (StT ss19_0 gs19_0)) : Ways (Ex × St) := waysOf s19_0 (n19_0 v) v (bldSt ss19_0 gs19_0) [.ret, .exit 0] 0
theorem wf19_0 : wfSt ss19_0 gs19_0 := wf_of (by kernel_rfl)
theorem l19_0 : LoopOk Try.prog (loopAt [true, true, false, true] (bodyOf Try.f19)) ss19_0 gs19_0 F19_0 := loopOk_iter (lt := .none) (m := [true, true, false, false, true, true, false, false, false, false, false, false, false, false, false, false, false, false, false, false, false, false, false, false, false, false, false]) (keep := []) hE19 orders (LtOk.no _) fun n v K => Eq.trans (b := t19_0 v (kont _ _ _ _ _ _ K)) (by kernel_rfl) (show t19_0 v _ = (t19_0 v some).bind _ from (bnd_cond (bnd_ite (bnd_opt fun x1 => (bnd_ite (bnd_opt fun x2 => (bnd_cond (bnd_cond rfl rfl) rfl))))) rfl))
noncomputable def E19l : Env := { ti := ti, fn := fns, prim := [(51, p51)], lt := [(19, (ltPut [true, true, false, true] (bodyOf Try.f19) .none (.sum ss19_0 gs19_0 F19_0)))] }
theorem hE19l : Env.Ok Try.prog E19l := Env.Ok.of tiOk fnOk (mem_cons ok51 <| mem_nil) (mem_cons (ltOk_of Try.func19 (LtOk.put wf19_0 (LtOk.no _) l19_0)) mem_nil)
noncomputable def f19 (r : Bool) : AV × Sig := (.one (.bool r), [])
noncomputable def u19 (a0 : List (Ty.T y97)) (a1 : List (Ty.T y97)) : Option (AV × Sig) := cond (((a0).length : Int) != ((a1).length : Int)) (some (.one (.bool false), [])) (cond (k19_0 a0 a1 false 0 0) (some (.one (.bool ((w19_0 a0 a1 false 0).2.2.1)), [])) (cond (k19_0 a0 a1 false 0 1) (some (.one (.bool true), [])) (none)))
noncomputable def v19 (a0 : List (Ty.T y97)) (a1 : List (Ty.T y97)) : Bool := cond (((a0).length : Int) != ((a1).length : Int)) (false) (cond (k19_0 a0 a1 false 0 0) ((w19_0 a0 a1 false 0).2.2.1) (cond (k19_0 a0 a1 false 0 1) (true) (false)))
noncomputable def d19 (a0 : List (Ty.T y97)) (a1 : List (Ty.T y97)) : Bool := cond (((a0).length : Int) != ((a1).length : Int)) (true) (cond (k19_0 a0 a1 false 0 0) (true) (cond (k19_0 a0 a1 false 0 1) (true) (false)))
theorem o19 (a0 : List (Ty.T y97)) (a1 : List (Ty.T y97)) : u19 a0 a1 = cond (d19 a0 a1) (some (f19 (v19 a0 a1))) none := (par_cond (par_some _) (par_cond (par_some _) (par_cond (par_some _) (par_none _))))
noncomputable def p19 : Prim := ⟨[.one (.dat (.sl 98 y97) true), .one (.dat (.sl 98 y97) true)], fun v => .br (d19 v.1 v.2.1) (.done (f19 (v19 v.1 v.2.1))) .no⟩
theorem ok19 : PrimOk Try.prog 19 p19 := primOk_eq hE19l orders fun v => Eq.trans (b := u19 v.1 v.2.1) (by kernel_rfl) (o19 v.1 v.2.1)
/-! ### laws.eqPat -/
noncomputable def E86 : Env := { ti := ti, fn := fns, prim := [] }
theorem hE86 : Env.Ok Try.prog E86 := Env.Ok.of tiOk fnOk (mem_nil) mem_nil
noncomputable def f86 (r : Bool) : AV × Sig := (.one (.bool r), [])
noncomputable def u86 (a0 : Ty.T y46) (a1 : Ty.T y46) : Option (AV × Sig) := cond (a0.1 != a1.1) (some (.one (.bool false), [])) (cond (a0.2.1 != a1.2.1) (some (.one (.bool false), [])) (cond (a0.2.2.1 != a1.2.2.1) (some (.one (.bool false), [])) (cond (a0.2.2.2.1 != a1.2.2.2.1) (some (.one (.bool false), [])) (cond (a0.2.2.2.2.1 != a1.2.2.2.2.1) (some (.one (.bool false), [])) (cond (a0.2.2.2.2.2.1 != a1.2.2.2.2.2.1) (some (.one (.bool false), [])) (cond (a0.2.2.2.2.2.2 != a1.2.2.2.2.2.2) (some (.one (.bool false), [])) (some (.one (.bool true), []))))))))
noncomputable def v86 (a0 : Ty.T y46) (a1 : Ty.T y46) : Bool := cond (a0.1 != a1.1) (false) (cond (a0.2.1 != a1.2.1) (false) (cond (a0.2.2.1 != a1.2.2.1) (false) (cond (a0.2.2.2.1 != a1.2.2.2.1) (false) (cond (a0.2.2.2.2.1 != a1.2.2.2.2.1) (false) (cond (a0.2.2.2.2.2.1 != a1.2.2.2.2.2.1) (false) (cond (a0.2.2.2.2.2.2 != a1.2.2.2.2.2.2) (false) (true)))))))
theorem o86 (a0 : Ty.T y46) (a1 : Ty.T y46) : u86 a0 a1 = some (f86 (v86 a0 a1)) := (tot_cond rfl (tot_cond rfl (tot_cond rfl (tot_cond rfl (tot_cond rfl (tot_cond rfl (tot_cond rfl rfl)))))))
noncomputable def p86 : Prim := ⟨[.agg [.dat y46 true], .agg [.dat y46 true]], fun v => .done (f86 (v86 v.1 v.2.1))⟩
theorem ok86 : PrimOk Try.prog 86 p86 := primOk_eq hE86 orders fun v => Eq.trans (b := u86 v.1 v.2.1) (by kernel_rfl) (o86 v.1 v.2.1)
/-! ### laws.eqGuard -/
noncomputable def E87 : Env := { ti := ti, fn := fns, prim := [] }
theorem hE87 : Env.Ok Try.prog E87 := Env.Ok.of tiOk fnOk (mem_nil) mem_nil
noncomputable def f87 (r : Bool) : AV × Sig := (.one (.bool r), [])
noncomputable def u87 (a0 : Ty.T y48) (a1 : Ty.T y48) : Option (AV × Sig) := cond (a0.1 != a1.1) (some (.one (.bool false), [])) (cond (a0.2 != a1.2) (some (.one (.bool false), [])) (some (.one (.bool true), [])))
noncomputable def v87 (a0 : Ty.T y48) (a1 : Ty.T y48) : Bool := cond (a0.1 != a1.1) (false) (cond (a0.2 != a1.2) (false) (true))
theorem o87 (a0 : Ty.T y48) (a1 : Ty.T y48) : u87 a0 a1 = some (f87 (v87 a0 a1)) := (tot_cond rfl (tot_cond rfl rfl))
noncomputable def p87 : Prim := ⟨[.agg [.dat y48 true], .agg [.dat y48 true]], fun v => .done (f87 (v87 v.1 v.2.1))⟩
theorem ok87 : PrimOk Try.prog 87 p87 := primOk_eq hE87 orders fun v => Eq.trans (b := u87 v.1 v.2.1) (by kernel_rfl) (o87 v.1 v.2.1)
/-! ### laws.eqAct -/
noncomputable def E88 : Env := { ti := ti, fn := fns, prim := [(70, p70)] }
theorem hE88 : Env.Ok Try.prog E88 := Env.Ok.of tiOk fnOk (mem_cons ok70 <| mem_nil) mem_nil
noncomputable def f88 (r : Bool) : AV × Sig := (.one (.bool r), [])
noncomputable def u88 (a0 : Ty.T y60) (a1 : Ty.T y60) : Option (AV × Sig) := cond (a0.1 != a1.1) (some (.one (.bool false), [])) (cond (a0.2.1 != a1.2.1) (some (.one (.bool false), [])) (cond (a0.2.2.1 != a1.2.2.1) (some (.one (.bool false), [])) (cond (a0.2.2.2.1 != a1.2.2.2.1) (some (.one (.bool false), [])) (cond (a0.2.2.2.2.1 != a1.2.2.2.2.1) (some (.one (.bool false), [])) (cond (!(a0.2.2.2.2.2.1 == a1.2.2.2.2.2.1)) (some (.one (.bool false), [])) (cond (d70 a0.2.2.2.2.2.2 a1.2.2.2.2.2.2) (cond (!(v70 a0.2.2.2.2.2.2 a1.2.2.2.2.2.2)) (some (.one (.bool false), [])) (some (.one (.bool true), []))) (none)))))))
noncomputable def v88 (a0 : Ty.T y60) (a1 : Ty.T y60) : Bool := cond (a0.1 != a1.1) (false) (cond (a0.2.1 != a1.2.1) (false) (cond (a0.2.2.1 != a1.2.2.1) (false) (cond (a0.2.2.2.1 != a1.2.2.2.1) (false) (cond (a0.2.2.2.2.1 != a1.2.2.2.2.1) (false) (cond (!(a0.2.2.2.2.2.1 == a1.2.2.2.2.2.1)) (false) (cond (d70 a0.2.2.2.2.2.2 a1.2.2.2.2.2.2) (cond (!(v70 a0.2.2.2.2.2.2 a1.2.2.2.2.2.2)) (false) (true)) (false)))))))
noncomputable def d88 (a0 : Ty.T y60) (a1 : Ty.T y60) : Bool := cond (a0.1 != a1.1) (true) (cond (a0.2.1 != a1.2.1) (true) (cond (a0.2.2.1 != a1.2.2.1) (true) (cond (a0.2.2.2.1 != a1.2.2.2.1) (true) (cond (a0.2.2.2.2.1 != a1.2.2.2.2.1) (true) (cond (!(a0.2.2.2.2.2.1 == a1.2.2.2.2.2.1)) (true) (cond (d70 a0.2.2.2.2.2.2 a1.2.2.2.2.2.2) (cond (!(v70 a0.2.2.2.2.2.2 a1.2.2.2.2.2.2)) (true) (true)) (false)))))))
theorem o88 (a0 : Ty.T y60) (a1 : Ty.T y60) : u88 a0 a1 = cond (d88 a0 a1) (some (f88 (v88 a0 a1))) none := (par_cond (par_some _) (par_cond (par_some _) (par_cond (par_some _) (par_cond (par_some _) (par_cond (par_some _) (par_cond (par_some _) (par_cond (par_cond (par_some _) (par_some _)) (par_none _))))))))
noncomputable def p88 : Prim := ⟨[.agg [.dat y60 true], .agg [.dat y60 true]], fun v => .br (d88 v.1 v.2.1) (.done (f88 (v88 v.1 v.2.1))) .no⟩
theorem ok88 : PrimOk Try.prog 88 p88 := primOk_eq hE88 orders fun v => Eq.trans (b := u88 v.1 v.2.1) (by kernel_rfl) (o88 v.1 v.2.1)
/-! ### laws.eqEffect -/
noncomputable def E30 : Env := { ti := ti, fn := fns, prim := [(86, p86), (87, p87), (88, p88)] }
theorem hE30 : Env.Ok Try.prog E30 := Env.Ok.of tiOk fnOk (mem_cons ok86 <| mem_cons ok87 <| mem_cons ok88 <| mem_nil) mem_nil
noncomputable def f30 (r : Bool) : AV × Sig := (.one (.bool r), [])
noncomputable def u30 (a0 : Ty.T y62) (a1 : Ty.T y62) : Option (AV × Sig) := cond (a0.1 != a1.1) (some (.one (.bool false), [])) (cond (a0.2.1 != a1.2.1) (some (.one (.bool false), [])) (cond (a0.2.2.1 != a1.2.2.1) (some (.one (.bool false), [])) (cond (a0.2.2.2.1 != a1.2.2.2.1) (some (.one (.bool false), [])) (cond (!(v86 a0.2.2.2.2.1 a1.2.2.2.2.1)) (some (.one (.bool false), [])) (cond (!(v87 a0.2.2.2.2.2.1 a1.2.2.2.2.2.1)) (some (.one (.bool false), [])) (cond (d88 a0.2.2.2.2.2.2.1 a1.2.2.2.2.2.2.1) (cond (!(v88 a0.2.2.2.2.2.2.1 a1.2.2.2.2.2.2.1)) (some (.one (.bool false), [])) (cond (a0.2.2.2.2.2.2.2.1 != a1.2.2.2.2.2.2.2.1) (some (.one (.bool false), [])) (cond (a0.2.2.2.2.2.2.2.2 != a1.2.2.2.2.2.2.2.2) (some (.one (.bool false), [])) (some (.one (.bool true), []))))) (none)))))))
noncomputable def v30 (a0 : Ty.T y62) (a1 : Ty.T y62) : Bool := cond (a0.1 != a1.1) (false) (cond (a0.2.1 != a1.2.1) (false) (cond (a0.2.2.1 != a1.2.2.1) (false) (cond (a0.2.2.2.1 != a1.2.2.2.1) (false) (cond (!(v86 a0.2.2.2.2.1 a1.2.2.2.2.1)) (false) (cond (!(v87 a0.2.2.2.2.2.1 a1.2.2.2.2.2.1)) (false) (cond (d88 a0.2.2.2.2.2.2.1 a1.2.2.2.2.2.2.1) (cond (!(v88 a0.2.2.2.2.2.2.1 a1.2.2.2.2.2.2.1)) (false) (cond (a0.2.2.2.2.2.2.2.1 != a1.2.2.2.2.2.2.2.1) (false) (cond (a0.2.2.2.2.2.2.2.2 != a1.2.2.2.2.2.2.2.2) (false) (true)))) (false)))))))
noncomputable def d30 (a0 : Ty.T y62) (a1 : Ty.T y62) : Bool := cond (a0.1 != a1.1) (true) (cond (a0.2.1 != a1.2.1) (true) (cond (a0.2.2.1 != a1.2.2.1) (true) (cond (a0.2.2.2.1 != a1.2.2.2.1) (true) (cond (!(v86 a0.2.2.2.2.1 a1.2.2.2.2.1)) (true) (cond (!(v87 a0.2.2.2.2.2.1 a1.2.2.2.2.2.1)) (true) (cond (d88 a0.2.2.2.2.2.2.1 a1.2.2.2.2.2.2.1) (cond (!(v88 a0.2.2.2.2.2.2.1 a1.2.2.2.2.2.2.1)) (true) (cond (a0.2.2.2.2.2.2.2.1 != a1.2.2.2.2.2.2.2.1) (true) (cond (a0.2.2.2.2.2.2.2.2 != a1.2.2.2.2.2.2.2.2) (true) (true)))) (false)))))))
theorem o30 (a0 : Ty.T y62) (a1 : Ty.T y62) : u30 a0 a1 = cond (d30 a0 a1) (some (f30 (v30 a0 a1))) none := (par_cond (par_some _) (par_cond (par_some _) (par_cond (par_some _) (par_cond (par_some _) (par_cond (par_some _) (par_cond (par_some _) (par_cond (par_cond (par_some _) (par_cond (par_some _) (par_cond (par_some _) (par_some _)))) (par_none _))))))))
noncomputable def p30 : Prim := ⟨[.agg [.dat y62 true], .agg [.dat y62 true]], fun v => .br (d30 v.1 v.2.1) (.done (f30 (v30 v.1 v.2.1))) .no⟩
theorem ok30 : PrimOk Try.prog 30 p30 := primOk_eq hE30 orders fun v => Eq.trans (b := u30 v.1 v.2.1) (by kernel_rfl) (o30 v.1 v.2.1)
/-! ### laws.eqEffectS -/
noncomputable def E36 : Env := { ti := ti, fn := fns, prim := [(30, p30)] }
theorem hE36 : Env.Ok Try.prog E36 := Env.Ok.of tiOk fnOk (mem_cons ok30 <| mem_nil) mem_nil
@[reducible] noncomputable def ss36_0 : List SP := [.one (.dat (.sl 63 y62) true), .one (.dat (.sl 63 y62) true), .und, .und, .one (.dat .bool true), .one (.dat (.int .i64) true), .und, .und, .und, .und, .und, .und, .und, .und, .und, .und, .und, .und, .und, .und, .und, .und, .und, .und, .und, .und, .und]
@[reducible] noncomputable def gs36_0 : List (Nat × GP) := []
noncomputable def t36_0 (v : (StT ss36_0 gs36_0)) {R : Type} (κ : Nat × (StT ss36_0 gs36_0) → Option R) : Option R := cond (decide (v.2.2.2.1 < ((v.1).length : Int))) (if 0 ≤ v.2.2.2.1 then (optC ((v.1)[(v.2.2.2.1).toNat]?) (fun x1 => if 0 ≤ v.2.2.2.1 then (optC ((v.2.1)[(v.2.2.2.1).toNat]?) (fun x2 => cond (d30 x1 x2) (cond (!(v30 x1 x2)) (κ (1, (v.1, v.2.1, false, v.2.2.2.1, ()))) (κ (0, (v.1, v.2.1, v.2.2.1, IntKind.wrap .i64 (v.2.2.2.1 + (1 : Int)), ())))) (none))) else none)) else none) (κ (2, (v.1, v.2.1, v.2.2.1, v.2.2.2.1, ())))
noncomputable def s36_0 (v : (StT ss36_0 gs36_0)) : Option (Nat × (StT ss36_0 gs36_0)) := t36_0 v some
noncomputable def n36_0 (v : (StT ss36_0 gs36_0)) : Nat := v.1.length + v.2.1.length + v.2.2.2.1.toNat + 100
noncomputable def k36_0 (x0 : List (Ty.T y62)) (x1 : List (Ty.T y62)) (x2 : Bool) (x3 : Int) (c : Nat) : Bool := iterAt s36_0 (n36_0 (x0, x1, x2, x3, ())) (x0, x1, x2, x3, ()) c
noncomputable def w36_0 (x0 : List (Ty.T y62)) (x1 : List (Ty.T y62)) (x2 : Bool) (x3 : Int) : (StT ss36_0 gs36_0) := iterV s36_0 (n36_0 (x0, x1, x2, x3, ())) (x0, x1, x2, x3, ())
noncomputable def F36_0 (v : (StT ss36_0 gs36_0)) : Ways (Ex × St) := waysOf s36_0 (n36_0 v) v (bldSt ss36_0 gs36_0) [.ret, .exit 0] 0
theorem wf36_0 : wfSt ss36_0 gs36_0 := wf_of (by kernel_rfl)
theorem l36_0 : LoopOk Try.prog (loopAt [true, true, false, true] (bodyOf Try.f36)) ss36_0 gs36_0 F36_0 := loopOk_iter (lt := .none) (m := [true, true, false, false, true, true, false, false, false, false, false, false, false, false, false, false, false, false, false, false, false, false, false, false, false, false, false]) (keep := []) hE36 orders (LtOk.no _) fun n v K => Eq.trans (b := t36_0 v (kont _ _ _ _ _ _ K)) (by kernel_rfl) (show t36_0 v _ = (t36_0 v some).bind _ from (bnd_cond (bnd_ite (bnd_opt fun x1 => (bnd_ite (bnd_opt fun x2 => (bnd_cond (bnd_cond rfl rfl) rfl))))) rfl))
noncomputable def E36l : Env := { ti := ti, fn := fns, prim := [(30, p30)], lt := [(36, (ltPut [true, true, false, true] (bodyOf Try.f36) .none (.sum ss36_0 gs36_0 F36_0)))] }
theorem hE36l : Env.Ok Try.prog E36l := Env.Ok.of tiOk fnOk (mem_cons ok30 <| mem_nil) (mem_cons (ltOk_of Try.func36 (LtOk.put wf36_0 (LtOk.no _) l36_0)) mem_nil)
noncomputable def f36 (r : Bool) : AV × Sig := (.one (.bool r), [])
noncomputable def u36 (a0 : List (Ty.T y62)) (a1 : List (Ty.T y62)) : Option (AV × Sig) := cond (((a0).length : Int) != ((a1).length : Int)) (some (.one (.bool false), [])) (cond (k36_0 a0 a1 false 0 0) (some (.one (.bool ((w36_0 a0 a1 false 0).2.2.1)), [])) (cond (k36_0 a0 a1 false 0 1) (some (.one (.bool true), [])) (none)))
noncomputable def v36 (a0 : List (Ty.T y62)) (a1 : List (Ty.T y62)) : Bool := cond (((a0).length : Int) != ((a1).length : Int)) (false) (cond (k36_0 a0 a1 false 0 0) ((w36_0 a0 a1 false 0).2.2.1) (cond (k36_0 a0 a1 false 0 1) (true) (false)))
noncomputable def d36 (a0 : List (Ty.T y62)) (a1 : List (Ty.T y62)) : Bool := cond (((a0).length : Int) != ((a1).length : Int)) (true) (cond (k36_0 a0 a1 false 0 0) (true) (cond (k36_0 a0 a1 false 0 1) (true) (false)))
theorem o36 (a0 : List (Ty.T y62)) (a1 : List (Ty.T y62)) : u36 a0 a1 = cond (d36 a0 a1) (some (f36 (v36 a0 a1))) none := (par_cond (par_some _) (par_cond (par_some _) (par_cond (par_some _) (par_none _))))
noncomputable def p36 : Prim := ⟨[.one (.dat (.sl 63 y62) true), .one (.dat (.sl 63 y62) true)], fun v => .br (d36 v.1 v.2.1) (.done (f36 (v36 v.1 v.2.1))) .no⟩
theorem ok36 : PrimOk Try.prog 36 p36 := primOk_eq hE36l orders fun v => Eq.trans (b := u36 v.1 v.2.1) (by kernel_rfl) (o36 v.1 v.2.1)
/-! ### laws.eqFate -/
noncomputable def E63 : Env := { ti := ti, fn := fns, prim := [(18, p18), (19, p19), (36, p36), (70, p70)] }
theorem hE63 : Env.Ok Try.prog E63 := Env.Ok.of tiOk fnOk (mem_cons ok18 <| mem_cons ok19 <| mem_cons ok36 <| mem_cons ok70 <| mem_nil) mem_nil
noncomputable def f63 (r : Bool) : AV × Sig := (.one (.bool r), [])
noncomputable def u63 (a0 : Ty.T y117) (a1 : Ty.T y117) : Option (AV × Sig) := cond (d70 a0.1 a1.1) (cond (!(v70 a0.1 a1.1)) (some (.one (.bool false), [])) (cond (d36 a0.2.1 a1.2.1) (cond (!(v36 a0.2.1 a1.2.1)) (some (.one (.bool false), [])) (cond (d18 a0.2.2.1 a1.2.2.1) (cond (!(v18 a0.2.2.1 a1.2.2.1)) (some (.one (.bool false), [])) (cond (d19 a0.2.2.2 a1.2.2.2) (cond (!(v19 a0.2.2.2 a1.2.2.2)) (some (.one (.bool false), [])) (some (.one (.bool true), []))) (none))) (none))) (none))) (none)
noncomputable def v63 (a0 : Ty.T y117) (a1 : Ty.T y117) : Bool := cond (d70 a0.1 a1.1) (cond (!(v70 a0.1 a1.1)) (false) (cond (d36 a0.2.1 a1.2.1) (cond (!(v36 a0.2.1 a1.2.1)) (false) (cond (d18 a0.2.2.1 a1.2.2.1) (cond (!(v18 a0.2.2.1 a1.2.2.1)) (false) (cond (d19 a0.2.2.2 a1.2.2.2) (cond (!(v19 a0.2.2.2 a1.2.2.2)) (false) (true)) (false))) (false))) (false))) (false)
noncomputable def d63 (a0 : Ty.T y117) (a1 : Ty.T y117) : Bool := cond (d70 a0.1 a1.1) (cond (!(v70 a0.1 a1.1)) (true) (cond (d36 a0.2.1 a1.2.1) (cond (!(v36 a0.2.1 a1.2.1)) (true) (cond (d18 a0.2.2.1 a1.2.2.1) (cond (!(v18 a0.2.2.1 a1.2.2.1)) (true) (cond (d19 a0.2.2.2 a1.2.2.2) (cond (!(v19 a0.2.2.2 a1.2.2.2)) (true) (true)) (false))) (false))) (false))) (false)
theorem o63 (a0 : Ty.T y117) (a1 : Ty.T y117) : u63 a0 a1 = cond (d63 a0 a1) (some (f63 (v63 a0 a1))) none := (par_cond (par_cond (par_some _) (par_cond (par_cond (par_some _) (par_cond (par_cond (par_some _) (par_cond (par_cond (par_some _) (par_some _)) (par_none _))) (par_none _))) (par_none _))) (par_none _))
noncomputable def p63 : Prim := ⟨[.agg [.dat y117 true], .agg [.dat y117 true]], fun v => .br (d63 v.1 v.2.1) (.done (f63 (v63 v.1 v.2.1))) .no⟩
theorem ok63 : PrimOk Try.prog 63 p63 := primOk_eq hE63 orders fun v => Eq.trans (b := u63 v.1 v.2.1) (by kernel_rfl) (o63 v.1 v.2.1)
/-! ### spec.Upto -/
noncomputable def E100 : Env := { ti := ti, fn := fns, prim := [] }
theorem hE100 : Env.Ok Try.prog E100 := Env.Ok.of tiOk fnOk (mem_nil) mem_nil
noncomputable def f100 (r : Int) : AV × Sig := (.one (.int .i64 r), [])
noncomputable def u100 (a0 : Int) (a1 : Int) : Option (AV × Sig) := cond (decide (a1 < a0)) (cond (decide (a1 < (0 : Int))) (some (.one (.int .i64 0), [])) (some (.one (.int .i64 a1), []))) (cond (decide (a0 < (0 : Int))) (some (.one (.int .i64 0), [])) (some (.one (.int .i64 a0), [])))
noncomputable def v100 (a0 : Int) (a1 : Int) : Int := cond (decide (a1 < a0)) (cond (decide (a1 < (0 : Int))) (0) (a1)) (cond (decide (a0 < (0 : Int))) (0) (a0))
theorem o100 (a0 : Int) (a1 : Int) : u100 a0 a1 = some (f100 (v100 a0 a1)) := (tot_cond (tot_cond rfl rfl) (tot_cond rfl rfl))
noncomputable def p100 : Prim := ⟨[.one (.dat (.int .i64) true), .one (.dat (.int .i64) true)], fun v => .done (f100 (v100 v.1 v.2.1))⟩
theorem ok100 : PrimOk Try.prog 100 p100 := primOk_eq hE100 orders fun v => Eq.trans (b := u100 v.1 v.2.1) (by kernel_rfl) (o100 v.1 v.2.1)
/-! ### spec.Total -/
noncomputable def E115 : Env := { ti := ti, fn := fns, prim := [(100, p100)] }
theorem hE115 : Env.Ok Try.prog E115 := Env.Ok.of tiOk fnOk (mem_cons ok100 <| mem_nil) mem_nil
@[reducible] noncomputable def ss115_0 : List SP := [.one (.dat (.sl 40 y33) true), .und, .one (.dat (.int .i64) true), .one (.dat (.int .i64) true), .one (.dat (.int .i64) true), .und, .und, .und, .und, .und, .und, .und, .und, .und, .und, .und, .und, .und, .und, .und, .und, .und, .und, .und, .und, .und]
@[reducible] noncomputable def gs115_0 : List (Nat × GP) := []
noncomputable def t115_0 (v : (StT ss115_0 gs115_0)) {R : Type} (κ : Nat × (StT ss115_0 gs115_0) → Option R) : Option R := cond (decide (v.2.2.2.1 < ((v.1).length : Int))) (if 0 ≤ v.2.2.2.1 then (optC ((v.1)[(v.2.2.2.1).toNat]?) (fun x1 => cond (x1.1 == (1 : Int)) (if 0 ≤ v.2.2.2.1 then (optC ((v.1)[(v.2.2.2.1).toNat]?) (fun x2 => κ (0, (v.1, v.2.1, IntKind.wrap .i64 (v.2.2.1 + (v100 x2.2.2.2.2.1 2147483647)), IntKind.wrap .i64 (v.2.2.2.1 + (1 : Int)), ())))) else none) (κ (0, (v.1, v.2.1, v.2.2.1, IntKind.wrap .i64 (v.2.2.2.1 + (1 : Int)), ()))))) else none) (κ (1, (v.1, v.2.1, v.2.2.1, v.2.2.2.1, ())))
noncomputable def s115_0 (v : (StT ss115_0 gs115_0)) : Option (Nat × (StT ss115_0 gs115_0)) := t115_0 v some
noncomputable def n115_0 (v : (StT ss115_0 gs115_0)) : Nat := v.1.length + v.2.1.toNat + v.2.2.1.toNat + v.2.2.2.1.toNat + 100
noncomputable def k115_0 (x0 : List (Ty.T y33)) (x1 : Int) (x2 : Int) (x3 : Int) (c : Nat) : Bool := iterAt s115_0 (n115_0 (x0, x1, x2, x3, ())) (x0, x1, x2, x3, ()) c
noncomputable def w115_0 (x0 : List (Ty.T y33)) (x1 : Int) (x2 : Int) (x3 : Int) : (StT ss115_0 gs115_0) := iterV s115_0 (n115_0 (x0, x1, x2, x3, ())) (x0, x1, x2, x3, ())
noncomputable def F115_0 (v : (StT ss115_0 gs115_0)) : Ways (Ex × St) := waysOf s115_0 (n115_0 v) v (bldSt ss115_0 gs115_0) [.exit 0] 0
theorem wf115_0 : wfSt ss115_0 gs115_0 := wf_of (by kernel_rfl)
theorem l115_0 : LoopOk Try.prog (loopAt [true, true, false, true] (bodyOf Try.f115)) ss115_0 gs115_0 F115_0 := loopOk_iter (lt := .none) (m := [true, false, true, true, true, false, false, false, false, false, false, false, false, false, false, false, false, false, false, false, false, false, false, false, false, false]) (keep := []) hE115 orders (LtOk.no _) fun n v K => Eq.trans (b := t115_0 v (kont _ _ _ _ _ _ K)) (by kernel_rfl) (show t115_0 v _ = (t115_0 v some).bind _ from (bnd_cond (bnd_ite (bnd_opt fun x1 => (bnd_cond (bnd_ite (bnd_opt fun x2 => rfl)) rfl))) rfl))
noncomputable def E115l : Env := { ti := ti, fn := fns, prim := [(100, p100)], lt := [(115, (ltPut [true, true, false, true] (bodyOf Try.f115) .none (.sum ss115_0 gs115_0 F115_0)))] }
theorem hE115l : Env.Ok Try.prog E115l := Env.Ok.of tiOk fnOk (mem_cons ok100 <| mem_nil) (mem_cons (ltOk_of Try.func115 (LtOk.put wf115_0 (LtOk.no _) l115_0)) mem_nil)
noncomputable def f115 (r : Int) : AV × Sig := (.one (.int .i64 r), [])
noncomputable def u115 (a0 : List (Ty.T y33)) : Option (AV × Sig) := cond (k115_0 a0 0 0 0 0) (some (.one (.int .i64 ((w115_0 a0 0 0 0).2.2.1)), [])) (none)
noncomputable def v115 (a0 : List (Ty.T y33)) : Int := cond (k115_0 a0 0 0 0 0) ((w115_0 a0 0 0 0).2.2.1) (0)
noncomputable def d115 (a0 : List (Ty.T y33)) : Bool := cond (k115_0 a0 0 0 0 0) (true) (false)
theorem o115 (a0 : List (Ty.T y33)) : u115 a0 = cond (d115 a0) (some (f115 (v115 a0))) none := (par_cond (par_some _) (par_none _))
noncomputable def p115 : Prim := ⟨[.one (.dat (.sl 40 y33) true)], fun v => .br (d115 v.1) (.done (f115 (v115 v.1))) .no⟩
theorem ok115 : PrimOk Try.prog 115 p115 := primOk_eq hE115l orders fun v => Eq.trans (b := u115 v.1) (by kernel_rfl) (o115 v.1)
/-! ### spec.Asked -/
noncomputable def E112 : Env := { ti := ti, fn := fns, prim := [(115, p115)] }
theorem hE112 : Env.Ok Try.prog E112 := Env.Ok.of tiOk fnOk (mem_cons ok115 <| mem_nil) mem_nil
noncomputable def f112 (r : Int) : AV × Sig := (.one (.int .i64 r), [])
noncomputable def u112 (a0 : List (Ty.T y33)) : Option (AV × Sig) := cond (d115 a0) (some (.one (.int .i64 (v115 a0)), [])) (none)
noncomputable def v112 (a0 : List (Ty.T y33)) : Int := cond (d115 a0) ((v115 a0)) (0)
noncomputable def d112 (a0 : List (Ty.T y33)) : Bool := cond (d115 a0) (true) (false)
theorem o112 (a0 : List (Ty.T y33)) : u112 a0 = cond (d112 a0) (some (f112 (v112 a0))) none := (par_cond (par_some _) (par_none _))
noncomputable def p112 : Prim := ⟨[.one (.dat (.sl 40 y33) true)], fun v => .br (d112 v.1) (.done (f112 (v112 v.1))) .no⟩
theorem ok112 : PrimOk Try.prog 112 p112 := primOk_eq hE112 orders fun v => Eq.trans (b := u112 v.1) (by kernel_rfl) (o112 v.1)
/-! ### spec.ChangedBy -/
noncomputable def E132 : Env := { ti := ti, fn := fns, prim := [(100, p100), (115, p115)] }
theorem hE132 : Env.Ok Try.prog E132 := Env.Ok.of tiOk fnOk (mem_cons ok100 <| mem_cons ok115 <| mem_nil) mem_nil
noncomputable def f132 (r : Int) : AV × Sig := (.one (.int .i64 r), [])
noncomputable def u132 (a0 : Ty.T y97) : Option (AV × Sig) := cond (d115 a0.2.2.2.2.2.1) (cond (d115 [a0.2.2.2.2.1]) (some (.one (.int .i64 (IntKind.wrap .i64 ((IntKind.wrap .i64 ((v115 a0.2.2.2.2.2.1) + (v100 a0.2.2.2.2.2.2.1 2147483647))) - (v115 [a0.2.2.2.2.1])))), [])) (none)) (none)
noncomputable def v132 (a0 : Ty.T y97) : Int := cond (d115 a0.2.2.2.2.2.1) (cond (d115 [a0.2.2.2.2.1]) (IntKind.wrap .i64 ((IntKind.wrap .i64 ((v115 a0.2.2.2.2.2.1) + (v100 a0.2.2.2.2.2.2.1 2147483647))) - (v115 [a0.2.2.2.2.1]))) (0)) (0)
noncomputable def d132 (a0 : Ty.T y97) : Bool := cond (d115 a0.2.2.2.2.2.1) (cond (d115 [a0.2.2.2.2.1]) (true) (false)) (false)
theorem o132 (a0 : Ty.T y97) : u132 a0 = cond (d132 a0) (some (f132 (v132 a0))) none := (par_cond (par_cond (par_some _) (par_none _)) (par_none _))
noncomputable def p132 : Prim := ⟨[.agg [.dat y97 true]], fun v => .br (d132 v.1) (.done (f132 (v132 v.1))) .no⟩
theorem ok132 : PrimOk Try.prog 132 p132 := primOk_eq hE132 orders fun v => Eq.trans (b := u132 v.1) (by kernel_rfl) (o132 v.1)
/-! ### spec.Changed -/
noncomputable def E113 : Env := { ti := ti, fn := fns, prim := [(132, p132)] }
theorem hE113 : Env.Ok Try.prog E113 := Env.Ok.of tiOk fnOk (mem_cons ok132 <| mem_nil) mem_nil
@[reducible] noncomputable def ss113_0 : List SP := [.one (.dat (.sl 98 y97) true), .und, .one (.dat (.int .i64) true), .one (.dat (.int .i64) true), .one (.dat (.int .i64) true), .und, .und, .und, .und, .und, .und, .und, .und, .und, .und, .und, .und, .und, .und]
@[reducible] noncomputable def gs113_0 : List (Nat × GP) := []
noncomputable def t113_0 (v : (StT ss113_0 gs113_0)) {R : Type} (κ : Nat × (StT ss113_0 gs113_0) → Option R) : Option R := cond (decide (v.2.2.2.1 < ((v.1).length : Int))) (if 0 ≤ v.2.2.2.1 then (optC ((v.1)[(v.2.2.2.1).toNat]?) (fun x1 => cond (d132 x1) (κ (0, (v.1, v.2.1, IntKind.wrap .i64 (v.2.2.1 + (v132 x1)), IntKind.wrap .i64 (v.2.2.2.1 + (1 : Int)), ()))) (none))) else none) (κ (1, (v.1, v.2.1, v.2.2.1, v.2.2.2.1, ())))
noncomputable def s113_0 (v : (StT ss113_0 gs113_0)) : Option (Nat × (StT ss113_0 gs113_0)) := t113_0 v some
noncomputable def n113_0 (v : (StT ss113_0 gs113_0)) : Nat := v.1.length + v.2.1.toNat + v.2.2.1.toNat + v.2.2.2.1.toNat + 100
noncomputable def k113_0 (x0 : List (Ty.T y97)) (x1 : Int) (x2 : Int) (x3 : Int) (c : Nat) : Bool := iterAt s113_0 (n113_0 (x0, x1, x2, x3, ())) (x0, x1, x2, x3, ()) c
noncomputable def w113_0 (x0 : List (Ty.T y97)) (x1 : Int) (x2 : Int) (x3 : Int) : (StT ss113_0 gs113_0) := iterV s113_0 (n113_0 (x0, x1, x2, x3, ())) (x0, x1, x2, x3, ())
noncomputable def F113_0 (v : (StT ss113_0 gs113_0)) : Ways (Ex × St) := waysOf s113_0 (n113_0 v) v (bldSt ss113_0 gs113_0) [.exit 0] 0
theorem wf113_0 : wfSt ss113_0 gs113_0 := wf_of (by kernel_rfl)
theorem l113_0 : LoopOk Try.prog (loopAt [true, true, false, true] (bodyOf Try.f113)) ss113_0 gs113_0 F113_0 := loopOk_iter (lt := .none) (m := [true, false, true, true, true, false, false, false, false, false, false, false, false, false, false, false, false, false, false]) (keep := []) hE113 orders (LtOk.no _) fun n v K => Eq.trans (b := t113_0 v (kont _ _ _ _ _ _ K)) (by kernel_rfl) (show t113_0 v _ = (t113_0 v some).bind _ from (bnd_cond (bnd_ite (bnd_opt fun x1 => (bnd_cond rfl rfl))) rfl))
noncomputable def E113l : Env := { ti := ti, fn := fns, prim := [(132, p132)], lt := [(113, (ltPut [true, true, false, true] (bodyOf Try.f113) .none (.sum ss113_0 gs113_0 F113_0)))] }
theorem hE113l : Env.Ok Try.prog E113l := Env.Ok.of tiOk fnOk (mem_cons ok132 <| mem_nil) (mem_cons (ltOk_of Try.func113 (LtOk.put wf113_0 (LtOk.no _) l113_0)) mem_nil)
noncomputable def f113 (r : Int) : AV × Sig := (.one (.int .i64 r), [])
noncomputable def u113 (a0 : List (Ty.T y97)) : Option (AV × Sig) := cond (k113_0 a0 0 0 0 0) (some (.one (.int .i64 ((w113_0 a0 0 0 0).2.2.1)), [])) (none)
noncomputable def v113 (a0 : List (Ty.T y97)) : Int := cond (k113_0 a0 0 0 0 0) ((w113_0 a0 0 0 0).2.2.1) (0)
noncomputable def d113 (a0 : List (Ty.T y97)) : Bool := cond (k113_0 a0 0 0 0 0) (true) (false)
theorem o113 (a0 : List (Ty.T y97)) : u113 a0 = cond (d113 a0) (some (f113 (v113 a0))) none := (par_cond (par_some _) (par_none _))
noncomputable def p113 : Prim := ⟨[.one (.dat (.sl 98 y97) true)], fun v => .br (d113 v.1) (.done (f113 (v113 v.1))) .no⟩
theorem ok113 : PrimOk Try.prog 113 p113 := primOk_eq hE113l orders fun v => Eq.trans (b := u113 v.1) (by kernel_rfl) (o113 v.1)
/-! ### spec.StoppedOf -/
noncomputable def E114 : Env := { ti := ti, fn := fns, prim := [(100, p100)] }
theorem hE114 : Env.Ok Try.prog E114 := Env.Ok.of tiOk fnOk (mem_cons ok100 <| mem_nil) mem_nil
@[reducible] noncomputable def ss114_0 : List SP := [.one (.dat (.sl 98 y97) true), .und, .one (.dat (.int .i64) true), .one (.dat (.int .i64) true), .one (.dat (.int .i64) true), .und, .und, .und, .und, .und, .und, .und, .und, .und, .und, .und, .und, .und, .und, .und]
@[reducible] noncomputable def gs114_0 : List (Nat × GP) := []
noncomputable def t114_0 (v : (StT ss114_0 gs114_0)) {R : Type} (κ : Nat × (StT ss114_0 gs114_0) → Option R) : Option R := cond (decide (v.2.2.2.1 < ((v.1).length : Int))) (if 0 ≤ v.2.2.2.1 then (optC ((v.1)[(v.2.2.2.1).toNat]?) (fun x1 => κ (0, (v.1, v.2.1, IntKind.wrap .i64 (v.2.2.1 + (v100 x1.2.2.2.2.2.2.1 2147483647)), IntKind.wrap .i64 (v.2.2.2.1 + (1 : Int)), ())))) else none) (κ (1, (v.1, v.2.1, v.2.2.1, v.2.2.2.1, ())))
noncomputable def s114_0 (v : (StT ss114_0 gs114_0)) : Option (Nat × (StT ss114_0 gs114_0)) := t114_0 v some
noncomputable def n114_0 (v : (StT ss114_0 gs114_0)) : Nat := v.1.length + v.2.1.toNat + v.2.2.1.toNat + v.2.2.2.1.toNat + 100
noncomputable def k114_0 (x0 : List (Ty.T y97)) (x1 : Int) (x2 : Int) (x3 : Int) (c : Nat) : Bool := iterAt s114_0 (n114_0 (x0, x1, x2, x3, ())) (x0, x1, x2, x3, ()) c
noncomputable def w114_0 (x0 : List (Ty.T y97)) (x1 : Int) (x2 : Int) (x3 : Int) : (StT ss114_0 gs114_0) := iterV s114_0 (n114_0 (x0, x1, x2, x3, ())) (x0, x1, x2, x3, ())
noncomputable def F114_0 (v : (StT ss114_0 gs114_0)) : Ways (Ex × St) := waysOf s114_0 (n114_0 v) v (bldSt ss114_0 gs114_0) [.exit 0] 0
theorem wf114_0 : wfSt ss114_0 gs114_0 := wf_of (by kernel_rfl)
theorem l114_0 : LoopOk Try.prog (loopAt [true, true, false, true] (bodyOf Try.f114)) ss114_0 gs114_0 F114_0 := loopOk_iter (lt := .none) (m := [true, false, true, true, true, false, false, false, false, false, false, false, false, false, false, false, false, false, false, false]) (keep := []) hE114 orders (LtOk.no _) fun n v K => Eq.trans (b := t114_0 v (kont _ _ _ _ _ _ K)) (by kernel_rfl) (show t114_0 v _ = (t114_0 v some).bind _ from (bnd_cond (bnd_ite (bnd_opt fun x1 => rfl)) rfl))
noncomputable def E114l : Env := { ti := ti, fn := fns, prim := [(100, p100)], lt := [(114, (ltPut [true, true, false, true] (bodyOf Try.f114) .none (.sum ss114_0 gs114_0 F114_0)))] }
theorem hE114l : Env.Ok Try.prog E114l := Env.Ok.of tiOk fnOk (mem_cons ok100 <| mem_nil) (mem_cons (ltOk_of Try.func114 (LtOk.put wf114_0 (LtOk.no _) l114_0)) mem_nil)
noncomputable def f114 (r : Int) : AV × Sig := (.one (.int .i64 r), [])
noncomputable def u114 (a0 : List (Ty.T y97)) : Option (AV × Sig) := cond (k114_0 a0 0 0 0 0) (some (.one (.int .i64 ((w114_0 a0 0 0 0).2.2.1)), [])) (none)
noncomputable def v114 (a0 : List (Ty.T y97)) : Int := cond (k114_0 a0 0 0 0 0) ((w114_0 a0 0 0 0).2.2.1) (0)
noncomputable def d114 (a0 : List (Ty.T y97)) : Bool := cond (k114_0 a0 0 0 0 0) (true) (false)
theorem o114 (a0 : List (Ty.T y97)) : u114 a0 = cond (d114 a0) (some (f114 (v114 a0))) none := (par_cond (par_some _) (par_none _))
noncomputable def p114 : Prim := ⟨[.one (.dat (.sl 98 y97) true)], fun v => .br (d114 v.1) (.done (f114 (v114 v.1))) .no⟩
theorem ok114 : PrimOk Try.prog 114 p114 := primOk_eq hE114l orders fun v => Eq.trans (b := u114 v.1) (by kernel_rfl) (o114 v.1)
/-! ### spec.Balanced -/
noncomputable def E67 : Env := { ti := ti, fn := fns, prim := [(112, p112), (113, p113), (114, p114), (115, p115)] }
theorem hE67 : Env.Ok Try.prog E67 := Env.Ok.of tiOk fnOk (mem_cons ok112 <| mem_cons ok113 <| mem_cons ok114 <| mem_cons ok115 <| mem_nil) mem_nil
noncomputable def f67 (r : Bool) : AV × Sig := (.one (.bool r), [])
noncomputable def u67 (a0 : List (Ty.T y33)) (a1 : Ty.T y117) : Option (AV × Sig) := cond (d112 a0) (cond (d113 a1.2.2.2) (cond (d114 a1.2.2.2) (cond (d115 a1.1) (some (.one (.bool ((IntKind.wrap .i64 ((IntKind.wrap .i64 ((v112 a0) + (v113 a1.2.2.2))) - (v114 a1.2.2.2))) == (v115 a1.1))), [])) (none)) (none)) (none)) (none)
noncomputable def v67 (a0 : List (Ty.T y33)) (a1 : Ty.T y117) : Bool := cond (d112 a0) (cond (d113 a1.2.2.2) (cond (d114 a1.2.2.2) (cond (d115 a1.1) (((IntKind.wrap .i64 ((IntKind.wrap .i64 ((v112 a0) + (v113 a1.2.2.2))) - (v114 a1.2.2.2))) == (v115 a1.1))) (false)) (false)) (false)) (false)
noncomputable def d67 (a0 : List (Ty.T y33)) (a1 : Ty.T y117) : Bool := cond (d112 a0) (cond (d113 a1.2.2.2) (cond (d114 a1.2.2.2) (cond (d115 a1.1) (true) (false)) (false)) (false)) (false)
theorem o67 (a0 : List (Ty.T y33)) (a1 : Ty.T y117) : u67 a0 a1 = cond (d67 a0 a1) (some (f67 (v67 a0 a1))) none := (par_cond (par_cond (par_cond (par_cond (par_some _) (par_none _)) (par_none _)) (par_none _)) (par_none _))
noncomputable def p67 : Prim := ⟨[.one (.dat (.sl 40 y33) true), .agg [.dat y117 true]], fun v => .br (d67 v.1 v.2.1) (.done (f67 (v67 v.1 v.2.1))) .no⟩
theorem ok67 : PrimOk Try.prog 67 p67 := primOk_eq hE67 orders fun v => Eq.trans (b := u67 v.1 v.2.1) (by kernel_rfl) (o67 v.1 v.2.1)
/-! ### impl.Upto -/
noncomputable def E105 : Env := { ti := ti, fn := fns, prim := [] }
theorem hE105 : Env.Ok Try.prog E105 := Env.Ok.of tiOk fnOk (mem_nil) mem_nil
noncomputable def f105 (r : Int) : AV × Sig := (.one (.int .i64 r), [])
noncomputable def u105 (a0 : Int) (a1 : Int) : Option (AV × Sig) := some (.one (.int .i64 (if (if a1 < a0 then a1 else a0) > (0 : Int) then if a1 < a0 then a1 else a0 else 0)), [])
noncomputable def v105 (a0 : Int) (a1 : Int) : Int := if (if a1 < a0 then a1 else a0) > (0 : Int) then if a1 < a0 then a1 else a0 else 0
theorem o105 (a0 : Int) (a1 : Int) : u105 a0 a1 = some (f105 (v105 a0 a1)) := rfl
noncomputable def p105 : Prim := ⟨[.one (.dat (.int .i64) true), .one (.dat (.int .i64) true)], fun v => .done (f105 (v105 v.1 v.2.1))⟩
theorem ok105 : PrimOk Try.prog 105 p105 := primOk_eq hE105 orders fun v => Eq.trans (b := u105 v.1 v.2.1) (by kernel_rfl) (o105 v.1 v.2.1)
/-! ### impl.Total -/
noncomputable def E119 : Env := { ti := ti, fn := fns, prim := [(105, p105)] }
theorem hE119 : Env.Ok Try.prog E119 := Env.Ok.of tiOk fnOk (mem_cons ok105 <| mem_nil) mem_nil
@[reducible] noncomputable def ss119_0 : List SP := [.und, .und, .one (.dat (.int .i64) true), .one (.dat (.int .i64) true), .und, .und, .one (.dat (.sl 40 y33) true), .one (.dat (.int .i64) true), .one (.dat (.int .i64) true), .und, .und, .und, .und, .und, .und, .und, .und, .und, .und, .und, .und, .und]
@[reducible] noncomputable def gs119_0 : List (Nat × GP) := []
noncomputable def t119_0 (v : (StT ss119_0 gs119_0)) {R : Type} (κ : Nat × (StT ss119_0 gs119_0) → Option R) : Option R := cond (decide (v.2.2.2.2.1 < v.2.2.2.1)) (if 0 ≤ v.2.2.2.2.1 then (optC ((v.2.2.1)[(v.2.2.2.2.1).toNat]?) (fun x1 => cond (x1.1 == (1 : Int)) (κ (0, (v.1, IntKind.wrap .i64 (v.2.1 + (v105 x1.2.2.2.2.1 2147483647)), v.2.2.1, v.2.2.2.1, IntKind.wrap .i64 (v.2.2.2.2.1 + (1 : Int)), ()))) (κ (0, (v.1, v.2.1, v.2.2.1, v.2.2.2.1, IntKind.wrap .i64 (v.2.2.2.2.1 + (1 : Int)), ()))))) else none) (κ (1, (v.1, v.2.1, v.2.2.1, v.2.2.2.1, v.2.2.2.2.1, ())))
noncomputable def s119_0 (v : (StT ss119_0 gs119_0)) : Option (Nat × (StT ss119_0 gs119_0)) := t119_0 v some
noncomputable def n119_0 (v : (StT ss119_0 gs119_0)) : Nat := v.1.toNat + v.2.1.toNat + v.2.2.1.length + v.2.2.2.1.toNat + v.2.2.2.2.1.toNat + 100
noncomputable def k119_0 (x0 : Int) (x1 : Int) (x2 : List (Ty.T y33)) (x3 : Int) (x4 : Int) (c : Nat) : Bool := iterAt s119_0 (n119_0 (x0, x1, x2, x3, x4, ())) (x0, x1, x2, x3, x4, ()) c
noncomputable def w119_0 (x0 : Int) (x1 : Int) (x2 : List (Ty.T y33)) (x3 : Int) (x4 : Int) : (StT ss119_0 gs119_0) := iterV s119_0 (n119_0 (x0, x1, x2, x3, x4, ())) (x0, x1, x2, x3, x4, ())
noncomputable def F119_0 (v : (StT ss119_0 gs119_0)) : Ways (Ex × St) := waysOf s119_0 (n119_0 v) v (bldSt ss119_0 gs119_0) [.exit 0] 0
theorem wf119_0 : wfSt ss119_0 gs119_0 := wf_of (by kernel_rfl)
theorem l119_0 : LoopOk Try.prog (loopAt [true, true, false, true] (bodyOf Try.f119)) ss119_0 gs119_0 F119_0 := loopOk_iter (lt := .none) (m := [false, false, true, true, false, false, true, true, true, false, false, false, false, false, false, false, false, false, false, false, false, false]) (keep := []) hE119 orders (LtOk.no _) fun n v K => Eq.trans (b := t119_0 v (kont _ _ _ _ _ _ K)) (by kernel_rfl) (show t119_0 v _ = (t119_0 v some).bind _ from (bnd_cond (bnd_ite (bnd_opt fun x1 => (bnd_cond rfl rfl))) rfl))
noncomputable def E119l : Env := { ti := ti, fn := fns, prim := [(105, p105)], lt := [(119, (ltPut [true, true, false, true] (bodyOf Try.f119) .none (.sum ss119_0 gs119_0 F119_0)))] }
theorem hE119l : Env.Ok Try.prog E119l := Env.Ok.of tiOk fnOk (mem_cons ok105 <| mem_nil) (mem_cons (ltOk_of Try.func119 (LtOk.put wf119_0 (LtOk.no _) l119_0)) mem_nil)
noncomputable def f119 (r : Int) : AV × Sig := (.one (.int .i64 r), [])
noncomputable def u119 (a0 : List (Ty.T y33)) : Option (AV × Sig) := cond (k119_0 0 0 a0 ((a0).length : Int) 0 0) (some (.one (.int .i64 ((w119_0 0 0 a0 ((a0).length : Int) 0).2.1)), [])) (none)
noncomputable def v119 (a0 : List (Ty.T y33)) : Int := cond (k119_0 0 0 a0 ((a0).length : Int) 0 0) ((w119_0 0 0 a0 ((a0).length : Int) 0).2.1) (0)
noncomputable def d119 (a0 : List (Ty.T y33)) : Bool := cond (k119_0 0 0 a0 ((a0).length : Int) 0 0) (true) (false)
theorem o119 (a0 : List (Ty.T y33)) : u119 a0 = cond (d119 a0) (some (f119 (v119 a0))) none := (par_cond (par_some _) (par_none _))
noncomputable def p119 : Prim := ⟨[.one (.dat (.sl 40 y33) true)], fun v => .br (d119 v.1) (.done (f119 (v119 v.1))) .no⟩
theorem ok119 : PrimOk Try.prog 119 p119 := primOk_eq hE119l orders fun v => Eq.trans (b := u119 v.1) (by kernel_rfl) (o119 v.1)
/-! ### impl.Asked -/
noncomputable def E116 : Env := { ti := ti, fn := fns, prim := [(119, p119)] }
theorem hE116 : Env.Ok Try.prog E116 := Env.Ok.of tiOk fnOk (mem_cons ok119 <| mem_nil) mem_nil
noncomputable def f116 (r : Int) : AV × Sig := (.one (.int .i64 r), [])
noncomputable def u116 (a0 : List (Ty.T y33)) : Option (AV × Sig) := cond (d119 a0) (some (.one (.int .i64 (v119 a0)), [])) (none)
noncomputable def v116 (a0 : List (Ty.T y33)) : Int := cond (d119 a0) ((v119 a0)) (0)
noncomputable def d116 (a0 : List (Ty.T y33)) : Bool := cond (d119 a0) (true) (false)
theorem o116 (a0 : List (Ty.T y33)) : u116 a0 = cond (d116 a0) (some (f116 (v116 a0))) none := (par_cond (par_some _) (par_none _))
noncomputable def p116 : Prim := ⟨[.one (.dat (.sl 40 y33) true)], fun v => .br (d116 v.1) (.done (f116 (v116 v.1))) .no⟩
theorem ok116 : PrimOk Try.prog 116 p116 := primOk_eq hE116 orders fun v => Eq.trans (b := u116 v.1) (by kernel_rfl) (o116 v.1)
/-! ### impl.ChangedBy -/
noncomputable def E133 : Env := { ti := ti, fn := fns, prim := [(105, p105), (119, p119)] }
theorem hE133 : Env.Ok Try.prog E133 := Env.Ok.of tiOk fnOk (mem_cons ok105 <| mem_cons ok119 <| mem_nil) mem_nil
noncomputable def f133 (r : Int) : AV × Sig := (.one (.int .i64 r), [])
noncomputable def u133 (a0 : Ty.T y97) : Option (AV × Sig) := cond (d119 a0.2.2.2.2.2.1) (cond (d119 [a0.2.2.2.2.1]) (some (.one (.int .i64 (IntKind.wrap .i64 ((IntKind.wrap .i64 ((v119 a0.2.2.2.2.2.1) + (v105 a0.2.2.2.2.2.2.1 2147483647))) - (v119 [a0.2.2.2.2.1])))), [])) (none)) (none)
noncomputable def v133 (a0 : Ty.T y97) : Int := cond (d119 a0.2.2.2.2.2.1) (cond (d119 [a0.2.2.2.2.1]) (IntKind.wrap .i64 ((IntKind.wrap .i64 ((v119 a0.2.2.2.2.2.1) + (v105 a0.2.2.2.2.2.2.1 2147483647))) - (v119 [a0.2.2.2.2.1]))) (0)) (0)
noncomputable def d133 (a0 : Ty.T y97) : Bool := cond (d119 a0.2.2.2.2.2.1) (cond (d119 [a0.2.2.2.2.1]) (true) (false)) (false)
theorem o133 (a0 : Ty.T y97) : u133 a0 = cond (d133 a0) (some (f133 (v133 a0))) none := (par_cond (par_cond (par_some _) (par_none _)) (par_none _))
noncomputable def p133 : Prim := ⟨[.agg [.dat y97 true]], fun v => .br (d133 v.1) (.done (f133 (v133 v.1))) .no⟩
theorem ok133 : PrimOk Try.prog 133 p133 := primOk_eq hE133 orders fun v => Eq.trans (b := u133 v.1) (by kernel_rfl) (o133 v.1)
/-! ### impl.Changed -/
noncomputable def E117 : Env := { ti := ti, fn := fns, prim := [(133, p133)] }
theorem hE117 : Env.Ok Try.prog E117 := Env.Ok.of tiOk fnOk (mem_cons ok133 <| mem_nil) mem_nil
@[reducible] noncomputable def ss117_0 : List SP := [.und, .und, .one (.dat (.int .i64) true), .one (.dat (.int .i64) true), .und, .und, .one (.dat (.sl 98 y97) true), .one (.dat (.int .i64) true), .one (.dat (.int .i64) true), .und, .und, .und, .und, .und, .und, .und, .und, .und]
@[reducible] noncomputable def gs117_0 : List (Nat × GP) := []
noncomputable def t117_0 (v : (StT ss117_0 gs117_0)) {R : Type} (κ : Nat × (StT ss117_0 gs117_0) → Option R) : Option R := cond (decide (v.2.2.2.2.1 < v.2.2.2.1)) (if 0 ≤ v.2.2.2.2.1 then (optC ((v.2.2.1)[(v.2.2.2.2.1).toNat]?) (fun x1 => cond (d133 x1) (κ (0, (v.1, IntKind.wrap .i64 (v.2.1 + (v133 x1)), v.2.2.1, v.2.2.2.1, IntKind.wrap .i64 (v.2.2.2.2.1 + (1 : Int)), ()))) (none))) else none) (κ (1, (v.1, v.2.1, v.2.2.1, v.2.2.2.1, v.2.2.2.2.1, ())))
noncomputable def s117_0 (v : (StT ss117_0 gs117_0)) : Option (Nat × (StT ss117_0 gs117_0)) := t117_0 v some
noncomputable def n117_0 (v : (StT ss117_0 gs117_0)) : Nat := v.1.toNat + v.2.1.toNat + v.2.2.1.length + v.2.2.2.1.toNat + v.2.2.2.2.1.toNat + 100
noncomputable def k117_0 (x0 : Int) (x1 : Int) (x2 : List (Ty.T y97)) (x3 : Int) (x4 : Int) (c : Nat) : Bool := iterAt s117_0 (n117_0 (x0, x1, x2, x3, x4, ())) (x0, x1, x2, x3, x4, ()) c
noncomputable def w117_0 (x0 : Int) (x1 : Int) (x2 : List (Ty.T y97)) (x3 : Int) (x4 : Int) : (StT ss117_0 gs117_0) := iterV s117_0 (n117_0 (x0, x1, x2, x3, x4, ())) (x0, x1, x2, x3, x4, ())
noncomputable def F117_0 (v : (StT ss117_0 gs117_0)) : Ways (Ex × St) := waysOf s117_0 (n117_0 v) v (bldSt ss117_0 gs117_0) [.exit 0] 0
theorem wf117_0 : wfSt ss117_0 gs117_0 := wf_of (by kernel_rfl)
theorem l117_0 : LoopOk Try.prog (loopAt [true, true, false, true] (bodyOf Try.f117)) ss117_0 gs117_0 F117_0 := loopOk_iter (lt := .none) (m := [false, false, true, true, false, false, true, true, true, false, false, false, false, false, false, false, false, false]) (keep := []) hE117 orders (LtOk.no _) fun n v K => Eq.trans (b := t117_0 v (kont _ _ _ _ _ _ K)) (by kernel_rfl) (show t117_0 v _ = (t117_0 v some).bind _ from (bnd_cond (bnd_ite (bnd_opt fun x1 => (bnd_cond rfl rfl))) rfl))
noncomputable def E117l : Env := { ti := ti, fn := fns, prim := [(133, p133)], lt := [(117, (ltPut [true, true, false, true] (bodyOf Try.f117) .none (.sum ss117_0 gs117_0 F117_0)))] }
theorem hE117l : Env.Ok Try.prog E117l := Env.Ok.of tiOk fnOk (mem_cons ok133 <| mem_nil) (mem_cons (ltOk_of Try.func117 (LtOk.put wf117_0 (LtOk.no _) l117_0)) mem_nil)
noncomputable def f117 (r : Int) : AV × Sig := (.one (.int .i64 r), [])
noncomputable def u117 (a0 : List (Ty.T y97)) : Option (AV × Sig) := cond (k117_0 0 0 a0 ((a0).length : Int) 0 0) (some (.one (.int .i64 ((w117_0 0 0 a0 ((a0).length : Int) 0).2.1)), [])) (none)
noncomputable def v117 (a0 : List (Ty.T y97)) : Int := cond (k117_0 0 0 a0 ((a0).length : Int) 0 0) ((w117_0 0 0 a0 ((a0).length : Int) 0).2.1) (0)
noncomputable def d117 (a0 : List (Ty.T y97)) : Bool := cond (k117_0 0 0 a0 ((a0).length : Int) 0 0) (true) (false)
theorem o117 (a0 : List (Ty.T y97)) : u117 a0 = cond (d117 a0) (some (f117 (v117 a0))) none := (par_cond (par_some _) (par_none _))
noncomputable def p117 : Prim := ⟨[.one (.dat (.sl 98 y97) true)], fun v => .br (d117 v.1) (.done (f117 (v117 v.1))) .no⟩
theorem ok117 : PrimOk Try.prog 117 p117 := primOk_eq hE117l orders fun v => Eq.trans (b := u117 v.1) (by kernel_rfl) (o117 v.1)
/-! ### impl.StoppedOf -/
noncomputable def E118 : Env := { ti := ti, fn := fns, prim := [(105, p105)] }
theorem hE118 : Env.Ok Try.prog E118 := Env.Ok.of tiOk fnOk (mem_cons ok105 <| mem_nil) mem_nil
@[reducible] noncomputable def ss118_0 : List SP := [.und, .und, .one (.dat (.int .i64) true), .one (.dat (.int .i64) true), .und, .und, .one (.dat (.sl 98 y97) true), .one (.dat (.int .i64) true), .one (.dat (.int .i64) true), .und, .und, .und, .und, .und, .und, .und, .und, .und, .und]
@[reducible] noncomputable def gs118_0 : List (Nat × GP) := []
noncomputable def t118_0 (v : (StT ss118_0 gs118_0)) {R : Type} (κ : Nat × (StT ss118_0 gs118_0) → Option R) : Option R := cond (decide (v.2.2.2.2.1 < v.2.2.2.1)) (if 0 ≤ v.2.2.2.2.1 then (optC ((v.2.2.1)[(v.2.2.2.2.1).toNat]?) (fun x1 => κ (0, (v.1, IntKind.wrap .i64 (v.2.1 + (v105 x1.2.2.2.2.2.2.1 2147483647)), v.2.2.1, v.2.2.2.1, IntKind.wrap .i64 (v.2.2.2.2.1 + (1 : Int)), ())))) else none) (κ (1, (v.1, v.2.1, v.2.2.1, v.2.2.2.1, v.2.2.2.2.1, ())))
noncomputable def s118_0 (v : (StT ss118_0 gs118_0)) : Option (Nat × (StT ss118_0 gs118_0)) := t118_0 v some
noncomputable def n118_0 (v : (StT ss118_0 gs118_0)) : Nat := v.1.toNat + v.2.1.toNat + v.2.2.1.length + v.2.2.2.1.toNat + v.2.2.2.2.1.toNat + 100
noncomputable def k118_0 (x0 : Int) (x1 : Int) (x2 : List (Ty.T y97)) (x3 : Int) (x4 : Int) (c : Nat) : Bool := iterAt s118_0 (n118_0 (x0, x1, x2, x3, x4, ())) (x0, x1, x2, x3, x4, ()) c
noncomputable def w118_0 (x0 : Int) (x1 : Int) (x2 : List (Ty.T y97)) (x3 : Int) (x4 : Int) : (StT ss118_0 gs118_0) := iterV s118_0 (n118_0 (x0, x1, x2, x3, x4, ())) (x0, x1, x2, x3, x4, ())
noncomputable def F118_0 (v : (StT ss118_0 gs118_0)) : Ways (Ex × St) := waysOf s118_0 (n118_0 v) v (bldSt ss118_0 gs118_0) [.exit 0] 0
theorem wf118_0 : wfSt ss118_0 gs118_0 := wf_of (by kernel_rfl)
theorem l118_0 : LoopOk Try.prog (loopAt [true, true, false, true] (bodyOf Try.f118)) ss118_0 gs118_0 F118_0 := loopOk_iter (lt := .none) (m := [false, false, true, true, false, false, true, true, true, false, false, false, false, false, false, false, false, false, false]) (keep := []) hE118 orders (LtOk.no _) fun n v K => Eq.trans (b := t118_0 v (kont _ _ _ _ _ _ K)) (by kernel_rfl) (show t118_0 v _ = (t118_0 v some).bind _ from (bnd_cond (bnd_ite (bnd_opt fun x1 => rfl)) rfl))
noncomputable def E118l : Env := { ti := ti, fn := fns, prim := [(105, p105)], lt := [(118, (ltPut [true, true, false, true] (bodyOf Try.f118) .none (.sum ss118_0 gs118_0 F118_0)))] }
theorem hE118l : Env.Ok Try.prog E118l := Env.Ok.of tiOk fnOk (mem_cons ok105 <| mem_nil) (mem_cons (ltOk_of Try.func118 (LtOk.put wf118_0 (LtOk.no _) l118_0)) mem_nil)
noncomputable def f118 (r : Int) : AV × Sig := (.one (.int .i64 r), [])
noncomputable def u118 (a0 : List (Ty.T y97)) : Option (AV × Sig) := cond (k118_0 0 0 a0 ((a0).length : Int) 0 0) (some (.one (.int .i64 ((w118_0 0 0 a0 ((a0).length : Int) 0).2.1)), [])) (none)
noncomputable def v118 (a0 : List (Ty.T y97)) : Int := cond (k118_0 0 0 a0 ((a0).length : Int) 0 0) ((w118_0 0 0 a0 ((a0).length : Int) 0).2.1) (0)
noncomputable def d118 (a0 : List (Ty.T y97)) : Bool := cond (k118_0 0 0 a0 ((a0).length : Int) 0 0) (true) (false)
theorem o118 (a0 : List (Ty.T y97)) : u118 a0 = cond (d118 a0) (some (f118 (v118 a0))) none := (par_cond (par_some _) (par_none _))
noncomputable def p118 : Prim := ⟨[.one (.dat (.sl 98 y97) true)], fun v => .br (d118 v.1) (.done (f118 (v118 v.1))) .no⟩
theorem ok118 : PrimOk Try.prog 118 p118 := primOk_eq hE118l orders fun v => Eq.trans (b := u118 v.1) (by kernel_rfl) (o118 v.1)
/-! ### impl.Balanced -/
noncomputable def E69 : Env := { ti := ti, fn := fns, prim := [(116, p116), (117, p117), (118, p118), (119, p119)] }
theorem hE69 : Env.Ok Try.prog E69 := Env.Ok.of tiOk fnOk (mem_cons ok116 <| mem_cons ok117 <| mem_cons ok118 <| mem_cons ok119 <| mem_nil) mem_nil
noncomputable def f69 (r : Bool) : AV × Sig := (.one (.bool r), [])
noncomputable def u69 (a0 : List (Ty.T y33)) (a1 : Ty.T y117) : Option (AV × Sig) := cond (d116 a0) (cond (d117 a1.2.2.2) (cond (d118 a1.2.2.2) (cond (d119 a1.1) (some (.one (.bool ((IntKind.wrap .i64 ((IntKind.wrap .i64 ((v116 a0) + (v117 a1.2.2.2))) - (v118 a1.2.2.2))) == (v119 a1.1))), [])) (none)) (none)) (none)) (none)
noncomputable def v69 (a0 : List (Ty.T y33)) (a1 : Ty.T y117) : Bool := cond (d116 a0) (cond (d117 a1.2.2.2) (cond (d118 a1.2.2.2) (cond (d119 a1.1) (((IntKind.wrap .i64 ((IntKind.wrap .i64 ((v116 a0) + (v117 a1.2.2.2))) - (v118 a1.2.2.2))) == (v119 a1.1))) (false)) (false)) (false)) (false)
noncomputable def d69 (a0 : List (Ty.T y33)) (a1 : Ty.T y117) : Bool := cond (d116 a0) (cond (d117 a1.2.2.2) (cond (d118 a1.2.2.2) (cond (d119 a1.1) (true) (false)) (false)) (false)) (false)
theorem o69 (a0 : List (Ty.T y33)) (a1 : Ty.T y117) : u69 a0 a1 = cond (d69 a0 a1) (some (f69 (v69 a0 a1))) none := (par_cond (par_cond (par_cond (par_cond (par_some _) (par_none _)) (par_none _)) (par_none _)) (par_none _))
noncomputable def p69 : Prim := ⟨[.one (.dat (.sl 40 y33) true), .agg [.dat y117 true]], fun v => .br (d69 v.1 v.2.1) (.done (f69 (v69 v.1 v.2.1))) .no⟩
theorem ok69 : PrimOk Try.prog 69 p69 := primOk_eq hE69 orders fun v => Eq.trans (b := u69 v.1 v.2.1) (by kernel_rfl) (o69 v.1 v.2.1)
/-! ### laws.FnExactBalanced -/
noncomputable def E13 : Env := { ti := ti, fn := fns, prim := [(58, p58), (61, p61), (63, p63), (66, p66), (67, p67), (68, p68), (69, p69), (70, p70)] }
theorem hE13 : Env.Ok Try.prog E13 := Env.Ok.of tiOk fnOk (mem_cons ok58 <| mem_cons ok61 <| mem_cons ok63 <| mem_cons ok66 <| mem_cons ok67 <| mem_cons ok68 <| mem_cons ok69 <| mem_cons ok70 <| mem_nil) mem_nil
noncomputable def f13 (r : Bool) : AV × Sig := (.one (.bool r), [])
noncomputable def u13 (a0 : List (Ty.T y33)) (a1 : Ty.T y112) : Option (AV × Sig) := cond (decide ((v66 a0 1048576) < (0 : Int))) (some (.one (.bool true), [])) (cond (d58 a1 (v66 a0 1048576)) (cond (decide ((v58 a1 (v66 a0 1048576)) < (0 : Int))) (some (.one (.bool true), [])) (cond (d68 a0) (cond (d61 a1) (cond (d67 (v68 a0) (v61 a1)) (cond (d68 a0) (cond (d61 a1) (cond (d69 (v68 a0) (v61 a1)) (cond (!((v69 (v68 a0) (v61 a1)) == (v67 (v68 a0) (v61 a1)))) (some (.one (.bool false), [])) (cond (d68 a0) (cond (d70 (v68 a0) (v68 a0)) (cond (!(v70 (v68 a0) (v68 a0))) (some (.one (.bool false), [])) (cond (d61 a1) (cond (d63 (v61 a1) (v61 a1)) (cond (!(v63 (v61 a1) (v61 a1))) (some (.one (.bool false), [])) (some (.one (.bool true), []))) (none)) (none))) (none)) (none))) (none)) (none)) (none)) (none)) (none)) (none))) (none))
noncomputable def v13 (a0 : List (Ty.T y33)) (a1 : Ty.T y112) : Bool := cond (decide ((v66 a0 1048576) < (0 : Int))) (true) (cond (d58 a1 (v66 a0 1048576)) (cond (decide ((v58 a1 (v66 a0 1048576)) < (0 : Int))) (true) (cond (d68 a0) (cond (d61 a1) (cond (d67 (v68 a0) (v61 a1)) (cond (d68 a0) (cond (d61 a1) (cond (d69 (v68 a0) (v61 a1)) (cond (!((v69 (v68 a0) (v61 a1)) == (v67 (v68 a0) (v61 a1)))) (false) (cond (d68 a0) (cond (d70 (v68 a0) (v68 a0)) (cond (!(v70 (v68 a0) (v68 a0))) (false) (cond (d61 a1) (cond (d63 (v61 a1) (v61 a1)) (cond (!(v63 (v61 a1) (v61 a1))) (false) (true)) (false)) (false))) (false)) (false))) (false)) (false)) (false)) (false)) (false)) (false))) (false))
noncomputable def d13 (a0 : List (Ty.T y33)) (a1 : Ty.T y112) : Bool := cond (decide ((v66 a0 1048576) < (0 : Int))) (true) (cond (d58 a1 (v66 a0 1048576)) (cond (decide ((v58 a1 (v66 a0 1048576)) < (0 : Int))) (true) (cond (d68 a0) (cond (d61 a1) (cond (d67 (v68 a0) (v61 a1)) (cond (d68 a0) (cond (d61 a1) (cond (d69 (v68 a0) (v61 a1)) (cond (!((v69 (v68 a0) (v61 a1)) == (v67 (v68 a0) (v61 a1)))) (true) (cond (d68 a0) (cond (d70 (v68 a0) (v68 a0)) (cond (!(v70 (v68 a0) (v68 a0))) (true) (cond (d61 a1) (cond (d63 (v61 a1) (v61 a1)) (cond (!(v63 (v61 a1) (v61 a1))) (true) (true)) (false)) (false))) (false)) (false))) (false)) (false)) (false)) (false)) (false)) (false))) (false))
theorem o13 (a0 : List (Ty.T y33)) (a1 : Ty.T y112) : u13 a0 a1 = cond (d13 a0 a1) (some (f13 (v13 a0 a1))) none := (par_cond (par_some _) (par_cond (par_cond (par_some _) (par_cond (par_cond (par_cond (par_cond (par_cond (par_cond (par_cond (par_some _) (par_cond (par_cond (par_cond (par_some _) (par_cond (par_cond (par_cond (par_some _) (par_some _)) (par_none _)) (par_none _))) (par_none _)) (par_none _))) (par_none _)) (par_none _)) (par_none _)) (par_none _)) (par_none _)) (par_none _))) (par_none _)))
noncomputable def p13 : Prim := ⟨[.one (.dat (.sl 34 y33) true), .agg [.dat y112 true]], fun v => .br (d13 v.1 v.2.1) (.done (f13 (v13 v.1 v.2.1))) .no⟩
theorem ok13 : PrimOk Try.prog 13 p13 := primOk_eq hE13 orders fun v => Eq.trans (b := u13 v.1 v.2.1) (by kernel_rfl) (o13 v.1 v.2.1)
end Go.Proofs.Ytnbmifoebaoemaa.Vm
