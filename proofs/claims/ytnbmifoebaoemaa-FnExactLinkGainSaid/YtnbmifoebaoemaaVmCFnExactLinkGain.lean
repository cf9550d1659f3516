/- Contracts. No condition. -/
import Derived.Test.YtnbmifoebaoemaaVmT
import Derived.Test.YtnbmifoebaoemaaVmLibTwo
namespace Go.Proofs.Ytnbmifoebaoemaa.Vm
open Go Go.Proofs.Ytnbmifoebaoemaa.Lib
set_option maxRecDepth 100000
set_option linter.unusedVariables false
/-! ### laws.szPieceS -/
noncomputable def E96 : Env := { ti := ti, fn := fns, prim := [], eqt := eqts }
theorem hE96 : Env.Ok Try.prog E96 := Env.Ok.of tiOk fnOk (mem_nil) mem_nil (mem_nil) eqtOk
noncomputable def f96 (r : Int) : AV × Sig := (.one (.int .i64 r), [])
noncomputable def u96 (a0 : List (Ty.T y35)) (a1 : Int) : Option (AV × Sig) := cond (decide ((IntKind.wrap .i64 (a1 - ((a0).length : Int))) < (0 : Int))) (some (.one (.int .i64 (-1)), [])) (some (.one (.int .i64 (IntKind.wrap .i64 (a1 - ((a0).length : Int)))), []))
noncomputable def v96 (a0 : List (Ty.T y35)) (a1 : Int) : Int := cond (decide ((IntKind.wrap .i64 (a1 - ((a0).length : Int))) < (0 : Int))) ((-1)) (IntKind.wrap .i64 (a1 - ((a0).length : Int)))
theorem o96 (a0 : List (Ty.T y35)) (a1 : Int) : u96 a0 a1 = some (f96 (v96 a0 a1)) := (tot_cond rfl rfl)
noncomputable def p96 : Prim := ⟨[.one (.dat (.sl 36 y35) true), .one (.dat (.int .i64) true)], fun v => .done (f96 (v96 v.1 v.2.1))⟩
theorem ok96 : PrimOk Try.prog 96 p96 := primOk_eq hE96 orders fun v => Eq.trans (b := u96 v.1 v.2.1) (by kernel_rfl) (o96 v.1 v.2.1)
/-! ### laws.szSideS -/
noncomputable def E97 : Env := { ti := ti, fn := fns, prim := [], eqt := eqts }
theorem hE97 : Env.Ok Try.prog E97 := Env.Ok.of tiOk fnOk (mem_nil) mem_nil (mem_nil) eqtOk
noncomputable def f97 (r : Int) : AV × Sig := (.one (.int .i64 r), [])
noncomputable def u97 (a0 : List (Ty.T y163)) (a1 : Int) : Option (AV × Sig) := cond (decide ((IntKind.wrap .i64 (a1 - ((a0).length : Int))) < (0 : Int))) (some (.one (.int .i64 (-1)), [])) (some (.one (.int .i64 (IntKind.wrap .i64 (a1 - ((a0).length : Int)))), []))
noncomputable def v97 (a0 : List (Ty.T y163)) (a1 : Int) : Int := cond (decide ((IntKind.wrap .i64 (a1 - ((a0).length : Int))) < (0 : Int))) ((-1)) (IntKind.wrap .i64 (a1 - ((a0).length : Int)))
theorem o97 (a0 : List (Ty.T y163)) (a1 : Int) : u97 a0 a1 = some (f97 (v97 a0 a1)) := (tot_cond rfl rfl)
noncomputable def p97 : Prim := ⟨[.one (.dat (.sl 166 y163) true), .one (.dat (.int .i64) true)], fun v => .done (f97 (v97 v.1 v.2.1))⟩
theorem ok97 : PrimOk Try.prog 97 p97 := primOk_eq hE97 orders fun v => Eq.trans (b := u97 v.1 v.2.1) (by kernel_rfl) (o97 v.1 v.2.1)
/-! ### laws.szState -/
noncomputable def E39 : Env := { ti := ti, fn := fns, prim := [(96, p96), (97, p97)], eqt := eqts }
theorem hE39 : Env.Ok Try.prog E39 := Env.Ok.of tiOk fnOk (mem_cons ok96 <| mem_cons ok97 <| mem_nil) mem_nil (mem_nil) eqtOk
noncomputable def f39 (r : Int) : AV × Sig := (.one (.int .i64 r), [])
noncomputable def u39 (a0 : Ty.T y77) (a1 : Int) : Option (AV × Sig) := cond (decide ((v96 a0.1 a1) < (0 : Int))) (some (.one (.int .i64 (-1)), [])) (cond (decide ((v97 a0.2.1 (v96 a0.1 a1)) < (0 : Int))) (some (.one (.int .i64 (-1)), [])) (some (.one (.int .i64 (v97 a0.2.1 (v96 a0.1 a1))), [])))
noncomputable def v39 (a0 : Ty.T y77) (a1 : Int) : Int := cond (decide ((v96 a0.1 a1) < (0 : Int))) ((-1)) (cond (decide ((v97 a0.2.1 (v96 a0.1 a1)) < (0 : Int))) ((-1)) ((v97 a0.2.1 (v96 a0.1 a1))))
theorem o39 (a0 : Ty.T y77) (a1 : Int) : u39 a0 a1 = some (f39 (v39 a0 a1)) := (tot_cond rfl (tot_cond rfl rfl))
noncomputable def p39 : Prim := ⟨[.agg [.dat y77 true], .one (.dat (.int .i64) true)], fun v => .done (f39 (v39 v.1 v.2.1))⟩
theorem ok39 : PrimOk Try.prog 39 p39 := primOk_eq hE39 orders fun v => Eq.trans (b := u39 v.1 v.2.1) (by kernel_rfl) (o39 v.1 v.2.1)
/-! ### laws.szNoteS -/
noncomputable def E40 : Env := { ti := ti, fn := fns, prim := [], eqt := eqts }
theorem hE40 : Env.Ok Try.prog E40 := Env.Ok.of tiOk fnOk (mem_nil) mem_nil (mem_nil) eqtOk
noncomputable def f40 (r : Int) : AV × Sig := (.one (.int .i64 r), [])
noncomputable def u40 (a0 : List (Ty.T y37)) (a1 : Int) : Option (AV × Sig) := cond (decide ((IntKind.wrap .i64 (a1 - ((a0).length : Int))) < (0 : Int))) (some (.one (.int .i64 (-1)), [])) (some (.one (.int .i64 (IntKind.wrap .i64 (a1 - ((a0).length : Int)))), []))
noncomputable def v40 (a0 : List (Ty.T y37)) (a1 : Int) : Int := cond (decide ((IntKind.wrap .i64 (a1 - ((a0).length : Int))) < (0 : Int))) ((-1)) (IntKind.wrap .i64 (a1 - ((a0).length : Int)))
theorem o40 (a0 : List (Ty.T y37)) (a1 : Int) : u40 a0 a1 = some (f40 (v40 a0 a1)) := (tot_cond rfl rfl)
noncomputable def p40 : Prim := ⟨[.one (.dat (.sl 38 y37) true), .one (.dat (.int .i64) true)], fun v => .done (f40 (v40 v.1 v.2.1))⟩
theorem ok40 : PrimOk Try.prog 40 p40 := primOk_eq hE40 orders fun v => Eq.trans (b := u40 v.1 v.2.1) (by kernel_rfl) (o40 v.1 v.2.1)
/-! ### spec.PieceAt -/
noncomputable def E124 : Env := { ti := ti, fn := fns, prim := [], eqt := eqts }
theorem hE124 : Env.Ok Try.prog E124 := Env.Ok.of tiOk fnOk (mem_nil) mem_nil (mem_nil) eqtOk
@[reducible] noncomputable def ss124_0 : List SP := [.und, .one (.dat (.int .i64) true), .one (.ptr 2 0), .und, .one (.dat (.int .i64) true), .one (.dat (.int .i64) true), .und, .und, .und, .und, .und, .und, .und, .und, .und, .und, .und, .und, .und, .und, .und, .und]
@[reducible] noncomputable def gs124_0 : List (Nat × GP) := [(2, .box 86 [.dat y85 true])]
noncomputable def t124_0 (v : (StT ss124_0 gs124_0)) {R : Type} (κ : Nat × (StT ss124_0 gs124_0) → Option R) : Option R := cond (decide (v.2.2.1 < ((v.2.2.2.1.1).length : Int))) (if 0 ≤ v.2.2.1 then (optC ((v.2.2.2.1.1)[(v.2.2.1).toNat]?) (fun x1 => cond (x1.1 == v.1) (κ (1, (v.1, v.2.2.1, v.2.2.1, v.2.2.2.1, ()))) (κ (0, (v.1, v.2.1, IntKind.wrap .i64 (v.2.2.1 + (1 : Int)), v.2.2.2.1, ()))))) else none) (κ (2, (v.1, v.2.1, v.2.2.1, v.2.2.2.1, ())))
noncomputable def s124_0 (v : (StT ss124_0 gs124_0)) : Option (Nat × (StT ss124_0 gs124_0)) := t124_0 v some
noncomputable def n124_0 (v : (StT ss124_0 gs124_0)) : Nat := v.1.toNat + v.2.1.toNat + v.2.2.1.toNat + v.2.2.2.1.1.length + v.2.2.2.1.2.1.length + 100
noncomputable def k124_0 (x0 : Int) (x1 : Int) (x2 : Int) (x3 : Ty.T y85) (c : Nat) : Bool := iterAt s124_0 (n124_0 (x0, x1, x2, x3, ())) (x0, x1, x2, x3, ()) c
noncomputable def w124_0 (x0 : Int) (x1 : Int) (x2 : Int) (x3 : Ty.T y85) : (StT ss124_0 gs124_0) := iterV s124_0 (n124_0 (x0, x1, x2, x3, ())) (x0, x1, x2, x3, ())
noncomputable def F124_0 (v : (StT ss124_0 gs124_0)) : Ways (Ex × St) := waysOf s124_0 (n124_0 v) v (bldSt ss124_0 gs124_0) [.ret, .exit 0] 0
theorem wf124_0 : wfSt ss124_0 gs124_0 := wf_of (by kernel_rfl)
theorem l124_0 : LoopOk Try.prog (loopAt [true, false, true] (bodyOf Try.f124)) ss124_0 gs124_0 F124_0 := loopOk_iter (lt := .none) (m := [false, true, true, false, true, true, false, false, false, false, false, false, false, false, false, false, false, false, false, false, false, false]) (keep := [2]) hE124 orders (LtOk.no _) fun n v K => Eq.trans (b := t124_0 v (kont _ _ _ _ _ _ K)) (by kernel_rfl) (show t124_0 v _ = (t124_0 v some).bind _ from (bnd_cond (bnd_ite (bnd_opt fun x1 => (bnd_cond rfl rfl))) rfl))
noncomputable def E124l : Env := { ti := ti, fn := fns, prim := [], eqt := eqts, lt := [(124, (ltPut [true, false, true] (bodyOf Try.f124) .none (.sum ss124_0 gs124_0 F124_0)))] }
theorem hE124l : Env.Ok Try.prog E124l := Env.Ok.of tiOk fnOk (mem_nil) (mem_cons (ltOk_of Try.func124 (LtOk.put wf124_0 (LtOk.no _) l124_0)) mem_nil) (mem_nil) eqtOk
noncomputable def f124 (r : Int) : AV × Sig := (.one (.int .i64 r), [])
noncomputable def u124 (a0 : Ty.T y85) (a1 : Int) : Option (AV × Sig) := cond (k124_0 a1 0 0 a0 0) (some (.one (.int .i64 (w124_0 a1 0 0 a0).2.1), [])) (cond (k124_0 a1 0 0 a0 1) (some (.one (.int .i64 (-1)), [])) (none))
noncomputable def v124 (a0 : Ty.T y85) (a1 : Int) : Int := cond (k124_0 a1 0 0 a0 0) ((w124_0 a1 0 0 a0).2.1) (cond (k124_0 a1 0 0 a0 1) ((-1)) (0))
noncomputable def d124 (a0 : Ty.T y85) (a1 : Int) : Bool := cond (k124_0 a1 0 0 a0 0) (true) (cond (k124_0 a1 0 0 a0 1) (true) (false))
theorem o124 (a0 : Ty.T y85) (a1 : Int) : u124 a0 a1 = cond (d124 a0 a1) (some (f124 (v124 a0 a1))) none := (par_cond (par_some _) (par_cond (par_some _) (par_none _)))
noncomputable def p124 : Prim := ⟨[.agg [.dat y85 true], .one (.dat (.int .i64) true)], fun v => .br (d124 v.1 v.2.1) (.done (f124 (v124 v.1 v.2.1))) .no⟩
theorem ok124 : PrimOk Try.prog 124 p124 := primOk_eq hE124l orders fun v => Eq.trans (b := u124 v.1 v.2.1) (by kernel_rfl) (o124 v.1 v.2.1)
/-! ### spec.Source -/
noncomputable def E98 : Env := { ti := ti, fn := fns, prim := [(124, p124)], eqt := eqts }
theorem hE98 : Env.Ok Try.prog E98 := Env.Ok.of tiOk fnOk (mem_cons ok124 <| mem_nil) mem_nil (mem_nil) eqtOk
noncomputable def f98 (r : (Ty.T y35)) : AV × Sig := (.agg (y35.cells false r), [])
noncomputable def u98 (a0 : Ty.T y85) (a1 : Ty.T y33) : Option (AV × Sig) := cond (d124 a0 a1.2.1) (cond (a1.1 != (1 : Int)) (some (.agg [.int .i64 0, .int .i64 0, .int .i64 0, .int .i64 0, .int .i64 0, .int .i64 0, .int .i64 0, .int .i64 0, .int .i64 0, .int .i64 0, .int .i64 0, .bool false, .bool false], [])) (cond (decide ((v124 a0 a1.2.1) < (0 : Int))) (some (.agg [.int .i64 0, .int .i64 0, .int .i64 0, .int .i64 0, .int .i64 0, .int .i64 0, .int .i64 0, .int .i64 0, .int .i64 0, .int .i64 0, .int .i64 0, .bool false, .bool false], [])) (if 0 ≤ (v124 a0 a1.2.1) then (optC ((a0.1)[(v124 a0 a1.2.1).toNat]?) (fun x1 => some (.agg [.int .i64 x1.1, .int .i64 x1.2.1, .int .i64 x1.2.2.1, .int .i64 x1.2.2.2.1, .int .i64 x1.2.2.2.2.1, .int .i64 x1.2.2.2.2.2.1, .int .i64 x1.2.2.2.2.2.2.1, .int .i64 x1.2.2.2.2.2.2.2.1, .int .i64 x1.2.2.2.2.2.2.2.2.1, .int .i64 x1.2.2.2.2.2.2.2.2.2.1, .int .i64 x1.2.2.2.2.2.2.2.2.2.2.1, .bool x1.2.2.2.2.2.2.2.2.2.2.2.1, .bool x1.2.2.2.2.2.2.2.2.2.2.2.2], []))) else none))) (none)
noncomputable def v98 (a0 : Ty.T y85) (a1 : Ty.T y33) : (Ty.T y35) := cond (d124 a0 a1.2.1) (cond (a1.1 != (1 : Int)) ((0, (0, (0, (0, (0, (0, (0, (0, (0, (0, (0, (false, false))))))))))))) (cond (decide ((v124 a0 a1.2.1) < (0 : Int))) ((0, (0, (0, (0, (0, (0, (0, (0, (0, (0, (0, (false, false))))))))))))) (optV ((a0.1)[(v124 a0 a1.2.1).toNat]?) (0, (0, (0, (0, (0, (0, (0, (0, (0, (0, (0, (false, false)))))))))))) (fun x1 => x1)))) ((0, (0, (0, (0, (0, (0, (0, (0, (0, (0, (0, (false, false)))))))))))))
noncomputable def d98 (a0 : Ty.T y85) (a1 : Ty.T y33) : Bool := cond (d124 a0 a1.2.1) (cond (a1.1 != (1 : Int)) (true) (cond (decide ((v124 a0 a1.2.1) < (0 : Int))) (true) (decide (0 ≤ (v124 a0 a1.2.1)) && (optD ((a0.1)[(v124 a0 a1.2.1).toNat]?) (fun x1 => true))))) (false)
theorem o98 (a0 : Ty.T y85) (a1 : Ty.T y33) : u98 a0 a1 = cond (d98 a0 a1) (some (f98 (v98 a0 a1))) none := (par_cond (par_cond (par_some _) (par_cond (par_some _) (par_ite (par_opt fun x1 => (par_some _))))) (par_none _))
noncomputable def p98 : Prim := ⟨[.agg [.dat y85 true], .agg [.dat y33 true]], fun v => .br (d98 v.1 v.2.1) (.done (f98 (v98 v.1 v.2.1))) .no⟩
theorem ok98 : PrimOk Try.prog 98 p98 := primOk_eq hE98 orders fun v => Eq.trans (b := u98 v.1 v.2.1) (by kernel_rfl) (o98 v.1 v.2.1)
/-! ### spec.HasTrait -/
noncomputable def E99 : Env := { ti := ti, fn := fns, prim := [], eqt := eqts }
theorem hE99 : Env.Ok Try.prog E99 := Env.Ok.of tiOk fnOk (mem_nil) mem_nil (mem_nil) eqtOk
noncomputable def f99 (r : Bool) : AV × Sig := (.one (.bool r), [])
noncomputable def u99 (a0 : Ty.T y35) (a1 : Int) : Option (AV × Sig) := cond (a1 == (1 : Int)) (some (.one (.bool ((IntKind.wrap .i64 ((BitVec.ofInt (IntKind.bits .i64) a0.2.2.2.2.2.2.2.1 &&& BitVec.ofInt (IntKind.bits .i64) a1).toNat : Int)) != (0 : Int))), [])) (cond (a1 == (2 : Int)) (some (.one (.bool ((IntKind.wrap .i64 ((BitVec.ofInt (IntKind.bits .i64) a0.2.2.2.2.2.2.2.1 &&& BitVec.ofInt (IntKind.bits .i64) a1).toNat : Int)) != (0 : Int))), [])) (cond (a1 == (4 : Int)) (some (.one (.bool ((IntKind.wrap .i64 ((BitVec.ofInt (IntKind.bits .i64) a0.2.2.2.2.2.2.2.1 &&& BitVec.ofInt (IntKind.bits .i64) a1).toNat : Int)) != (0 : Int))), [])) (cond (a1 == (8 : Int)) (some (.one (.bool ((IntKind.wrap .i64 ((BitVec.ofInt (IntKind.bits .i64) a0.2.2.2.2.2.2.2.1 &&& BitVec.ofInt (IntKind.bits .i64) a1).toNat : Int)) != (0 : Int))), [])) (cond (a1 == (16 : Int)) (some (.one (.bool ((IntKind.wrap .i64 ((BitVec.ofInt (IntKind.bits .i64) a0.2.2.2.2.2.2.2.1 &&& BitVec.ofInt (IntKind.bits .i64) a1).toNat : Int)) != (0 : Int))), [])) (cond (a1 == (32 : Int)) (some (.one (.bool ((IntKind.wrap .i64 ((BitVec.ofInt (IntKind.bits .i64) a0.2.2.2.2.2.2.2.1 &&& BitVec.ofInt (IntKind.bits .i64) a1).toNat : Int)) != (0 : Int))), [])) (some (.one (.bool false), [])))))))
noncomputable def v99 (a0 : Ty.T y35) (a1 : Int) : Bool := cond (a1 == (1 : Int)) (((IntKind.wrap .i64 ((BitVec.ofInt (IntKind.bits .i64) a0.2.2.2.2.2.2.2.1 &&& BitVec.ofInt (IntKind.bits .i64) a1).toNat : Int)) != (0 : Int))) (cond (a1 == (2 : Int)) (((IntKind.wrap .i64 ((BitVec.ofInt (IntKind.bits .i64) a0.2.2.2.2.2.2.2.1 &&& BitVec.ofInt (IntKind.bits .i64) a1).toNat : Int)) != (0 : Int))) (cond (a1 == (4 : Int)) (((IntKind.wrap .i64 ((BitVec.ofInt (IntKind.bits .i64) a0.2.2.2.2.2.2.2.1 &&& BitVec.ofInt (IntKind.bits .i64) a1).toNat : Int)) != (0 : Int))) (cond (a1 == (8 : Int)) (((IntKind.wrap .i64 ((BitVec.ofInt (IntKind.bits .i64) a0.2.2.2.2.2.2.2.1 &&& BitVec.ofInt (IntKind.bits .i64) a1).toNat : Int)) != (0 : Int))) (cond (a1 == (16 : Int)) (((IntKind.wrap .i64 ((BitVec.ofInt (IntKind.bits .i64) a0.2.2.2.2.2.2.2.1 &&& BitVec.ofInt (IntKind.bits .i64) a1).toNat : Int)) != (0 : Int))) (cond (a1 == (32 : Int)) (((IntKind.wrap .i64 ((BitVec.ofInt (IntKind.bits .i64) a0.2.2.2.2.2.2.2.1 &&& BitVec.ofInt (IntKind.bits .i64) a1).toNat : Int)) != (0 : Int))) (false))))))
theorem o99 (a0 : Ty.T y35) (a1 : Int) : u99 a0 a1 = some (f99 (v99 a0 a1)) := (tot_cond rfl (tot_cond rfl (tot_cond rfl (tot_cond rfl (tot_cond rfl (tot_cond rfl rfl))))))
noncomputable def p99 : Prim := ⟨[.agg [.dat y35 true], .one (.dat (.int .i64) true)], fun v => .done (f99 (v99 v.1 v.2.1))⟩
theorem ok99 : PrimOk Try.prog 99 p99 := primOk_eq hE99 orders fun v => Eq.trans (b := u99 v.1 v.2.1) (by kernel_rfl) (o99 v.1 v.2.1)
/-! ### spec.Upto -/
noncomputable def E100 : Env := { ti := ti, fn := fns, prim := [], eqt := eqts }
theorem hE100 : Env.Ok Try.prog E100 := Env.Ok.of tiOk fnOk (mem_nil) mem_nil (mem_nil) eqtOk
noncomputable def f100 (r : Int) : AV × Sig := (.one (.int .i64 r), [])
noncomputable def u100 (a0 : Int) (a1 : Int) : Option (AV × Sig) := cond (decide (a1 < a0)) (cond (decide (a1 < (0 : Int))) (some (.one (.int .i64 0), [])) (some (.one (.int .i64 a1), []))) (cond (decide (a0 < (0 : Int))) (some (.one (.int .i64 0), [])) (some (.one (.int .i64 a0), [])))
noncomputable def v100 (a0 : Int) (a1 : Int) : Int := cond (decide (a1 < a0)) (cond (decide (a1 < (0 : Int))) (0) (a1)) (cond (decide (a0 < (0 : Int))) (0) (a0))
theorem o100 (a0 : Int) (a1 : Int) : u100 a0 a1 = some (f100 (v100 a0 a1)) := (tot_cond (tot_cond rfl rfl) (tot_cond rfl rfl))
noncomputable def p100 : Prim := ⟨[.one (.dat (.int .i64) true), .one (.dat (.int .i64) true)], fun v => .done (f100 (v100 v.1 v.2.1))⟩
theorem ok100 : PrimOk Try.prog 100 p100 := primOk_eq hE100 orders fun v => Eq.trans (b := u100 v.1 v.2.1) (by kernel_rfl) (o100 v.1 v.2.1)
/-! ### spec.LinkGain -/
noncomputable def E41 : Env := { ti := ti, fn := fns, prim := [(100, p100), (98, p98), (99, p99)], eqt := eqts }
theorem hE41 : Env.Ok Try.prog E41 := Env.Ok.of tiOk fnOk (mem_cons ok100 <| mem_cons ok98 <| mem_cons ok99 <| mem_nil) mem_nil (mem_nil) eqtOk
@[reducible] noncomputable def ss41_0 : List SP := [.und, .one (.dat (.sl 43 y37) true), .one (.dat (.int .i64) true), .one (.ptr 3 0), .und, .und, .one (.dat (.int .i64) true), .one (.dat (.int .i64) true), .one (.dat (.int .i64) true), .und, .und, .und, .und, .und, .und, .und, .und, .und, .und, .und, .und, .und, .und, .und, .und, .und, .und, .und, .und, .und, .und, .und, .und, .und, .und, .und, .und, .und, .und, .und, .und, .und, .und, .und, .und, .und, .und, .und]
@[reducible] noncomputable def gs41_0 : List (Nat × GP) := [(3, .box 86 [.dat y85 true])]
noncomputable def t41_0 (v : (StT ss41_0 gs41_0)) {R : Type} (κ : Nat × (StT ss41_0 gs41_0) → Option R) : Option R := cond (decide (v.2.2.2.2.1 < ((v.1).length : Int))) (if 0 ≤ v.2.2.2.2.1 then (optC ((v.1)[(v.2.2.2.2.1).toNat]?) (fun x1 => cond (d98 v.2.2.2.2.2.1 x1.2.1) (if 0 ≤ v.2.2.2.2.1 then (optC ((v.1)[(v.2.2.2.2.1).toNat]?) (fun x2 => cond (x2.1 == (1 : Int)) (cond (v99 (v98 v.2.2.2.2.2.1 x1.2.1) 1) (cond ((v98 v.2.2.2.2.2.1 x1.2.1).2.2.1 == v.2.1) (if 0 ≤ v.2.2.2.2.1 then (optC ((v.1)[(v.2.2.2.2.1).toNat]?) (fun x3 => κ (0, (v.1, v.2.1, v.2.2.1, IntKind.wrap .i64 (v.2.2.2.1 + (v100 x3.2.2.1 2147483647)), IntKind.wrap .i64 (v.2.2.2.2.1 + (1 : Int)), v.2.2.2.2.2.1, ())))) else none) (κ (0, (v.1, v.2.1, v.2.2.1, v.2.2.2.1, IntKind.wrap .i64 (v.2.2.2.2.1 + (1 : Int)), v.2.2.2.2.2.1, ())))) (κ (0, (v.1, v.2.1, v.2.2.1, v.2.2.2.1, IntKind.wrap .i64 (v.2.2.2.2.1 + (1 : Int)), v.2.2.2.2.2.1, ())))) (κ (0, (v.1, v.2.1, v.2.2.1, v.2.2.2.1, IntKind.wrap .i64 (v.2.2.2.2.1 + (1 : Int)), v.2.2.2.2.2.1, ()))))) else none) (none))) else none) (κ (1, (v.1, v.2.1, v.2.2.1, v.2.2.2.1, v.2.2.2.2.1, v.2.2.2.2.2.1, ())))
noncomputable def s41_0 (v : (StT ss41_0 gs41_0)) : Option (Nat × (StT ss41_0 gs41_0)) := t41_0 v some
noncomputable def n41_0 (v : (StT ss41_0 gs41_0)) : Nat := v.1.length + v.2.1.toNat + v.2.2.1.toNat + v.2.2.2.1.toNat + v.2.2.2.2.1.toNat + v.2.2.2.2.2.1.1.length + v.2.2.2.2.2.1.2.1.length + 100
noncomputable def k41_0 (x0 : List (Ty.T y37)) (x1 : Int) (x2 : Int) (x3 : Int) (x4 : Int) (x5 : Ty.T y85) (c : Nat) : Bool := iterAt s41_0 (n41_0 (x0, x1, x2, x3, x4, x5, ())) (x0, x1, x2, x3, x4, x5, ()) c
noncomputable def w41_0 (x0 : List (Ty.T y37)) (x1 : Int) (x2 : Int) (x3 : Int) (x4 : Int) (x5 : Ty.T y85) : (StT ss41_0 gs41_0) := iterV s41_0 (n41_0 (x0, x1, x2, x3, x4, x5, ())) (x0, x1, x2, x3, x4, x5, ())
noncomputable def F41_0 (v : (StT ss41_0 gs41_0)) : Ways (Ex × St) := waysOf s41_0 (n41_0 v) v (bldSt ss41_0 gs41_0) [.exit 0] 0
theorem wf41_0 : wfSt ss41_0 gs41_0 := wf_of (by kernel_rfl)
theorem l41_0 : LoopOk Try.prog (loopAt [true, true, false, true] (bodyOf Try.f41)) ss41_0 gs41_0 F41_0 := loopOk_iter (lt := .none) (m := [false, true, true, true, false, false, true, true, true, false, false, false, false, false, false, false, false, false, false, false, false, false, false, false, false, false, false, false, false, false, false, false, false, false, false, false, false, false, false, false, false, false, false, false, false, false, false, false]) (keep := [3]) hE41 orders (LtOk.no _) fun n v K => Eq.trans (b := t41_0 v (kont _ _ _ _ _ _ K)) (by kernel_rfl) (show t41_0 v _ = (t41_0 v some).bind _ from (bnd_cond (bnd_ite (bnd_opt fun x1 => (bnd_cond (bnd_ite (bnd_opt fun x2 => (bnd_cond (bnd_cond (bnd_cond (bnd_ite (bnd_opt fun x3 => rfl)) rfl) rfl) rfl))) rfl))) rfl))
noncomputable def E41l : Env := { ti := ti, fn := fns, prim := [(100, p100), (98, p98), (99, p99)], eqt := eqts, lt := [(41, (ltPut [true, true, false, true] (bodyOf Try.f41) .none (.sum ss41_0 gs41_0 F41_0)))] }
theorem hE41l : Env.Ok Try.prog E41l := Env.Ok.of tiOk fnOk (mem_cons ok100 <| mem_cons ok98 <| mem_cons ok99 <| mem_nil) (mem_cons (ltOk_of Try.func41 (LtOk.put wf41_0 (LtOk.no _) l41_0)) mem_nil) (mem_nil) eqtOk
noncomputable def f41 (r : Int) : AV × Sig := (.one (.int .i64 r), [])
noncomputable def u41 (a0 : Ty.T y85) (a1 : List (Ty.T y37)) (a2 : Int) : Option (AV × Sig) := cond (k41_0 a1 a2 0 0 0 a0 0) (some (.one (.int .i64 (w41_0 a1 a2 0 0 0 a0).2.2.2.1), [])) (none)
noncomputable def v41 (a0 : Ty.T y85) (a1 : List (Ty.T y37)) (a2 : Int) : Int := cond (k41_0 a1 a2 0 0 0 a0 0) ((w41_0 a1 a2 0 0 0 a0).2.2.2.1) (0)
noncomputable def d41 (a0 : Ty.T y85) (a1 : List (Ty.T y37)) (a2 : Int) : Bool := cond (k41_0 a1 a2 0 0 0 a0 0) (true) (false)
theorem o41 (a0 : Ty.T y85) (a1 : List (Ty.T y37)) (a2 : Int) : u41 a0 a1 a2 = cond (d41 a0 a1 a2) (some (f41 (v41 a0 a1 a2))) none := (par_cond (par_some _) (par_none _))
noncomputable def p41 : Prim := ⟨[.agg [.dat y85 true], .one (.dat (.sl 43 y37) true), .one (.dat (.int .i64) true)], fun v => .br (d41 v.1 v.2.1 v.2.2.1) (.done (f41 (v41 v.1 v.2.1 v.2.2.1))) .no⟩
theorem ok41 : PrimOk Try.prog 41 p41 := primOk_eq hE41l orders fun v => Eq.trans (b := u41 v.1 v.2.1 v.2.2.1) (by kernel_rfl) (o41 v.1 v.2.1 v.2.2.1)
/-! ### laws.toPiece -/
noncomputable def E75 : Env := { ti := ti, fn := fns, prim := [], eqt := eqts }
theorem hE75 : Env.Ok Try.prog E75 := Env.Ok.of tiOk fnOk (mem_nil) mem_nil (mem_nil) eqtOk
noncomputable def f75 (r : (Ty.T y35)) : AV × Sig := (.agg (y35.cells false r), [])
noncomputable def u75 (a0 : Ty.T y35) : Option (AV × Sig) := some (.agg [.int .i64 a0.1, .int .i64 a0.2.1, .int .i64 a0.2.2.1, .int .i64 a0.2.2.2.1, .int .i64 a0.2.2.2.2.1, .int .i64 a0.2.2.2.2.2.1, .int .i64 a0.2.2.2.2.2.2.1, .int .i64 a0.2.2.2.2.2.2.2.1, .int .i64 a0.2.2.2.2.2.2.2.2.1, .int .i64 a0.2.2.2.2.2.2.2.2.2.1, .int .i64 a0.2.2.2.2.2.2.2.2.2.2.1, .bool a0.2.2.2.2.2.2.2.2.2.2.2.1, .bool a0.2.2.2.2.2.2.2.2.2.2.2.2], [])
noncomputable def v75 (a0 : Ty.T y35) : (Ty.T y35) := a0
theorem o75 (a0 : Ty.T y35) : u75 a0 = some (f75 (v75 a0)) := rfl
noncomputable def p75 : Prim := ⟨[.agg [.dat y35 true]], fun v => .done (f75 (v75 v.1))⟩
theorem ok75 : PrimOk Try.prog 75 p75 := primOk_eq hE75 orders fun v => Eq.trans (b := u75 v.1) (by kernel_rfl) (o75 v.1)
/-! ### laws.toPieceS -/
noncomputable def E101 : Env := { ti := ti, fn := fns, prim := [(75, p75)], eqt := eqts }
theorem hE101 : Env.Ok Try.prog E101 := Env.Ok.of tiOk fnOk (mem_cons ok75 <| mem_nil) mem_nil (mem_nil) eqtOk
@[reducible] noncomputable def ss101_0 : List SP := [.one (.dat (.sl 36 y35) true), .und, .one (.dat (.sl 41 y35) false), .one (.own 7), .one (.dat (.int .i64) true), .und, .und, .und, .und, .und, .und, .und, .und, .und, .und, .und, .und, .und, .und, .und, .und, .und, .und]
@[reducible] noncomputable def gs101_0 : List (Nat × GP) := [(7, .arr 41 y35 false)]
noncomputable def t101_0 (v : (StT ss101_0 gs101_0)) {R : Type} (κ : Nat × (StT ss101_0 gs101_0) → Option R) : Option R := cond (decide (v.2.2.1 < ((v.1).length : Int))) (if 0 ≤ v.2.2.1 then (optC ((v.1)[(v.2.2.1).toNat]?) (fun x1 => if 0 ≤ v.2.2.1 then (if v.2.2.1 < ((v.2.2.2.1).length : Int) then (optC ((v.2.2.2.1)[(v.2.2.1).toNat]?) (fun x2 => κ (0, (v.1, v.2.1, IntKind.wrap .i64 (v.2.2.1 + (1 : Int)), v.2.2.2.1.set ((v.2.2.1).toNat) (v75 x1), ())))) else none) else none)) else none) (κ (1, (v.1, v.2.1, v.2.2.1, v.2.2.2.1, ())))
noncomputable def s101_0 (v : (StT ss101_0 gs101_0)) : Option (Nat × (StT ss101_0 gs101_0)) := t101_0 v some
noncomputable def n101_0 (v : (StT ss101_0 gs101_0)) : Nat := v.1.length + v.2.1.length + v.2.2.1.toNat + v.2.2.2.1.length + 100
noncomputable def k101_0 (x0 : List (Ty.T y35)) (x1 : List (Ty.T y35)) (x2 : Int) (x3 : List (Ty.T y35)) (c : Nat) : Bool := iterAt s101_0 (n101_0 (x0, x1, x2, x3, ())) (x0, x1, x2, x3, ()) c
noncomputable def w101_0 (x0 : List (Ty.T y35)) (x1 : List (Ty.T y35)) (x2 : Int) (x3 : List (Ty.T y35)) : (StT ss101_0 gs101_0) := iterV s101_0 (n101_0 (x0, x1, x2, x3, ())) (x0, x1, x2, x3, ())
noncomputable def F101_0 (v : (StT ss101_0 gs101_0)) : Ways (Ex × St) := waysOf s101_0 (n101_0 v) v (bldSt ss101_0 gs101_0) [.exit 0] 0
theorem wf101_0 : wfSt ss101_0 gs101_0 := wf_of (by kernel_rfl)
theorem l101_0 : LoopOk Try.prog (loopAt [true, true, false, true] (bodyOf Try.f101)) ss101_0 gs101_0 F101_0 := loopOk_iter (lt := .none) (m := [true, false, true, true, true, false, false, false, false, false, false, false, false, false, false, false, false, false, false, false, false, false, false]) (keep := [7]) hE101 orders (LtOk.no _) fun n v K => Eq.trans (b := t101_0 v (kont _ _ _ _ _ _ K)) (by kernel_rfl) (show t101_0 v _ = (t101_0 v some).bind _ from (bnd_cond (bnd_ite (bnd_opt fun x1 => (bnd_ite (bnd_ite (bnd_opt fun x2 => rfl))))) rfl))
noncomputable def E101l : Env := { ti := ti, fn := fns, prim := [(75, p75)], eqt := eqts, lt := [(101, (ltPut [true, true, false, true] (bodyOf Try.f101) .none (.sum ss101_0 gs101_0 F101_0)))] }
theorem hE101l : Env.Ok Try.prog E101l := Env.Ok.of tiOk fnOk (mem_cons ok75 <| mem_nil) (mem_cons (ltOk_of Try.func101 (LtOk.put wf101_0 (LtOk.no _) l101_0)) mem_nil) (mem_nil) eqtOk
noncomputable def f101 (r : (List (Ty.T y35))) : AV × Sig := (.one (.sl 4096), [(4096, .arr 41 y35 r false)])
noncomputable def u101 (a0 : List (Ty.T y35)) : Option (AV × Sig) := if ((a0).length : Int) = ((a0).length : Int) then (if ((a0).length : Int).toNat * 96 ≤ 140737488351232 then (cond (k101_0 a0 [] 0 (List.replicate ((a0).length : Int).toNat ((0, (0, (0, (0, (0, (0, (0, (0, (0, (0, (0, (false, false)))))))))))) : Ty.T y35)) 0) (some (.one (.sl 4096), [(4096, .arr 41 y35 (w101_0 a0 [] 0 (List.replicate ((a0).length : Int).toNat ((0, (0, (0, (0, (0, (0, (0, (0, (0, (0, (0, (false, false)))))))))))) : Ty.T y35))).2.2.2.1 false)])) (none)) else none) else none
noncomputable def v101 (a0 : List (Ty.T y35)) : (List (Ty.T y35)) := cond (k101_0 a0 [] 0 (List.replicate ((a0).length : Int).toNat ((0, (0, (0, (0, (0, (0, (0, (0, (0, (0, (0, (false, false)))))))))))) : Ty.T y35)) 0) ((w101_0 a0 [] 0 (List.replicate ((a0).length : Int).toNat ((0, (0, (0, (0, (0, (0, (0, (0, (0, (0, (0, (false, false)))))))))))) : Ty.T y35))).2.2.2.1) ([])
noncomputable def d101 (a0 : List (Ty.T y35)) : Bool := decide (((a0).length : Int) = ((a0).length : Int)) && (decide (((a0).length : Int).toNat * 96 ≤ 140737488351232) && (cond (k101_0 a0 [] 0 (List.replicate ((a0).length : Int).toNat ((0, (0, (0, (0, (0, (0, (0, (0, (0, (0, (0, (false, false)))))))))))) : Ty.T y35)) 0) (true) (false)))
theorem o101 (a0 : List (Ty.T y35)) : u101 a0 = cond (d101 a0) (some (f101 (v101 a0))) none := (par_ite (par_ite (par_cond (par_some _) (par_none _))))
noncomputable def p101 : Prim := ⟨[.one (.dat (.sl 36 y35) true)], fun v => .br (d101 v.1) (.done (f101 (v101 v.1))) .no⟩
theorem ok101 : PrimOk Try.prog 101 p101 := primOk_eq hE101l orders fun v => Eq.trans (b := u101 v.1) (by kernel_rfl) (o101 v.1)
/-! ### laws.toSide -/
noncomputable def E125 : Env := { ti := ti, fn := fns, prim := [], eqt := eqts }
theorem hE125 : Env.Ok Try.prog E125 := Env.Ok.of tiOk fnOk (mem_nil) mem_nil (mem_nil) eqtOk
noncomputable def f125 (r : (Ty.T y163)) : AV × Sig := (.agg (y163.cells false r), [])
noncomputable def u125 (a0 : Ty.T y163) : Option (AV × Sig) := some (.agg [.int .i64 a0.1, .int .i64 a0.2.1, .bool a0.2.2], [])
noncomputable def v125 (a0 : Ty.T y163) : (Ty.T y163) := a0
theorem o125 (a0 : Ty.T y163) : u125 a0 = some (f125 (v125 a0)) := rfl
noncomputable def p125 : Prim := ⟨[.agg [.dat y163 true]], fun v => .done (f125 (v125 v.1))⟩
theorem ok125 : PrimOk Try.prog 125 p125 := primOk_eq hE125 orders fun v => Eq.trans (b := u125 v.1) (by kernel_rfl) (o125 v.1)
/-! ### laws.toSideS -/
noncomputable def E102 : Env := { ti := ti, fn := fns, prim := [(125, p125)], eqt := eqts }
theorem hE102 : Env.Ok Try.prog E102 := Env.Ok.of tiOk fnOk (mem_cons ok125 <| mem_nil) mem_nil (mem_nil) eqtOk
@[reducible] noncomputable def ss102_0 : List SP := [.one (.dat (.sl 166 y163) true), .und, .one (.dat (.sl 164 y163) false), .one (.own 7), .one (.dat (.int .i64) true), .und, .und, .und, .und, .und, .und, .und, .und, .und, .und, .und, .und, .und, .und, .und, .und, .und, .und]
@[reducible] noncomputable def gs102_0 : List (Nat × GP) := [(7, .arr 164 y163 false)]
noncomputable def t102_0 (v : (StT ss102_0 gs102_0)) {R : Type} (κ : Nat × (StT ss102_0 gs102_0) → Option R) : Option R := cond (decide (v.2.2.1 < ((v.1).length : Int))) (if 0 ≤ v.2.2.1 then (optC ((v.1)[(v.2.2.1).toNat]?) (fun x1 => if 0 ≤ v.2.2.1 then (if v.2.2.1 < ((v.2.2.2.1).length : Int) then (optC ((v.2.2.2.1)[(v.2.2.1).toNat]?) (fun x2 => κ (0, (v.1, v.2.1, IntKind.wrap .i64 (v.2.2.1 + (1 : Int)), v.2.2.2.1.set ((v.2.2.1).toNat) (v125 x1), ())))) else none) else none)) else none) (κ (1, (v.1, v.2.1, v.2.2.1, v.2.2.2.1, ())))
noncomputable def s102_0 (v : (StT ss102_0 gs102_0)) : Option (Nat × (StT ss102_0 gs102_0)) := t102_0 v some
noncomputable def n102_0 (v : (StT ss102_0 gs102_0)) : Nat := v.1.length + v.2.1.length + v.2.2.1.toNat + v.2.2.2.1.length + 100
noncomputable def k102_0 (x0 : List (Ty.T y163)) (x1 : List (Ty.T y163)) (x2 : Int) (x3 : List (Ty.T y163)) (c : Nat) : Bool := iterAt s102_0 (n102_0 (x0, x1, x2, x3, ())) (x0, x1, x2, x3, ()) c
noncomputable def w102_0 (x0 : List (Ty.T y163)) (x1 : List (Ty.T y163)) (x2 : Int) (x3 : List (Ty.T y163)) : (StT ss102_0 gs102_0) := iterV s102_0 (n102_0 (x0, x1, x2, x3, ())) (x0, x1, x2, x3, ())
noncomputable def F102_0 (v : (StT ss102_0 gs102_0)) : Ways (Ex × St) := waysOf s102_0 (n102_0 v) v (bldSt ss102_0 gs102_0) [.exit 0] 0
theorem wf102_0 : wfSt ss102_0 gs102_0 := wf_of (by kernel_rfl)
theorem l102_0 : LoopOk Try.prog (loopAt [true, true, false, true] (bodyOf Try.f102)) ss102_0 gs102_0 F102_0 := loopOk_iter (lt := .none) (m := [true, false, true, true, true, false, false, false, false, false, false, false, false, false, false, false, false, false, false, false, false, false, false]) (keep := [7]) hE102 orders (LtOk.no _) fun n v K => Eq.trans (b := t102_0 v (kont _ _ _ _ _ _ K)) (by kernel_rfl) (show t102_0 v _ = (t102_0 v some).bind _ from (bnd_cond (bnd_ite (bnd_opt fun x1 => (bnd_ite (bnd_ite (bnd_opt fun x2 => rfl))))) rfl))
noncomputable def E102l : Env := { ti := ti, fn := fns, prim := [(125, p125)], eqt := eqts, lt := [(102, (ltPut [true, true, false, true] (bodyOf Try.f102) .none (.sum ss102_0 gs102_0 F102_0)))] }
theorem hE102l : Env.Ok Try.prog E102l := Env.Ok.of tiOk fnOk (mem_cons ok125 <| mem_nil) (mem_cons (ltOk_of Try.func102 (LtOk.put wf102_0 (LtOk.no _) l102_0)) mem_nil) (mem_nil) eqtOk
noncomputable def f102 (r : (List (Ty.T y163))) : AV × Sig := (.one (.sl 4096), [(4096, .arr 164 y163 r false)])
noncomputable def u102 (a0 : List (Ty.T y163)) : Option (AV × Sig) := if ((a0).length : Int) = ((a0).length : Int) then (if ((a0).length : Int).toNat * 24 ≤ 140737488351232 then (cond (k102_0 a0 [] 0 (List.replicate ((a0).length : Int).toNat ((0, (0, false)) : Ty.T y163)) 0) (some (.one (.sl 4096), [(4096, .arr 164 y163 (w102_0 a0 [] 0 (List.replicate ((a0).length : Int).toNat ((0, (0, false)) : Ty.T y163))).2.2.2.1 false)])) (none)) else none) else none
noncomputable def v102 (a0 : List (Ty.T y163)) : (List (Ty.T y163)) := cond (k102_0 a0 [] 0 (List.replicate ((a0).length : Int).toNat ((0, (0, false)) : Ty.T y163)) 0) ((w102_0 a0 [] 0 (List.replicate ((a0).length : Int).toNat ((0, (0, false)) : Ty.T y163))).2.2.2.1) ([])
noncomputable def d102 (a0 : List (Ty.T y163)) : Bool := decide (((a0).length : Int) = ((a0).length : Int)) && (decide (((a0).length : Int).toNat * 24 ≤ 140737488351232) && (cond (k102_0 a0 [] 0 (List.replicate ((a0).length : Int).toNat ((0, (0, false)) : Ty.T y163)) 0) (true) (false)))
theorem o102 (a0 : List (Ty.T y163)) : u102 a0 = cond (d102 a0) (some (f102 (v102 a0))) none := (par_ite (par_ite (par_cond (par_some _) (par_none _))))
noncomputable def p102 : Prim := ⟨[.one (.dat (.sl 166 y163) true)], fun v => .br (d102 v.1) (.done (f102 (v102 v.1))) .no⟩
theorem ok102 : PrimOk Try.prog 102 p102 := primOk_eq hE102l orders fun v => Eq.trans (b := u102 v.1) (by kernel_rfl) (o102 v.1)
/-! ### laws.toState -/
noncomputable def E42 : Env := { ti := ti, fn := fns, prim := [(101, p101), (102, p102)], eqt := eqts }
theorem hE42 : Env.Ok Try.prog E42 := Env.Ok.of tiOk fnOk (mem_cons ok101 <| mem_cons ok102 <| mem_nil) mem_nil (mem_nil) eqtOk
noncomputable def f42 (r : Int × Int × (List (Ty.T y35)) × (List (Ty.T y163))) : AV × Sig := (.agg [.sl 4096, .sl 8192, .int .i64 r.1, .int .i64 r.2.1], [(4096, .arr 41 y35 r.2.2.1 false), (8192, .arr 164 y163 r.2.2.2 false)])
noncomputable def u42 (a0 : Ty.T y77) : Option (AV × Sig) := cond (d101 a0.1) (cond (d102 a0.2.1) (some (.agg [.sl 4096, .sl 8192, .int .i64 a0.2.2.1, .int .i64 a0.2.2.2], [(4096, .arr 41 y35 (v101 a0.1) false), (8192, .arr 164 y163 (v102 a0.2.1) false)])) (none)) (none)
noncomputable def v42 (a0 : Ty.T y77) : Int × Int × (List (Ty.T y35)) × (List (Ty.T y163)) := cond (d101 a0.1) (cond (d102 a0.2.1) ((a0.2.2.1, a0.2.2.2, (v101 a0.1), (v102 a0.2.1))) ((0, 0, [], []))) ((0, 0, [], []))
noncomputable def d42 (a0 : Ty.T y77) : Bool := cond (d101 a0.1) (cond (d102 a0.2.1) (true) (false)) (false)
theorem o42 (a0 : Ty.T y77) : u42 a0 = cond (d42 a0) (some (f42 (v42 a0))) none := (par_cond (par_cond (par_some _) (par_none _)) (par_none _))
noncomputable def p42 : Prim := ⟨[.agg [.dat y77 true]], fun v => .br (d42 v.1) (.done (f42 (v42 v.1))) .no⟩
theorem ok42 : PrimOk Try.prog 42 p42 := primOk_eq hE42 orders fun v => Eq.trans (b := u42 v.1) (by kernel_rfl) (o42 v.1)
/-! ### laws.toEvent -/
noncomputable def E74 : Env := { ti := ti, fn := fns, prim := [], eqt := eqts }
theorem hE74 : Env.Ok Try.prog E74 := Env.Ok.of tiOk fnOk (mem_nil) mem_nil (mem_nil) eqtOk
noncomputable def f74 (r : (Ty.T y33)) : AV × Sig := (.agg (y33.cells false r), [])
noncomputable def u74 (a0 : Ty.T y33) : Option (AV × Sig) := some (.agg [.int .i64 a0.1, .int .i64 a0.2.1, .int .i64 a0.2.2.1, .int .i64 a0.2.2.2.1, .int .i64 a0.2.2.2.2.1, .int .i64 a0.2.2.2.2.2.1, .bool a0.2.2.2.2.2.2], [])
noncomputable def v74 (a0 : Ty.T y33) : (Ty.T y33) := a0
theorem o74 (a0 : Ty.T y33) : u74 a0 = some (f74 (v74 a0)) := rfl
noncomputable def p74 : Prim := ⟨[.agg [.dat y33 true]], fun v => .done (f74 (v74 v.1))⟩
theorem ok74 : PrimOk Try.prog 74 p74 := primOk_eq hE74 orders fun v => Eq.trans (b := u74 v.1) (by kernel_rfl) (o74 v.1)
/-! ### laws.toNote -/
noncomputable def E24 : Env := { ti := ti, fn := fns, prim := [(74, p74), (75, p75)], eqt := eqts }
theorem hE24 : Env.Ok Try.prog E24 := Env.Ok.of tiOk fnOk (mem_cons ok74 <| mem_cons ok75 <| mem_nil) mem_nil (mem_nil) eqtOk
noncomputable def f24 (r : (Ty.T y37)) : AV × Sig := (.agg (y37.cells false r), [])
noncomputable def u24 (a0 : Ty.T y37) : Option (AV × Sig) := some (.agg [.int .i64 a0.1, .int .i64 (v74 a0.2.1).1, .int .i64 (v74 a0.2.1).2.1, .int .i64 (v74 a0.2.1).2.2.1, .int .i64 (v74 a0.2.1).2.2.2.1, .int .i64 (v74 a0.2.1).2.2.2.2.1, .int .i64 (v74 a0.2.1).2.2.2.2.2.1, .bool (v74 a0.2.1).2.2.2.2.2.2, .int .i64 a0.2.2.1, .int .i64 a0.2.2.2.1, .int .i64 (v75 a0.2.2.2.2).1, .int .i64 (v75 a0.2.2.2.2).2.1, .int .i64 (v75 a0.2.2.2.2).2.2.1, .int .i64 (v75 a0.2.2.2.2).2.2.2.1, .int .i64 (v75 a0.2.2.2.2).2.2.2.2.1, .int .i64 (v75 a0.2.2.2.2).2.2.2.2.2.1, .int .i64 (v75 a0.2.2.2.2).2.2.2.2.2.2.1, .int .i64 (v75 a0.2.2.2.2).2.2.2.2.2.2.2.1, .int .i64 (v75 a0.2.2.2.2).2.2.2.2.2.2.2.2.1, .int .i64 (v75 a0.2.2.2.2).2.2.2.2.2.2.2.2.2.1, .int .i64 (v75 a0.2.2.2.2).2.2.2.2.2.2.2.2.2.2.1, .bool (v75 a0.2.2.2.2).2.2.2.2.2.2.2.2.2.2.2.1, .bool (v75 a0.2.2.2.2).2.2.2.2.2.2.2.2.2.2.2.2], [])
noncomputable def v24 (a0 : Ty.T y37) : (Ty.T y37) := (a0.1, ((v74 a0.2.1), (a0.2.2.1, (a0.2.2.2.1, (v75 a0.2.2.2.2)))))
theorem o24 (a0 : Ty.T y37) : u24 a0 = some (f24 (v24 a0)) := rfl
noncomputable def p24 : Prim := ⟨[.agg [.dat y37 true]], fun v => .done (f24 (v24 v.1))⟩
theorem ok24 : PrimOk Try.prog 24 p24 := primOk_eq hE24 orders fun v => Eq.trans (b := u24 v.1) (by kernel_rfl) (o24 v.1)
/-! ### laws.toNoteS -/
noncomputable def E43 : Env := { ti := ti, fn := fns, prim := [(24, p24)], eqt := eqts }
theorem hE43 : Env.Ok Try.prog E43 := Env.Ok.of tiOk fnOk (mem_cons ok24 <| mem_nil) mem_nil (mem_nil) eqtOk
@[reducible] noncomputable def ss43_0 : List SP := [.one (.dat (.sl 38 y37) true), .und, .one (.dat (.sl 43 y37) false), .one (.own 7), .one (.dat (.int .i64) true), .und, .und, .und, .und, .und, .und, .und, .und, .und, .und, .und, .und, .und, .und, .und, .und, .und, .und]
@[reducible] noncomputable def gs43_0 : List (Nat × GP) := [(7, .arr 43 y37 false)]
noncomputable def t43_0 (v : (StT ss43_0 gs43_0)) {R : Type} (κ : Nat × (StT ss43_0 gs43_0) → Option R) : Option R := cond (decide (v.2.2.1 < ((v.1).length : Int))) (if 0 ≤ v.2.2.1 then (optC ((v.1)[(v.2.2.1).toNat]?) (fun x1 => if 0 ≤ v.2.2.1 then (if v.2.2.1 < ((v.2.2.2.1).length : Int) then (optC ((v.2.2.2.1)[(v.2.2.1).toNat]?) (fun x2 => κ (0, (v.1, v.2.1, IntKind.wrap .i64 (v.2.2.1 + (1 : Int)), v.2.2.2.1.set ((v.2.2.1).toNat) (v24 x1), ())))) else none) else none)) else none) (κ (1, (v.1, v.2.1, v.2.2.1, v.2.2.2.1, ())))
noncomputable def s43_0 (v : (StT ss43_0 gs43_0)) : Option (Nat × (StT ss43_0 gs43_0)) := t43_0 v some
noncomputable def n43_0 (v : (StT ss43_0 gs43_0)) : Nat := v.1.length + v.2.1.length + v.2.2.1.toNat + v.2.2.2.1.length + 100
noncomputable def k43_0 (x0 : List (Ty.T y37)) (x1 : List (Ty.T y37)) (x2 : Int) (x3 : List (Ty.T y37)) (c : Nat) : Bool := iterAt s43_0 (n43_0 (x0, x1, x2, x3, ())) (x0, x1, x2, x3, ()) c
noncomputable def w43_0 (x0 : List (Ty.T y37)) (x1 : List (Ty.T y37)) (x2 : Int) (x3 : List (Ty.T y37)) : (StT ss43_0 gs43_0) := iterV s43_0 (n43_0 (x0, x1, x2, x3, ())) (x0, x1, x2, x3, ())
noncomputable def F43_0 (v : (StT ss43_0 gs43_0)) : Ways (Ex × St) := waysOf s43_0 (n43_0 v) v (bldSt ss43_0 gs43_0) [.exit 0] 0
theorem wf43_0 : wfSt ss43_0 gs43_0 := wf_of (by kernel_rfl)
theorem l43_0 : LoopOk Try.prog (loopAt [true, true, false, true] (bodyOf Try.f43)) ss43_0 gs43_0 F43_0 := loopOk_iter (lt := .none) (m := [true, false, true, true, true, false, false, false, false, false, false, false, false, false, false, false, false, false, false, false, false, false, false]) (keep := [7]) hE43 orders (LtOk.no _) fun n v K => Eq.trans (b := t43_0 v (kont _ _ _ _ _ _ K)) (by kernel_rfl) (show t43_0 v _ = (t43_0 v some).bind _ from (bnd_cond (bnd_ite (bnd_opt fun x1 => (bnd_ite (bnd_ite (bnd_opt fun x2 => rfl))))) rfl))
noncomputable def E43l : Env := { ti := ti, fn := fns, prim := [(24, p24)], eqt := eqts, lt := [(43, (ltPut [true, true, false, true] (bodyOf Try.f43) .none (.sum ss43_0 gs43_0 F43_0)))] }
theorem hE43l : Env.Ok Try.prog E43l := Env.Ok.of tiOk fnOk (mem_cons ok24 <| mem_nil) (mem_cons (ltOk_of Try.func43 (LtOk.put wf43_0 (LtOk.no _) l43_0)) mem_nil) (mem_nil) eqtOk
noncomputable def f43 (r : (List (Ty.T y37))) : AV × Sig := (.one (.sl 4096), [(4096, .arr 43 y37 r false)])
noncomputable def u43 (a0 : List (Ty.T y37)) : Option (AV × Sig) := if ((a0).length : Int) = ((a0).length : Int) then (if ((a0).length : Int).toNat * 176 ≤ 140737488351232 then (cond (k43_0 a0 [] 0 (List.replicate ((a0).length : Int).toNat ((0, ((0, (0, (0, (0, (0, (0, false)))))), (0, (0, (0, (0, (0, (0, (0, (0, (0, (0, (0, (0, (0, (false, false)))))))))))))))) : Ty.T y37)) 0) (some (.one (.sl 4096), [(4096, .arr 43 y37 (w43_0 a0 [] 0 (List.replicate ((a0).length : Int).toNat ((0, ((0, (0, (0, (0, (0, (0, false)))))), (0, (0, (0, (0, (0, (0, (0, (0, (0, (0, (0, (0, (0, (false, false)))))))))))))))) : Ty.T y37))).2.2.2.1 false)])) (none)) else none) else none
noncomputable def v43 (a0 : List (Ty.T y37)) : (List (Ty.T y37)) := cond (k43_0 a0 [] 0 (List.replicate ((a0).length : Int).toNat ((0, ((0, (0, (0, (0, (0, (0, false)))))), (0, (0, (0, (0, (0, (0, (0, (0, (0, (0, (0, (0, (0, (false, false)))))))))))))))) : Ty.T y37)) 0) ((w43_0 a0 [] 0 (List.replicate ((a0).length : Int).toNat ((0, ((0, (0, (0, (0, (0, (0, false)))))), (0, (0, (0, (0, (0, (0, (0, (0, (0, (0, (0, (0, (0, (false, false)))))))))))))))) : Ty.T y37))).2.2.2.1) ([])
noncomputable def d43 (a0 : List (Ty.T y37)) : Bool := decide (((a0).length : Int) = ((a0).length : Int)) && (decide (((a0).length : Int).toNat * 176 ≤ 140737488351232) && (cond (k43_0 a0 [] 0 (List.replicate ((a0).length : Int).toNat ((0, ((0, (0, (0, (0, (0, (0, false)))))), (0, (0, (0, (0, (0, (0, (0, (0, (0, (0, (0, (0, (0, (false, false)))))))))))))))) : Ty.T y37)) 0) (true) (false)))
theorem o43 (a0 : List (Ty.T y37)) : u43 a0 = cond (d43 a0) (some (f43 (v43 a0))) none := (par_ite (par_ite (par_cond (par_some _) (par_none _))))
noncomputable def p43 : Prim := ⟨[.one (.dat (.sl 38 y37) true)], fun v => .br (d43 v.1) (.done (f43 (v43 v.1))) .no⟩
theorem ok43 : PrimOk Try.prog 43 p43 := primOk_eq hE43l orders fun v => Eq.trans (b := u43 v.1) (by kernel_rfl) (o43 v.1)
/-! ### impl.PieceAt$1 -/
noncomputable def E141c1 : Env := { ti := ti, fn := fns, prim := [], eqt := eqts }
theorem hE141c1 : Env.Ok Try.prog E141c1 := Env.Ok.of tiOk fnOk (mem_nil) mem_nil (mem_nil) eqtOk
noncomputable def f141c1 (r : Bool) : AV × Sig := (.one (.bool r), [])
noncomputable def u141c1 (a0 : Ty.T y35) (a1 : Int) : Option (AV × Sig) := some (.one (.bool (a0.1 == a1)), [])
noncomputable def v141c1 (a0 : Ty.T y35) (a1 : Int) : Bool := (a0.1 == a1)
theorem o141c1 (a0 : Ty.T y35) (a1 : Int) : u141c1 a0 a1 = some (f141c1 (v141c1 a0 a1)) := rfl
noncomputable def p141c1 : Prim := ⟨[.agg [.dat y35 true], .one (.ept (.int .i64))], fun v => .done (f141c1 (v141c1 v.1 v.2.1))⟩
theorem ok141c1 : PrimOk Try.prog 141 p141c1 := primOk_eq hE141c1 orders fun v => Eq.trans (b := u141c1 v.1 v.2.1) (by kernel_rfl) (o141c1 v.1 v.2.1)
/-! ### impl.Piece] -/
noncomputable def E140c1 : Env := { ti := ti, fn := fns, prim := [(141, p141c1)], eqt := eqts }
theorem hE140c1 : Env.Ok Try.prog E140c1 := Env.Ok.of tiOk fnOk (mem_cons ok141c1 <| mem_nil) mem_nil (mem_nil) eqtOk
@[reducible] noncomputable def ss140c1_0 : List SP := [.one (.dat (.sl 41 y35) true), .one (.fnc 141 [(.int .i64)]), .und, .und, .one (.dat (.int .i64) true), .und, .und, .one (.dat (.int .i64) true), .one (.dat (.int .i64) true), .und, .und, .und, .und, .und, .und, .und, .und, .und, .und]
@[reducible] noncomputable def gs140c1_0 : List (Nat × GP) := []
noncomputable def t140c1_0 (v : (StT ss140c1_0 gs140c1_0)) {R : Type} (κ : Nat × (StT ss140c1_0 gs140c1_0) → Option R) : Option R := cond (decide (v.2.2.2.2.1 < v.2.2.2.1)) (if 0 ≤ v.2.2.2.2.1 then (optC ((v.1)[(v.2.2.2.2.1).toNat]?) (fun x1 => cond (v141c1 x1 v.2.1) (κ (1, (v.1, v.2.1, v.2.2.2.2.1, v.2.2.2.1, v.2.2.2.2.1, ()))) (κ (0, (v.1, v.2.1, v.2.2.1, v.2.2.2.1, IntKind.wrap .i64 (v.2.2.2.2.1 + (1 : Int)), ()))))) else none) (κ (2, (v.1, v.2.1, v.2.2.1, v.2.2.2.1, v.2.2.2.2.1, ())))
noncomputable def s140c1_0 (v : (StT ss140c1_0 gs140c1_0)) : Option (Nat × (StT ss140c1_0 gs140c1_0)) := t140c1_0 v some
noncomputable def n140c1_0 (v : (StT ss140c1_0 gs140c1_0)) : Nat := v.1.length + v.2.1.toNat + v.2.2.1.toNat + v.2.2.2.1.toNat + v.2.2.2.2.1.toNat + 100
noncomputable def k140c1_0 (x0 : List (Ty.T y35)) (x1 : Int) (x2 : Int) (x3 : Int) (x4 : Int) (c : Nat) : Bool := iterAt s140c1_0 (n140c1_0 (x0, x1, x2, x3, x4, ())) (x0, x1, x2, x3, x4, ()) c
noncomputable def w140c1_0 (x0 : List (Ty.T y35)) (x1 : Int) (x2 : Int) (x3 : Int) (x4 : Int) : (StT ss140c1_0 gs140c1_0) := iterV s140c1_0 (n140c1_0 (x0, x1, x2, x3, x4, ())) (x0, x1, x2, x3, x4, ())
noncomputable def F140c1_0 (v : (StT ss140c1_0 gs140c1_0)) : Ways (Ex × St) := waysOf s140c1_0 (n140c1_0 v) v (bldSt ss140c1_0 gs140c1_0) [.ret, .exit 0] 0
theorem wf140c1_0 : wfSt ss140c1_0 gs140c1_0 := wf_of (by kernel_rfl)
theorem l140c1_0 : LoopOk Try.prog (loopAt [true, false, true] (bodyOf Try.f140)) ss140c1_0 gs140c1_0 F140c1_0 := loopOk_iter (lt := .none) (m := [true, true, false, false, true, false, false, true, true, false, false, false, false, false, false, false, false, false, false]) (keep := []) hE140c1 orders (LtOk.no _) fun n v K => Eq.trans (b := t140c1_0 v (kont _ _ _ _ _ _ K)) (by kernel_rfl) (show t140c1_0 v _ = (t140c1_0 v some).bind _ from (bnd_cond (bnd_ite (bnd_opt fun x1 => (bnd_cond rfl rfl))) rfl))
noncomputable def E140c1l : Env := { ti := ti, fn := fns, prim := [(141, p141c1)], eqt := eqts, lt := [(140, (ltPut [true, false, true] (bodyOf Try.f140) .none (.sum ss140c1_0 gs140c1_0 F140c1_0)))] }
theorem hE140c1l : Env.Ok Try.prog E140c1l := Env.Ok.of tiOk fnOk (mem_cons ok141c1 <| mem_nil) (mem_cons (ltOk_of Try.func140 (LtOk.put wf140c1_0 (LtOk.no _) l140c1_0)) mem_nil) (mem_nil) eqtOk
noncomputable def f140c1 (r : Int) : AV × Sig := (.one (.int .i64 r), [])
noncomputable def u140c1 (a0 : List (Ty.T y35)) (a1_0 : Int) : Option (AV × Sig) := cond (k140c1_0 a0 a1_0 0 ((a0).length : Int) 0 0) (some (.one (.int .i64 (w140c1_0 a0 a1_0 0 ((a0).length : Int) 0).2.2.1), [])) (cond (k140c1_0 a0 a1_0 0 ((a0).length : Int) 0 1) (some (.one (.int .i64 (-1)), [])) (none))
noncomputable def v140c1 (a0 : List (Ty.T y35)) (a1_0 : Int) : Int := cond (k140c1_0 a0 a1_0 0 ((a0).length : Int) 0 0) ((w140c1_0 a0 a1_0 0 ((a0).length : Int) 0).2.2.1) (cond (k140c1_0 a0 a1_0 0 ((a0).length : Int) 0 1) ((-1)) (0))
noncomputable def d140c1 (a0 : List (Ty.T y35)) (a1_0 : Int) : Bool := cond (k140c1_0 a0 a1_0 0 ((a0).length : Int) 0 0) (true) (cond (k140c1_0 a0 a1_0 0 ((a0).length : Int) 0 1) (true) (false))
theorem o140c1 (a0 : List (Ty.T y35)) (a1_0 : Int) : u140c1 a0 a1_0 = cond (d140c1 a0 a1_0) (some (f140c1 (v140c1 a0 a1_0))) none := (par_cond (par_some _) (par_cond (par_some _) (par_none _)))
noncomputable def p140c1 : Prim := ⟨[.one (.dat (.sl 41 y35) true), .one (.fnc 141 [(.int .i64)])], fun v => .br (d140c1 v.1 v.2.1) (.done (f140c1 (v140c1 v.1 v.2.1))) .no⟩
theorem ok140c1 : PrimOk Try.prog 140 p140c1 := primOk_eq hE140c1l orders fun v => Eq.trans (b := u140c1 v.1 v.2.1) (by kernel_rfl) (o140c1 v.1 v.2.1)
/-! ### impl.PieceAt -/
noncomputable def E126 : Env := { ti := ti, fn := fns, prim := [(140, p140c1)], eqt := eqts }
theorem hE126 : Env.Ok Try.prog E126 := Env.Ok.of tiOk fnOk (mem_cons ok140c1 <| mem_nil) mem_nil (mem_nil) eqtOk
noncomputable def f126 (r : Int) : AV × Sig := (.one (.int .i64 r), [])
noncomputable def u126 (a0 : Ty.T y85) (a1 : Int) : Option (AV × Sig) := cond (d140c1 a0.1 a1) (some (.one (.int .i64 (v140c1 a0.1 a1)), [])) (none)
noncomputable def v126 (a0 : Ty.T y85) (a1 : Int) : Int := cond (d140c1 a0.1 a1) ((v140c1 a0.1 a1)) (0)
noncomputable def d126 (a0 : Ty.T y85) (a1 : Int) : Bool := cond (d140c1 a0.1 a1) (true) (false)
theorem o126 (a0 : Ty.T y85) (a1 : Int) : u126 a0 a1 = cond (d126 a0 a1) (some (f126 (v126 a0 a1))) none := (par_cond (par_some _) (par_none _))
noncomputable def p126 : Prim := ⟨[.agg [.dat y85 true], .one (.dat (.int .i64) true)], fun v => .br (d126 v.1 v.2.1) (.done (f126 (v126 v.1 v.2.1))) .no⟩
theorem ok126 : PrimOk Try.prog 126 p126 := primOk_eq hE126 orders fun v => Eq.trans (b := u126 v.1 v.2.1) (by kernel_rfl) (o126 v.1 v.2.1)
/-! ### impl.Source -/
noncomputable def E103 : Env := { ti := ti, fn := fns, prim := [(126, p126)], eqt := eqts }
theorem hE103 : Env.Ok Try.prog E103 := Env.Ok.of tiOk fnOk (mem_cons ok126 <| mem_nil) mem_nil (mem_nil) eqtOk
noncomputable def f103 (r : (Ty.T y35)) : AV × Sig := (.agg (y35.cells false r), [])
noncomputable def u103 (a0 : Ty.T y85) (a1 : Ty.T y33) : Option (AV × Sig) := cond (d126 a0 a1.2.1) (cond (a1.1 != (1 : Int)) (some (.agg [.int .i64 0, .int .i64 0, .int .i64 0, .int .i64 0, .int .i64 0, .int .i64 0, .int .i64 0, .int .i64 0, .int .i64 0, .int .i64 0, .int .i64 0, .bool false, .bool false], [])) (cond (decide ((v126 a0 a1.2.1) < (0 : Int))) (some (.agg [.int .i64 0, .int .i64 0, .int .i64 0, .int .i64 0, .int .i64 0, .int .i64 0, .int .i64 0, .int .i64 0, .int .i64 0, .int .i64 0, .int .i64 0, .bool false, .bool false], [])) (if 0 ≤ (v126 a0 a1.2.1) then (optC ((a0.1)[(v126 a0 a1.2.1).toNat]?) (fun x1 => some (.agg [.int .i64 x1.1, .int .i64 x1.2.1, .int .i64 x1.2.2.1, .int .i64 x1.2.2.2.1, .int .i64 x1.2.2.2.2.1, .int .i64 x1.2.2.2.2.2.1, .int .i64 x1.2.2.2.2.2.2.1, .int .i64 x1.2.2.2.2.2.2.2.1, .int .i64 x1.2.2.2.2.2.2.2.2.1, .int .i64 x1.2.2.2.2.2.2.2.2.2.1, .int .i64 x1.2.2.2.2.2.2.2.2.2.2.1, .bool x1.2.2.2.2.2.2.2.2.2.2.2.1, .bool x1.2.2.2.2.2.2.2.2.2.2.2.2], []))) else none))) (none)
noncomputable def v103 (a0 : Ty.T y85) (a1 : Ty.T y33) : (Ty.T y35) := cond (d126 a0 a1.2.1) (cond (a1.1 != (1 : Int)) ((0, (0, (0, (0, (0, (0, (0, (0, (0, (0, (0, (false, false))))))))))))) (cond (decide ((v126 a0 a1.2.1) < (0 : Int))) ((0, (0, (0, (0, (0, (0, (0, (0, (0, (0, (0, (false, false))))))))))))) (optV ((a0.1)[(v126 a0 a1.2.1).toNat]?) (0, (0, (0, (0, (0, (0, (0, (0, (0, (0, (0, (false, false)))))))))))) (fun x1 => x1)))) ((0, (0, (0, (0, (0, (0, (0, (0, (0, (0, (0, (false, false)))))))))))))
noncomputable def d103 (a0 : Ty.T y85) (a1 : Ty.T y33) : Bool := cond (d126 a0 a1.2.1) (cond (a1.1 != (1 : Int)) (true) (cond (decide ((v126 a0 a1.2.1) < (0 : Int))) (true) (decide (0 ≤ (v126 a0 a1.2.1)) && (optD ((a0.1)[(v126 a0 a1.2.1).toNat]?) (fun x1 => true))))) (false)
theorem o103 (a0 : Ty.T y85) (a1 : Ty.T y33) : u103 a0 a1 = cond (d103 a0 a1) (some (f103 (v103 a0 a1))) none := (par_cond (par_cond (par_some _) (par_cond (par_some _) (par_ite (par_opt fun x1 => (par_some _))))) (par_none _))
noncomputable def p103 : Prim := ⟨[.agg [.dat y85 true], .agg [.dat y33 true]], fun v => .br (d103 v.1 v.2.1) (.done (f103 (v103 v.1 v.2.1))) .no⟩
theorem ok103 : PrimOk Try.prog 103 p103 := primOk_eq hE103 orders fun v => Eq.trans (b := u103 v.1 v.2.1) (by kernel_rfl) (o103 v.1 v.2.1)
/-! ### impl.HasTrait -/
noncomputable def E104 : Env := { ti := ti, fn := fns, prim := [], eqt := eqts }
theorem hE104 : Env.Ok Try.prog E104 := Env.Ok.of tiOk fnOk (mem_nil) mem_nil (mem_nil) eqtOk
noncomputable def f104 (r : Bool) : AV × Sig := (.one (.bool r), [])
noncomputable def u104 (a0 : Ty.T y35) (a1 : Int) : Option (AV × Sig) := cond (a1 == (1 : Int)) (cond (a1 == (1 : Int)) (some (.one (.bool ((IntKind.wrap .i64 ((BitVec.ofInt (IntKind.bits .i64) a0.2.2.2.2.2.2.2.1 &&& BitVec.ofInt (IntKind.bits .i64) a1).toNat : Int)) != (0 : Int))), [])) (some (.one (.bool false), []))) (cond (a1 == (2 : Int)) (cond (a1 == (2 : Int)) (some (.one (.bool ((IntKind.wrap .i64 ((BitVec.ofInt (IntKind.bits .i64) a0.2.2.2.2.2.2.2.1 &&& BitVec.ofInt (IntKind.bits .i64) a1).toNat : Int)) != (0 : Int))), [])) (some (.one (.bool false), []))) (cond (a1 == (4 : Int)) (cond (a1 == (4 : Int)) (some (.one (.bool ((IntKind.wrap .i64 ((BitVec.ofInt (IntKind.bits .i64) a0.2.2.2.2.2.2.2.1 &&& BitVec.ofInt (IntKind.bits .i64) a1).toNat : Int)) != (0 : Int))), [])) (some (.one (.bool false), []))) (cond (a1 == (8 : Int)) (cond (a1 == (8 : Int)) (some (.one (.bool ((IntKind.wrap .i64 ((BitVec.ofInt (IntKind.bits .i64) a0.2.2.2.2.2.2.2.1 &&& BitVec.ofInt (IntKind.bits .i64) a1).toNat : Int)) != (0 : Int))), [])) (some (.one (.bool false), []))) (cond (a1 == (16 : Int)) (cond (a1 == (16 : Int)) (some (.one (.bool ((IntKind.wrap .i64 ((BitVec.ofInt (IntKind.bits .i64) a0.2.2.2.2.2.2.2.1 &&& BitVec.ofInt (IntKind.bits .i64) a1).toNat : Int)) != (0 : Int))), [])) (some (.one (.bool false), []))) (cond (a1 == (32 : Int)) (some (.one (.bool ((IntKind.wrap .i64 ((BitVec.ofInt (IntKind.bits .i64) a0.2.2.2.2.2.2.2.1 &&& BitVec.ofInt (IntKind.bits .i64) a1).toNat : Int)) != (0 : Int))), [])) (some (.one (.bool false), [])))))))
noncomputable def v104 (a0 : Ty.T y35) (a1 : Int) : Bool := cond (a1 == (1 : Int)) (cond (a1 == (1 : Int)) (((IntKind.wrap .i64 ((BitVec.ofInt (IntKind.bits .i64) a0.2.2.2.2.2.2.2.1 &&& BitVec.ofInt (IntKind.bits .i64) a1).toNat : Int)) != (0 : Int))) (false)) (cond (a1 == (2 : Int)) (cond (a1 == (2 : Int)) (((IntKind.wrap .i64 ((BitVec.ofInt (IntKind.bits .i64) a0.2.2.2.2.2.2.2.1 &&& BitVec.ofInt (IntKind.bits .i64) a1).toNat : Int)) != (0 : Int))) (false)) (cond (a1 == (4 : Int)) (cond (a1 == (4 : Int)) (((IntKind.wrap .i64 ((BitVec.ofInt (IntKind.bits .i64) a0.2.2.2.2.2.2.2.1 &&& BitVec.ofInt (IntKind.bits .i64) a1).toNat : Int)) != (0 : Int))) (false)) (cond (a1 == (8 : Int)) (cond (a1 == (8 : Int)) (((IntKind.wrap .i64 ((BitVec.ofInt (IntKind.bits .i64) a0.2.2.2.2.2.2.2.1 &&& BitVec.ofInt (IntKind.bits .i64) a1).toNat : Int)) != (0 : Int))) (false)) (cond (a1 == (16 : Int)) (cond (a1 == (16 : Int)) (((IntKind.wrap .i64 ((BitVec.ofInt (IntKind.bits .i64) a0.2.2.2.2.2.2.2.1 &&& BitVec.ofInt (IntKind.bits .i64) a1).toNat : Int)) != (0 : Int))) (false)) (cond (a1 == (32 : Int)) (((IntKind.wrap .i64 ((BitVec.ofInt (IntKind.bits .i64) a0.2.2.2.2.2.2.2.1 &&& BitVec.ofInt (IntKind.bits .i64) a1).toNat : Int)) != (0 : Int))) (false))))))
theorem o104 (a0 : Ty.T y35) (a1 : Int) : u104 a0 a1 = some (f104 (v104 a0 a1)) := (tot_cond (tot_cond rfl rfl) (tot_cond (tot_cond rfl rfl) (tot_cond (tot_cond rfl rfl) (tot_cond (tot_cond rfl rfl) (tot_cond (tot_cond rfl rfl) (tot_cond rfl rfl))))))
noncomputable def p104 : Prim := ⟨[.agg [.dat y35 true], .one (.dat (.int .i64) true)], fun v => .done (f104 (v104 v.1 v.2.1))⟩
theorem ok104 : PrimOk Try.prog 104 p104 := primOk_eq hE104 orders fun v => Eq.trans (b := u104 v.1 v.2.1) (by kernel_rfl) (o104 v.1 v.2.1)
/-! ### impl.Upto -/
noncomputable def E105 : Env := { ti := ti, fn := fns, prim := [], eqt := eqts }
theorem hE105 : Env.Ok Try.prog E105 := Env.Ok.of tiOk fnOk (mem_nil) mem_nil (mem_nil) eqtOk
noncomputable def f105 (r : Int) : AV × Sig := (.one (.int .i64 r), [])
noncomputable def u105 (a0 : Int) (a1 : Int) : Option (AV × Sig) := some (.one (.int .i64 (if (if a1 < a0 then a1 else a0) > (0 : Int) then if a1 < a0 then a1 else a0 else 0)), [])
noncomputable def v105 (a0 : Int) (a1 : Int) : Int := if (if a1 < a0 then a1 else a0) > (0 : Int) then if a1 < a0 then a1 else a0 else 0
theorem o105 (a0 : Int) (a1 : Int) : u105 a0 a1 = some (f105 (v105 a0 a1)) := rfl
noncomputable def p105 : Prim := ⟨[.one (.dat (.int .i64) true), .one (.dat (.int .i64) true)], fun v => .done (f105 (v105 v.1 v.2.1))⟩
theorem ok105 : PrimOk Try.prog 105 p105 := primOk_eq hE105 orders fun v => Eq.trans (b := u105 v.1 v.2.1) (by kernel_rfl) (o105 v.1 v.2.1)
/-! ### impl.LinkGain -/
noncomputable def E44 : Env := { ti := ti, fn := fns, prim := [(103, p103), (104, p104), (105, p105)], eqt := eqts }
theorem hE44 : Env.Ok Try.prog E44 := Env.Ok.of tiOk fnOk (mem_cons ok103 <| mem_cons ok104 <| mem_cons ok105 <| mem_nil) mem_nil (mem_nil) eqtOk
@[reducible] noncomputable def ss44_0 : List SP := [.und, .und, .one (.dat (.int .i64) true), .one (.ptr 3 0), .und, .und, .one (.dat (.int .i64) true), .one (.dat (.int .i64) true), .und, .und, .und, .one (.dat (.sl 43 y37) true), .one (.dat (.int .i64) true), .one (.dat (.int .i64) true), .und, .und, .und, .und, .und, .und, .und, .und, .und, .und, .und, .und, .und, .und, .und, .und, .und, .und, .und, .und, .und, .und, .und, .und, .und, .und, .und]
@[reducible] noncomputable def gs44_0 : List (Nat × GP) := [(3, .box 86 [.dat y85 true])]
noncomputable def t44_0 (v : (StT ss44_0 gs44_0)) {R : Type} (κ : Nat × (StT ss44_0 gs44_0) → Option R) : Option R := cond (decide (v.2.2.2.2.2.1 < v.2.2.2.2.1)) (if 0 ≤ v.2.2.2.2.2.1 then (optC ((v.2.2.2.1)[(v.2.2.2.2.2.1).toNat]?) (fun x1 => cond (d103 v.2.2.2.2.2.2.1 x1.2.1) (cond (x1.1 == (1 : Int)) (cond (v104 (v103 v.2.2.2.2.2.2.1 x1.2.1) 1) (cond ((v103 v.2.2.2.2.2.2.1 x1.2.1).2.2.1 == v.1) (κ (0, (v.1, v.2.1, IntKind.wrap .i64 (v.2.2.1 + (v105 x1.2.2.1 2147483647)), v.2.2.2.1, v.2.2.2.2.1, IntKind.wrap .i64 (v.2.2.2.2.2.1 + (1 : Int)), v.2.2.2.2.2.2.1, ()))) (κ (0, (v.1, v.2.1, v.2.2.1, v.2.2.2.1, v.2.2.2.2.1, IntKind.wrap .i64 (v.2.2.2.2.2.1 + (1 : Int)), v.2.2.2.2.2.2.1, ())))) (κ (0, (v.1, v.2.1, v.2.2.1, v.2.2.2.1, v.2.2.2.2.1, IntKind.wrap .i64 (v.2.2.2.2.2.1 + (1 : Int)), v.2.2.2.2.2.2.1, ())))) (κ (0, (v.1, v.2.1, v.2.2.1, v.2.2.2.1, v.2.2.2.2.1, IntKind.wrap .i64 (v.2.2.2.2.2.1 + (1 : Int)), v.2.2.2.2.2.2.1, ())))) (none))) else none) (κ (1, (v.1, v.2.1, v.2.2.1, v.2.2.2.1, v.2.2.2.2.1, v.2.2.2.2.2.1, v.2.2.2.2.2.2.1, ())))
noncomputable def s44_0 (v : (StT ss44_0 gs44_0)) : Option (Nat × (StT ss44_0 gs44_0)) := t44_0 v some
noncomputable def n44_0 (v : (StT ss44_0 gs44_0)) : Nat := v.1.toNat + v.2.1.toNat + v.2.2.1.toNat + v.2.2.2.1.length + v.2.2.2.2.1.toNat + v.2.2.2.2.2.1.toNat + v.2.2.2.2.2.2.1.1.length + v.2.2.2.2.2.2.1.2.1.length + 100
noncomputable def k44_0 (x0 : Int) (x1 : Int) (x2 : Int) (x3 : List (Ty.T y37)) (x4 : Int) (x5 : Int) (x6 : Ty.T y85) (c : Nat) : Bool := iterAt s44_0 (n44_0 (x0, x1, x2, x3, x4, x5, x6, ())) (x0, x1, x2, x3, x4, x5, x6, ()) c
noncomputable def w44_0 (x0 : Int) (x1 : Int) (x2 : Int) (x3 : List (Ty.T y37)) (x4 : Int) (x5 : Int) (x6 : Ty.T y85) : (StT ss44_0 gs44_0) := iterV s44_0 (n44_0 (x0, x1, x2, x3, x4, x5, x6, ())) (x0, x1, x2, x3, x4, x5, x6, ())
noncomputable def F44_0 (v : (StT ss44_0 gs44_0)) : Ways (Ex × St) := waysOf s44_0 (n44_0 v) v (bldSt ss44_0 gs44_0) [.exit 0] 0
theorem wf44_0 : wfSt ss44_0 gs44_0 := wf_of (by kernel_rfl)
theorem l44_0 : LoopOk Try.prog (loopAt [true, true, false, true] (bodyOf Try.f44)) ss44_0 gs44_0 F44_0 := loopOk_iter (lt := .none) (m := [false, false, true, true, false, false, true, true, false, false, false, true, true, true, false, false, false, false, false, false, false, false, false, false, false, false, false, false, false, false, false, false, false, false, false, false, false, false, false, false, false]) (keep := [3]) hE44 orders (LtOk.no _) fun n v K => Eq.trans (b := t44_0 v (kont _ _ _ _ _ _ K)) (by kernel_rfl) (show t44_0 v _ = (t44_0 v some).bind _ from (bnd_cond (bnd_ite (bnd_opt fun x1 => (bnd_cond (bnd_cond (bnd_cond (bnd_cond rfl rfl) rfl) rfl) rfl))) rfl))
noncomputable def E44l : Env := { ti := ti, fn := fns, prim := [(103, p103), (104, p104), (105, p105)], eqt := eqts, lt := [(44, (ltPut [true, true, false, true] (bodyOf Try.f44) .none (.sum ss44_0 gs44_0 F44_0)))] }
theorem hE44l : Env.Ok Try.prog E44l := Env.Ok.of tiOk fnOk (mem_cons ok103 <| mem_cons ok104 <| mem_cons ok105 <| mem_nil) (mem_cons (ltOk_of Try.func44 (LtOk.put wf44_0 (LtOk.no _) l44_0)) mem_nil) (mem_nil) eqtOk
noncomputable def f44 (r : Int) : AV × Sig := (.one (.int .i64 r), [])
noncomputable def u44 (a0 : Ty.T y85) (a1 : List (Ty.T y37)) (a2 : Int) : Option (AV × Sig) := cond (k44_0 a2 0 0 a1 ((a1).length : Int) 0 a0 0) (some (.one (.int .i64 (w44_0 a2 0 0 a1 ((a1).length : Int) 0 a0).2.2.1), [])) (none)
noncomputable def v44 (a0 : Ty.T y85) (a1 : List (Ty.T y37)) (a2 : Int) : Int := cond (k44_0 a2 0 0 a1 ((a1).length : Int) 0 a0 0) ((w44_0 a2 0 0 a1 ((a1).length : Int) 0 a0).2.2.1) (0)
noncomputable def d44 (a0 : Ty.T y85) (a1 : List (Ty.T y37)) (a2 : Int) : Bool := cond (k44_0 a2 0 0 a1 ((a1).length : Int) 0 a0 0) (true) (false)
theorem o44 (a0 : Ty.T y85) (a1 : List (Ty.T y37)) (a2 : Int) : u44 a0 a1 a2 = cond (d44 a0 a1 a2) (some (f44 (v44 a0 a1 a2))) none := (par_cond (par_some _) (par_none _))
noncomputable def p44 : Prim := ⟨[.agg [.dat y85 true], .one (.dat (.sl 43 y37) true), .one (.dat (.int .i64) true)], fun v => .br (d44 v.1 v.2.1 v.2.2.1) (.done (f44 (v44 v.1 v.2.1 v.2.2.1))) .no⟩
theorem ok44 : PrimOk Try.prog 44 p44 := primOk_eq hE44l orders fun v => Eq.trans (b := u44 v.1 v.2.1 v.2.2.1) (by kernel_rfl) (o44 v.1 v.2.1 v.2.2.1)
/-! ### laws.eqPiece -/
noncomputable def E127 : Env := { ti := ti, fn := fns, prim := [], eqt := eqts }
theorem hE127 : Env.Ok Try.prog E127 := Env.Ok.of tiOk fnOk (mem_nil) mem_nil (mem_nil) eqtOk
noncomputable def f127 (r : Bool) : AV × Sig := (.one (.bool r), [])
noncomputable def u127 (a0 : Ty.T y35) (a1 : Ty.T y35) : Option (AV × Sig) := cond (a0.1 != a1.1) (some (.one (.bool false), [])) (cond (a0.2.1 != a1.2.1) (some (.one (.bool false), [])) (cond (a0.2.2.1 != a1.2.2.1) (some (.one (.bool false), [])) (cond (a0.2.2.2.1 != a1.2.2.2.1) (some (.one (.bool false), [])) (cond (a0.2.2.2.2.1 != a1.2.2.2.2.1) (some (.one (.bool false), [])) (cond (a0.2.2.2.2.2.1 != a1.2.2.2.2.2.1) (some (.one (.bool false), [])) (cond (a0.2.2.2.2.2.2.1 != a1.2.2.2.2.2.2.1) (some (.one (.bool false), [])) (cond (a0.2.2.2.2.2.2.2.1 != a1.2.2.2.2.2.2.2.1) (some (.one (.bool false), [])) (cond (a0.2.2.2.2.2.2.2.2.1 != a1.2.2.2.2.2.2.2.2.1) (some (.one (.bool false), [])) (cond (a0.2.2.2.2.2.2.2.2.2.1 != a1.2.2.2.2.2.2.2.2.2.1) (some (.one (.bool false), [])) (cond (a0.2.2.2.2.2.2.2.2.2.2.1 != a1.2.2.2.2.2.2.2.2.2.2.1) (some (.one (.bool false), [])) (cond (!(a0.2.2.2.2.2.2.2.2.2.2.2.1 == a1.2.2.2.2.2.2.2.2.2.2.2.1)) (some (.one (.bool false), [])) (cond (!(a0.2.2.2.2.2.2.2.2.2.2.2.2 == a1.2.2.2.2.2.2.2.2.2.2.2.2)) (some (.one (.bool false), [])) (some (.one (.bool true), []))))))))))))))
noncomputable def v127 (a0 : Ty.T y35) (a1 : Ty.T y35) : Bool := cond (a0.1 != a1.1) (false) (cond (a0.2.1 != a1.2.1) (false) (cond (a0.2.2.1 != a1.2.2.1) (false) (cond (a0.2.2.2.1 != a1.2.2.2.1) (false) (cond (a0.2.2.2.2.1 != a1.2.2.2.2.1) (false) (cond (a0.2.2.2.2.2.1 != a1.2.2.2.2.2.1) (false) (cond (a0.2.2.2.2.2.2.1 != a1.2.2.2.2.2.2.1) (false) (cond (a0.2.2.2.2.2.2.2.1 != a1.2.2.2.2.2.2.2.1) (false) (cond (a0.2.2.2.2.2.2.2.2.1 != a1.2.2.2.2.2.2.2.2.1) (false) (cond (a0.2.2.2.2.2.2.2.2.2.1 != a1.2.2.2.2.2.2.2.2.2.1) (false) (cond (a0.2.2.2.2.2.2.2.2.2.2.1 != a1.2.2.2.2.2.2.2.2.2.2.1) (false) (cond (!(a0.2.2.2.2.2.2.2.2.2.2.2.1 == a1.2.2.2.2.2.2.2.2.2.2.2.1)) (false) (cond (!(a0.2.2.2.2.2.2.2.2.2.2.2.2 == a1.2.2.2.2.2.2.2.2.2.2.2.2)) (false) (true)))))))))))))
theorem o127 (a0 : Ty.T y35) (a1 : Ty.T y35) : u127 a0 a1 = some (f127 (v127 a0 a1)) := (tot_cond rfl (tot_cond rfl (tot_cond rfl (tot_cond rfl (tot_cond rfl (tot_cond rfl (tot_cond rfl (tot_cond rfl (tot_cond rfl (tot_cond rfl (tot_cond rfl (tot_cond rfl (tot_cond rfl rfl)))))))))))))
noncomputable def p127 : Prim := ⟨[.agg [.dat y35 true], .agg [.dat y35 true]], fun v => .done (f127 (v127 v.1 v.2.1))⟩
theorem ok127 : PrimOk Try.prog 127 p127 := primOk_eq hE127 orders fun v => Eq.trans (b := u127 v.1 v.2.1) (by kernel_rfl) (o127 v.1 v.2.1)
/-! ### laws.eqPieceS -/
noncomputable def E106 : Env := { ti := ti, fn := fns, prim := [(127, p127)], eqt := eqts }
theorem hE106 : Env.Ok Try.prog E106 := Env.Ok.of tiOk fnOk (mem_cons ok127 <| mem_nil) mem_nil (mem_nil) eqtOk
@[reducible] noncomputable def ss106_0 : List SP := [.one (.dat (.sl 41 y35) true), .one (.dat (.sl 41 y35) true), .und, .und, .one (.dat .bool true), .one (.dat (.int .i64) true), .und, .und, .und, .und, .und, .und, .und, .und, .und, .und, .und, .und, .und, .und, .und, .und, .und, .und, .und, .und, .und]
@[reducible] noncomputable def gs106_0 : List (Nat × GP) := []
noncomputable def t106_0 (v : (StT ss106_0 gs106_0)) {R : Type} (κ : Nat × (StT ss106_0 gs106_0) → Option R) : Option R := cond (decide (v.2.2.2.1 < ((v.1).length : Int))) (if 0 ≤ v.2.2.2.1 then (optC ((v.1)[(v.2.2.2.1).toNat]?) (fun x1 => if 0 ≤ v.2.2.2.1 then (optC ((v.2.1)[(v.2.2.2.1).toNat]?) (fun x2 => cond (!(v127 x1 x2)) (κ (1, (v.1, v.2.1, false, v.2.2.2.1, ()))) (κ (0, (v.1, v.2.1, v.2.2.1, IntKind.wrap .i64 (v.2.2.2.1 + (1 : Int)), ()))))) else none)) else none) (κ (2, (v.1, v.2.1, v.2.2.1, v.2.2.2.1, ())))
noncomputable def s106_0 (v : (StT ss106_0 gs106_0)) : Option (Nat × (StT ss106_0 gs106_0)) := t106_0 v some
noncomputable def n106_0 (v : (StT ss106_0 gs106_0)) : Nat := v.1.length + v.2.1.length + v.2.2.2.1.toNat + 100
noncomputable def k106_0 (x0 : List (Ty.T y35)) (x1 : List (Ty.T y35)) (x2 : Bool) (x3 : Int) (c : Nat) : Bool := iterAt s106_0 (n106_0 (x0, x1, x2, x3, ())) (x0, x1, x2, x3, ()) c
noncomputable def w106_0 (x0 : List (Ty.T y35)) (x1 : List (Ty.T y35)) (x2 : Bool) (x3 : Int) : (StT ss106_0 gs106_0) := iterV s106_0 (n106_0 (x0, x1, x2, x3, ())) (x0, x1, x2, x3, ())
noncomputable def F106_0 (v : (StT ss106_0 gs106_0)) : Ways (Ex × St) := waysOf s106_0 (n106_0 v) v (bldSt ss106_0 gs106_0) [.ret, .exit 0] 0
theorem wf106_0 : wfSt ss106_0 gs106_0 := wf_of (by kernel_rfl)
theorem l106_0 : LoopOk Try.prog (loopAt [true, true, false, true] (bodyOf Try.f106)) ss106_0 gs106_0 F106_0 := loopOk_iter (lt := .none) (m := [true, true, false, false, true, true, false, false, false, false, false, false, false, false, false, false, false, false, false, false, false, false, false, false, false, false, false]) (keep := []) hE106 orders (LtOk.no _) fun n v K => Eq.trans (b := t106_0 v (kont _ _ _ _ _ _ K)) (by kernel_rfl) (show t106_0 v _ = (t106_0 v some).bind _ from (bnd_cond (bnd_ite (bnd_opt fun x1 => (bnd_ite (bnd_opt fun x2 => (bnd_cond rfl rfl))))) rfl))
noncomputable def E106l : Env := { ti := ti, fn := fns, prim := [(127, p127)], eqt := eqts, lt := [(106, (ltPut [true, true, false, true] (bodyOf Try.f106) .none (.sum ss106_0 gs106_0 F106_0)))] }
theorem hE106l : Env.Ok Try.prog E106l := Env.Ok.of tiOk fnOk (mem_cons ok127 <| mem_nil) (mem_cons (ltOk_of Try.func106 (LtOk.put wf106_0 (LtOk.no _) l106_0)) mem_nil) (mem_nil) eqtOk
noncomputable def f106 (r : Bool) : AV × Sig := (.one (.bool r), [])
noncomputable def u106 (a0 : List (Ty.T y35)) (a1 : List (Ty.T y35)) : Option (AV × Sig) := cond (((a0).length : Int) != ((a1).length : Int)) (some (.one (.bool false), [])) (cond (k106_0 a0 a1 false 0 0) (some (.one (.bool (w106_0 a0 a1 false 0).2.2.1), [])) (cond (k106_0 a0 a1 false 0 1) (some (.one (.bool true), [])) (none)))
noncomputable def v106 (a0 : List (Ty.T y35)) (a1 : List (Ty.T y35)) : Bool := cond (((a0).length : Int) != ((a1).length : Int)) (false) (cond (k106_0 a0 a1 false 0 0) ((w106_0 a0 a1 false 0).2.2.1) (cond (k106_0 a0 a1 false 0 1) (true) (false)))
noncomputable def d106 (a0 : List (Ty.T y35)) (a1 : List (Ty.T y35)) : Bool := cond (((a0).length : Int) != ((a1).length : Int)) (true) (cond (k106_0 a0 a1 false 0 0) (true) (cond (k106_0 a0 a1 false 0 1) (true) (false)))
theorem o106 (a0 : List (Ty.T y35)) (a1 : List (Ty.T y35)) : u106 a0 a1 = cond (d106 a0 a1) (some (f106 (v106 a0 a1))) none := (par_cond (par_some _) (par_cond (par_some _) (par_cond (par_some _) (par_none _))))
noncomputable def p106 : Prim := ⟨[.one (.dat (.sl 41 y35) true), .one (.dat (.sl 41 y35) true)], fun v => .br (d106 v.1 v.2.1) (.done (f106 (v106 v.1 v.2.1))) .no⟩
theorem ok106 : PrimOk Try.prog 106 p106 := primOk_eq hE106l orders fun v => Eq.trans (b := u106 v.1 v.2.1) (by kernel_rfl) (o106 v.1 v.2.1)
/-! ### laws.eqSide -/
noncomputable def E128 : Env := { ti := ti, fn := fns, prim := [], eqt := eqts }
theorem hE128 : Env.Ok Try.prog E128 := Env.Ok.of tiOk fnOk (mem_nil) mem_nil (mem_nil) eqtOk
noncomputable def f128 (r : Bool) : AV × Sig := (.one (.bool r), [])
noncomputable def u128 (a0 : Ty.T y163) (a1 : Ty.T y163) : Option (AV × Sig) := cond (a0.1 != a1.1) (some (.one (.bool false), [])) (cond (a0.2.1 != a1.2.1) (some (.one (.bool false), [])) (cond (!(a0.2.2 == a1.2.2)) (some (.one (.bool false), [])) (some (.one (.bool true), []))))
noncomputable def v128 (a0 : Ty.T y163) (a1 : Ty.T y163) : Bool := cond (a0.1 != a1.1) (false) (cond (a0.2.1 != a1.2.1) (false) (cond (!(a0.2.2 == a1.2.2)) (false) (true)))
theorem o128 (a0 : Ty.T y163) (a1 : Ty.T y163) : u128 a0 a1 = some (f128 (v128 a0 a1)) := (tot_cond rfl (tot_cond rfl (tot_cond rfl rfl)))
noncomputable def p128 : Prim := ⟨[.agg [.dat y163 true], .agg [.dat y163 true]], fun v => .done (f128 (v128 v.1 v.2.1))⟩
theorem ok128 : PrimOk Try.prog 128 p128 := primOk_eq hE128 orders fun v => Eq.trans (b := u128 v.1 v.2.1) (by kernel_rfl) (o128 v.1 v.2.1)
/-! ### laws.eqSideS -/
noncomputable def E107 : Env := { ti := ti, fn := fns, prim := [(128, p128)], eqt := eqts }
theorem hE107 : Env.Ok Try.prog E107 := Env.Ok.of tiOk fnOk (mem_cons ok128 <| mem_nil) mem_nil (mem_nil) eqtOk
@[reducible] noncomputable def ss107_0 : List SP := [.one (.dat (.sl 164 y163) true), .one (.dat (.sl 164 y163) true), .und, .und, .one (.dat .bool true), .one (.dat (.int .i64) true), .und, .und, .und, .und, .und, .und, .und, .und, .und, .und, .und, .und, .und, .und, .und, .und, .und, .und, .und, .und, .und]
@[reducible] noncomputable def gs107_0 : List (Nat × GP) := []
noncomputable def t107_0 (v : (StT ss107_0 gs107_0)) {R : Type} (κ : Nat × (StT ss107_0 gs107_0) → Option R) : Option R := cond (decide (v.2.2.2.1 < ((v.1).length : Int))) (if 0 ≤ v.2.2.2.1 then (optC ((v.1)[(v.2.2.2.1).toNat]?) (fun x1 => if 0 ≤ v.2.2.2.1 then (optC ((v.2.1)[(v.2.2.2.1).toNat]?) (fun x2 => cond (!(v128 x1 x2)) (κ (1, (v.1, v.2.1, false, v.2.2.2.1, ()))) (κ (0, (v.1, v.2.1, v.2.2.1, IntKind.wrap .i64 (v.2.2.2.1 + (1 : Int)), ()))))) else none)) else none) (κ (2, (v.1, v.2.1, v.2.2.1, v.2.2.2.1, ())))
noncomputable def s107_0 (v : (StT ss107_0 gs107_0)) : Option (Nat × (StT ss107_0 gs107_0)) := t107_0 v some
noncomputable def n107_0 (v : (StT ss107_0 gs107_0)) : Nat := v.1.length + v.2.1.length + v.2.2.2.1.toNat + 100
noncomputable def k107_0 (x0 : List (Ty.T y163)) (x1 : List (Ty.T y163)) (x2 : Bool) (x3 : Int) (c : Nat) : Bool := iterAt s107_0 (n107_0 (x0, x1, x2, x3, ())) (x0, x1, x2, x3, ()) c
noncomputable def w107_0 (x0 : List (Ty.T y163)) (x1 : List (Ty.T y163)) (x2 : Bool) (x3 : Int) : (StT ss107_0 gs107_0) := iterV s107_0 (n107_0 (x0, x1, x2, x3, ())) (x0, x1, x2, x3, ())
noncomputable def F107_0 (v : (StT ss107_0 gs107_0)) : Ways (Ex × St) := waysOf s107_0 (n107_0 v) v (bldSt ss107_0 gs107_0) [.ret, .exit 0] 0
theorem wf107_0 : wfSt ss107_0 gs107_0 := wf_of (by kernel_rfl)
theorem l107_0 : LoopOk Try.prog (loopAt [true, true, false, true] (bodyOf Try.f107)) ss107_0 gs107_0 F107_0 := loopOk_iter (lt := .none) (m := [true, true, false, false, true, true, false, false, false, false, false, false, false, false, false, false, false, false, false, false, false, false, false, false, false, false, false]) (keep := []) hE107 orders (LtOk.no _) fun n v K => Eq.trans (b := t107_0 v (kont _ _ _ _ _ _ K)) (by kernel_rfl) (show t107_0 v _ = (t107_0 v some).bind _ from (bnd_cond (bnd_ite (bnd_opt fun x1 => (bnd_ite (bnd_opt fun x2 => (bnd_cond rfl rfl))))) rfl))
noncomputable def E107l : Env := { ti := ti, fn := fns, prim := [(128, p128)], eqt := eqts, lt := [(107, (ltPut [true, true, false, true] (bodyOf Try.f107) .none (.sum ss107_0 gs107_0 F107_0)))] }
theorem hE107l : Env.Ok Try.prog E107l := Env.Ok.of tiOk fnOk (mem_cons ok128 <| mem_nil) (mem_cons (ltOk_of Try.func107 (LtOk.put wf107_0 (LtOk.no _) l107_0)) mem_nil) (mem_nil) eqtOk
noncomputable def f107 (r : Bool) : AV × Sig := (.one (.bool r), [])
noncomputable def u107 (a0 : List (Ty.T y163)) (a1 : List (Ty.T y163)) : Option (AV × Sig) := cond (((a0).length : Int) != ((a1).length : Int)) (some (.one (.bool false), [])) (cond (k107_0 a0 a1 false 0 0) (some (.one (.bool (w107_0 a0 a1 false 0).2.2.1), [])) (cond (k107_0 a0 a1 false 0 1) (some (.one (.bool true), [])) (none)))
noncomputable def v107 (a0 : List (Ty.T y163)) (a1 : List (Ty.T y163)) : Bool := cond (((a0).length : Int) != ((a1).length : Int)) (false) (cond (k107_0 a0 a1 false 0 0) ((w107_0 a0 a1 false 0).2.2.1) (cond (k107_0 a0 a1 false 0 1) (true) (false)))
noncomputable def d107 (a0 : List (Ty.T y163)) (a1 : List (Ty.T y163)) : Bool := cond (((a0).length : Int) != ((a1).length : Int)) (true) (cond (k107_0 a0 a1 false 0 0) (true) (cond (k107_0 a0 a1 false 0 1) (true) (false)))
theorem o107 (a0 : List (Ty.T y163)) (a1 : List (Ty.T y163)) : u107 a0 a1 = cond (d107 a0 a1) (some (f107 (v107 a0 a1))) none := (par_cond (par_some _) (par_cond (par_some _) (par_cond (par_some _) (par_none _))))
noncomputable def p107 : Prim := ⟨[.one (.dat (.sl 164 y163) true), .one (.dat (.sl 164 y163) true)], fun v => .br (d107 v.1 v.2.1) (.done (f107 (v107 v.1 v.2.1))) .no⟩
theorem ok107 : PrimOk Try.prog 107 p107 := primOk_eq hE107l orders fun v => Eq.trans (b := u107 v.1 v.2.1) (by kernel_rfl) (o107 v.1 v.2.1)
/-! ### laws.eqState -/
noncomputable def E45 : Env := { ti := ti, fn := fns, prim := [(106, p106), (107, p107)], eqt := eqts }
theorem hE45 : Env.Ok Try.prog E45 := Env.Ok.of tiOk fnOk (mem_cons ok106 <| mem_cons ok107 <| mem_nil) mem_nil (mem_nil) eqtOk
noncomputable def f45 (r : Bool) : AV × Sig := (.one (.bool r), [])
noncomputable def u45 (a0 : Ty.T y85) (a1 : Ty.T y85) : Option (AV × Sig) := cond (d106 a0.1 a1.1) (cond (!(v106 a0.1 a1.1)) (some (.one (.bool false), [])) (cond (d107 a0.2.1 a1.2.1) (cond (!(v107 a0.2.1 a1.2.1)) (some (.one (.bool false), [])) (cond (a0.2.2.1 != a1.2.2.1) (some (.one (.bool false), [])) (cond (a0.2.2.2 != a1.2.2.2) (some (.one (.bool false), [])) (some (.one (.bool true), []))))) (none))) (none)
noncomputable def v45 (a0 : Ty.T y85) (a1 : Ty.T y85) : Bool := cond (d106 a0.1 a1.1) (cond (!(v106 a0.1 a1.1)) (false) (cond (d107 a0.2.1 a1.2.1) (cond (!(v107 a0.2.1 a1.2.1)) (false) (cond (a0.2.2.1 != a1.2.2.1) (false) (cond (a0.2.2.2 != a1.2.2.2) (false) (true)))) (false))) (false)
noncomputable def d45 (a0 : Ty.T y85) (a1 : Ty.T y85) : Bool := cond (d106 a0.1 a1.1) (cond (!(v106 a0.1 a1.1)) (true) (cond (d107 a0.2.1 a1.2.1) (cond (!(v107 a0.2.1 a1.2.1)) (true) (cond (a0.2.2.1 != a1.2.2.1) (true) (cond (a0.2.2.2 != a1.2.2.2) (true) (true)))) (false))) (false)
theorem o45 (a0 : Ty.T y85) (a1 : Ty.T y85) : u45 a0 a1 = cond (d45 a0 a1) (some (f45 (v45 a0 a1))) none := (par_cond (par_cond (par_some _) (par_cond (par_cond (par_some _) (par_cond (par_some _) (par_cond (par_some _) (par_some _)))) (par_none _))) (par_none _))
noncomputable def p45 : Prim := ⟨[.agg [.dat y85 true], .agg [.dat y85 true]], fun v => .br (d45 v.1 v.2.1) (.done (f45 (v45 v.1 v.2.1))) .no⟩
theorem ok45 : PrimOk Try.prog 45 p45 := primOk_eq hE45 orders fun v => Eq.trans (b := u45 v.1 v.2.1) (by kernel_rfl) (o45 v.1 v.2.1)
/-! ### laws.eqEvent -/
noncomputable def E110 : Env := { ti := ti, fn := fns, prim := [], eqt := eqts }
theorem hE110 : Env.Ok Try.prog E110 := Env.Ok.of tiOk fnOk (mem_nil) mem_nil (mem_nil) eqtOk
noncomputable def f110 (r : Bool) : AV × Sig := (.one (.bool r), [])
noncomputable def u110 (a0 : Ty.T y33) (a1 : Ty.T y33) : Option (AV × Sig) := cond (a0.1 != a1.1) (some (.one (.bool false), [])) (cond (a0.2.1 != a1.2.1) (some (.one (.bool false), [])) (cond (a0.2.2.1 != a1.2.2.1) (some (.one (.bool false), [])) (cond (a0.2.2.2.1 != a1.2.2.2.1) (some (.one (.bool false), [])) (cond (a0.2.2.2.2.1 != a1.2.2.2.2.1) (some (.one (.bool false), [])) (cond (a0.2.2.2.2.2.1 != a1.2.2.2.2.2.1) (some (.one (.bool false), [])) (cond (!(a0.2.2.2.2.2.2 == a1.2.2.2.2.2.2)) (some (.one (.bool false), [])) (some (.one (.bool true), []))))))))
noncomputable def v110 (a0 : Ty.T y33) (a1 : Ty.T y33) : Bool := cond (a0.1 != a1.1) (false) (cond (a0.2.1 != a1.2.1) (false) (cond (a0.2.2.1 != a1.2.2.1) (false) (cond (a0.2.2.2.1 != a1.2.2.2.1) (false) (cond (a0.2.2.2.2.1 != a1.2.2.2.2.1) (false) (cond (a0.2.2.2.2.2.1 != a1.2.2.2.2.2.1) (false) (cond (!(a0.2.2.2.2.2.2 == a1.2.2.2.2.2.2)) (false) (true)))))))
theorem o110 (a0 : Ty.T y33) (a1 : Ty.T y33) : u110 a0 a1 = some (f110 (v110 a0 a1)) := (tot_cond rfl (tot_cond rfl (tot_cond rfl (tot_cond rfl (tot_cond rfl (tot_cond rfl (tot_cond rfl rfl)))))))
noncomputable def p110 : Prim := ⟨[.agg [.dat y33 true], .agg [.dat y33 true]], fun v => .done (f110 (v110 v.1 v.2.1))⟩
theorem ok110 : PrimOk Try.prog 110 p110 := primOk_eq hE110 orders fun v => Eq.trans (b := u110 v.1 v.2.1) (by kernel_rfl) (o110 v.1 v.2.1)
/-! ### laws.eqNote -/
noncomputable def E108 : Env := { ti := ti, fn := fns, prim := [(110, p110), (127, p127)], eqt := eqts }
theorem hE108 : Env.Ok Try.prog E108 := Env.Ok.of tiOk fnOk (mem_cons ok110 <| mem_cons ok127 <| mem_nil) mem_nil (mem_nil) eqtOk
noncomputable def f108 (r : Bool) : AV × Sig := (.one (.bool r), [])
noncomputable def u108 (a0 : Ty.T y37) (a1 : Ty.T y37) : Option (AV × Sig) := cond (a0.1 != a1.1) (some (.one (.bool false), [])) (cond (!(v110 a0.2.1 a1.2.1)) (some (.one (.bool false), [])) (cond (a0.2.2.1 != a1.2.2.1) (some (.one (.bool false), [])) (cond (a0.2.2.2.1 != a1.2.2.2.1) (some (.one (.bool false), [])) (cond (!(v127 a0.2.2.2.2 a1.2.2.2.2)) (some (.one (.bool false), [])) (some (.one (.bool true), []))))))
noncomputable def v108 (a0 : Ty.T y37) (a1 : Ty.T y37) : Bool := cond (a0.1 != a1.1) (false) (cond (!(v110 a0.2.1 a1.2.1)) (false) (cond (a0.2.2.1 != a1.2.2.1) (false) (cond (a0.2.2.2.1 != a1.2.2.2.1) (false) (cond (!(v127 a0.2.2.2.2 a1.2.2.2.2)) (false) (true)))))
theorem o108 (a0 : Ty.T y37) (a1 : Ty.T y37) : u108 a0 a1 = some (f108 (v108 a0 a1)) := (tot_cond rfl (tot_cond rfl (tot_cond rfl (tot_cond rfl (tot_cond rfl rfl)))))
noncomputable def p108 : Prim := ⟨[.agg [.dat y37 true], .agg [.dat y37 true]], fun v => .done (f108 (v108 v.1 v.2.1))⟩
theorem ok108 : PrimOk Try.prog 108 p108 := primOk_eq hE108 orders fun v => Eq.trans (b := u108 v.1 v.2.1) (by kernel_rfl) (o108 v.1 v.2.1)
/-! ### laws.eqNoteS -/
noncomputable def E46 : Env := { ti := ti, fn := fns, prim := [(108, p108)], eqt := eqts }
theorem hE46 : Env.Ok Try.prog E46 := Env.Ok.of tiOk fnOk (mem_cons ok108 <| mem_nil) mem_nil (mem_nil) eqtOk
@[reducible] noncomputable def ss46_0 : List SP := [.one (.dat (.sl 43 y37) true), .one (.dat (.sl 43 y37) true), .und, .und, .one (.dat .bool true), .one (.dat (.int .i64) true), .und, .und, .und, .und, .und, .und, .und, .und, .und, .und, .und, .und, .und, .und, .und, .und, .und, .und, .und, .und, .und]
@[reducible] noncomputable def gs46_0 : List (Nat × GP) := []
noncomputable def t46_0 (v : (StT ss46_0 gs46_0)) {R : Type} (κ : Nat × (StT ss46_0 gs46_0) → Option R) : Option R := cond (decide (v.2.2.2.1 < ((v.1).length : Int))) (if 0 ≤ v.2.2.2.1 then (optC ((v.1)[(v.2.2.2.1).toNat]?) (fun x1 => if 0 ≤ v.2.2.2.1 then (optC ((v.2.1)[(v.2.2.2.1).toNat]?) (fun x2 => cond (!(v108 x1 x2)) (κ (1, (v.1, v.2.1, false, v.2.2.2.1, ()))) (κ (0, (v.1, v.2.1, v.2.2.1, IntKind.wrap .i64 (v.2.2.2.1 + (1 : Int)), ()))))) else none)) else none) (κ (2, (v.1, v.2.1, v.2.2.1, v.2.2.2.1, ())))
noncomputable def s46_0 (v : (StT ss46_0 gs46_0)) : Option (Nat × (StT ss46_0 gs46_0)) := t46_0 v some
noncomputable def n46_0 (v : (StT ss46_0 gs46_0)) : Nat := v.1.length + v.2.1.length + v.2.2.2.1.toNat + 100
noncomputable def k46_0 (x0 : List (Ty.T y37)) (x1 : List (Ty.T y37)) (x2 : Bool) (x3 : Int) (c : Nat) : Bool := iterAt s46_0 (n46_0 (x0, x1, x2, x3, ())) (x0, x1, x2, x3, ()) c
noncomputable def w46_0 (x0 : List (Ty.T y37)) (x1 : List (Ty.T y37)) (x2 : Bool) (x3 : Int) : (StT ss46_0 gs46_0) := iterV s46_0 (n46_0 (x0, x1, x2, x3, ())) (x0, x1, x2, x3, ())
noncomputable def F46_0 (v : (StT ss46_0 gs46_0)) : Ways (Ex × St) := waysOf s46_0 (n46_0 v) v (bldSt ss46_0 gs46_0) [.ret, .exit 0] 0
theorem wf46_0 : wfSt ss46_0 gs46_0 := wf_of (by kernel_rfl)
theorem l46_0 : LoopOk Try.prog (loopAt [true, true, false, true] (bodyOf Try.f46)) ss46_0 gs46_0 F46_0 := loopOk_iter (lt := .none) (m := [true, true, false, false, true, true, false, false, false, false, false, false, false, false, false, false, false, false, false, false, false, false, false, false, false, false, false]) (keep := []) hE46 orders (LtOk.no _) fun n v K => Eq.trans (b := t46_0 v (kont _ _ _ _ _ _ K)) (by kernel_rfl) (show t46_0 v _ = (t46_0 v some).bind _ from (bnd_cond (bnd_ite (bnd_opt fun x1 => (bnd_ite (bnd_opt fun x2 => (bnd_cond rfl rfl))))) rfl))
noncomputable def E46l : Env := { ti := ti, fn := fns, prim := [(108, p108)], eqt := eqts, lt := [(46, (ltPut [true, true, false, true] (bodyOf Try.f46) .none (.sum ss46_0 gs46_0 F46_0)))] }
theorem hE46l : Env.Ok Try.prog E46l := Env.Ok.of tiOk fnOk (mem_cons ok108 <| mem_nil) (mem_cons (ltOk_of Try.func46 (LtOk.put wf46_0 (LtOk.no _) l46_0)) mem_nil) (mem_nil) eqtOk
noncomputable def f46 (r : Bool) : AV × Sig := (.one (.bool r), [])
noncomputable def u46 (a0 : List (Ty.T y37)) (a1 : List (Ty.T y37)) : Option (AV × Sig) := cond (((a0).length : Int) != ((a1).length : Int)) (some (.one (.bool false), [])) (cond (k46_0 a0 a1 false 0 0) (some (.one (.bool (w46_0 a0 a1 false 0).2.2.1), [])) (cond (k46_0 a0 a1 false 0 1) (some (.one (.bool true), [])) (none)))
noncomputable def v46 (a0 : List (Ty.T y37)) (a1 : List (Ty.T y37)) : Bool := cond (((a0).length : Int) != ((a1).length : Int)) (false) (cond (k46_0 a0 a1 false 0 0) ((w46_0 a0 a1 false 0).2.2.1) (cond (k46_0 a0 a1 false 0 1) (true) (false)))
noncomputable def d46 (a0 : List (Ty.T y37)) (a1 : List (Ty.T y37)) : Bool := cond (((a0).length : Int) != ((a1).length : Int)) (true) (cond (k46_0 a0 a1 false 0 0) (true) (cond (k46_0 a0 a1 false 0 1) (true) (false)))
theorem o46 (a0 : List (Ty.T y37)) (a1 : List (Ty.T y37)) : u46 a0 a1 = cond (d46 a0 a1) (some (f46 (v46 a0 a1))) none := (par_cond (par_some _) (par_cond (par_some _) (par_cond (par_some _) (par_none _))))
noncomputable def p46 : Prim := ⟨[.one (.dat (.sl 43 y37) true), .one (.dat (.sl 43 y37) true)], fun v => .br (d46 v.1 v.2.1) (.done (f46 (v46 v.1 v.2.1))) .no⟩
theorem ok46 : PrimOk Try.prog 46 p46 := primOk_eq hE46l orders fun v => Eq.trans (b := u46 v.1 v.2.1) (by kernel_rfl) (o46 v.1 v.2.1)
/-! ### laws.FnExactLinkGain -/
noncomputable def E8 : Env := { ti := ti, fn := fns, prim := [(39, p39), (40, p40), (41, p41), (42, p42), (43, p43), (44, p44), (45, p45), (46, p46)], eqt := eqts }
theorem hE8 : Env.Ok Try.prog E8 := Env.Ok.of tiOk fnOk (mem_cons ok39 <| mem_cons ok40 <| mem_cons ok41 <| mem_cons ok42 <| mem_cons ok43 <| mem_cons ok44 <| mem_cons ok45 <| mem_cons ok46 <| mem_nil) mem_nil (mem_nil) eqtOk
noncomputable def f8 (r : Bool) : AV × Sig := (.one (.bool r), [])
noncomputable def u8 (a0 : Ty.T y77) (a1 : List (Ty.T y37)) (a2 : Int) : Option (AV × Sig) := cond (decide ((v39 a0 1048576) < (0 : Int))) (some (.one (.bool true), [])) (cond (decide ((v40 a1 (v39 a0 1048576)) < (0 : Int))) (some (.one (.bool true), [])) (cond (d42 a0) (cond (d43 a1) (cond (d41 ((v42 a0).2.2.1, ((v42 a0).2.2.2, ((v42 a0).1, (v42 a0).2.1))) (v43 a1) a2) (cond (d42 a0) (cond (d43 a1) (cond (d44 ((v42 a0).2.2.1, ((v42 a0).2.2.2, ((v42 a0).1, (v42 a0).2.1))) (v43 a1) a2) (cond ((v44 ((v42 a0).2.2.1, ((v42 a0).2.2.2, ((v42 a0).1, (v42 a0).2.1))) (v43 a1) a2) != (v41 ((v42 a0).2.2.1, ((v42 a0).2.2.2, ((v42 a0).1, (v42 a0).2.1))) (v43 a1) a2)) (some (.one (.bool false), [])) (cond (d42 a0) (cond (d45 ((v42 a0).2.2.1, ((v42 a0).2.2.2, ((v42 a0).1, (v42 a0).2.1))) ((v42 a0).2.2.1, ((v42 a0).2.2.2, ((v42 a0).1, (v42 a0).2.1)))) (cond (!(v45 ((v42 a0).2.2.1, ((v42 a0).2.2.2, ((v42 a0).1, (v42 a0).2.1))) ((v42 a0).2.2.1, ((v42 a0).2.2.2, ((v42 a0).1, (v42 a0).2.1))))) (some (.one (.bool false), [])) (cond (d43 a1) (cond (d46 (v43 a1) (v43 a1)) (cond (!(v46 (v43 a1) (v43 a1))) (some (.one (.bool false), [])) (some (.one (.bool true), []))) (none)) (none))) (none)) (none))) (none)) (none)) (none)) (none)) (none)) (none)))
noncomputable def v8 (a0 : Ty.T y77) (a1 : List (Ty.T y37)) (a2 : Int) : Bool := cond (decide ((v39 a0 1048576) < (0 : Int))) (true) (cond (decide ((v40 a1 (v39 a0 1048576)) < (0 : Int))) (true) (cond (d42 a0) (cond (d43 a1) (cond (d41 ((v42 a0).2.2.1, ((v42 a0).2.2.2, ((v42 a0).1, (v42 a0).2.1))) (v43 a1) a2) (cond (d42 a0) (cond (d43 a1) (cond (d44 ((v42 a0).2.2.1, ((v42 a0).2.2.2, ((v42 a0).1, (v42 a0).2.1))) (v43 a1) a2) (cond ((v44 ((v42 a0).2.2.1, ((v42 a0).2.2.2, ((v42 a0).1, (v42 a0).2.1))) (v43 a1) a2) != (v41 ((v42 a0).2.2.1, ((v42 a0).2.2.2, ((v42 a0).1, (v42 a0).2.1))) (v43 a1) a2)) (false) (cond (d42 a0) (cond (d45 ((v42 a0).2.2.1, ((v42 a0).2.2.2, ((v42 a0).1, (v42 a0).2.1))) ((v42 a0).2.2.1, ((v42 a0).2.2.2, ((v42 a0).1, (v42 a0).2.1)))) (cond (!(v45 ((v42 a0).2.2.1, ((v42 a0).2.2.2, ((v42 a0).1, (v42 a0).2.1))) ((v42 a0).2.2.1, ((v42 a0).2.2.2, ((v42 a0).1, (v42 a0).2.1))))) (false) (cond (d43 a1) (cond (d46 (v43 a1) (v43 a1)) (cond (!(v46 (v43 a1) (v43 a1))) (false) (true)) (false)) (false))) (false)) (false))) (false)) (false)) (false)) (false)) (false)) (false)))
noncomputable def d8 (a0 : Ty.T y77) (a1 : List (Ty.T y37)) (a2 : Int) : Bool := cond (decide ((v39 a0 1048576) < (0 : Int))) (true) (cond (decide ((v40 a1 (v39 a0 1048576)) < (0 : Int))) (true) (cond (d42 a0) (cond (d43 a1) (cond (d41 ((v42 a0).2.2.1, ((v42 a0).2.2.2, ((v42 a0).1, (v42 a0).2.1))) (v43 a1) a2) (cond (d42 a0) (cond (d43 a1) (cond (d44 ((v42 a0).2.2.1, ((v42 a0).2.2.2, ((v42 a0).1, (v42 a0).2.1))) (v43 a1) a2) (cond ((v44 ((v42 a0).2.2.1, ((v42 a0).2.2.2, ((v42 a0).1, (v42 a0).2.1))) (v43 a1) a2) != (v41 ((v42 a0).2.2.1, ((v42 a0).2.2.2, ((v42 a0).1, (v42 a0).2.1))) (v43 a1) a2)) (true) (cond (d42 a0) (cond (d45 ((v42 a0).2.2.1, ((v42 a0).2.2.2, ((v42 a0).1, (v42 a0).2.1))) ((v42 a0).2.2.1, ((v42 a0).2.2.2, ((v42 a0).1, (v42 a0).2.1)))) (cond (!(v45 ((v42 a0).2.2.1, ((v42 a0).2.2.2, ((v42 a0).1, (v42 a0).2.1))) ((v42 a0).2.2.1, ((v42 a0).2.2.2, ((v42 a0).1, (v42 a0).2.1))))) (true) (cond (d43 a1) (cond (d46 (v43 a1) (v43 a1)) (cond (!(v46 (v43 a1) (v43 a1))) (true) (true)) (false)) (false))) (false)) (false))) (false)) (false)) (false)) (false)) (false)) (false)))
theorem o8 (a0 : Ty.T y77) (a1 : List (Ty.T y37)) (a2 : Int) : u8 a0 a1 a2 = cond (d8 a0 a1 a2) (some (f8 (v8 a0 a1 a2))) none := (par_cond (par_some _) (par_cond (par_some _) (par_cond (par_cond (par_cond (par_cond (par_cond (par_cond (par_cond (par_some _) (par_cond (par_cond (par_cond (par_some _) (par_cond (par_cond (par_cond (par_some _) (par_some _)) (par_none _)) (par_none _))) (par_none _)) (par_none _))) (par_none _)) (par_none _)) (par_none _)) (par_none _)) (par_none _)) (par_none _))))
noncomputable def p8 : Prim := ⟨[.agg [.dat y77 true], .one (.dat (.sl 38 y37) true), .one (.dat (.int .i64) true)], fun v => .br (d8 v.1 v.2.1 v.2.2.1) (.done (f8 (v8 v.1 v.2.1 v.2.2.1))) .no⟩
theorem ok8 : PrimOk Try.prog 8 p8 := primOk_eq hE8 orders fun v => Eq.trans (b := u8 v.1 v.2.1 v.2.2.1) (by kernel_rfl) (o8 v.1 v.2.1 v.2.2.1)
end Go.Proofs.Ytnbmifoebaoemaa.Vm
